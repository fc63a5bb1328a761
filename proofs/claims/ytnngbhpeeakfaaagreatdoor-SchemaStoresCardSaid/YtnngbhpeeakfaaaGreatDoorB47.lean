/- Parts of a proof. -/
import Derived.Test.YtnngbhpeeakfaaaGreatDoorB08
import Derived.Test.YtnngbhpeeakfaaaGreatDoorB46
set_option maxHeartbeats 8000000
set_option maxRecDepth 100000
namespace Go.Proofs.YtnngbhpeeakfaaaGreatDoor
open Go.Proofs.Tryz
open Go.RowKit
open aK
theorem Bf (a:ByteArray) (i:Int) (b:ByteArray) (j:Int) (w:World) (hG:Gp w) (hi0: -9223372036854775808≤i) (hi1:i≤9223372036854775807) (hj0: -9223372036854775808≤j) (hj1:j≤9223372036854775807):
 Calls prog 5 #[.string a, .int .i64 i, .string b, .int .i64 j] w fun e w' =>e= .returned (.bool true)∧Below w.heap.size w w' :=by
 have HA:Hid (∀w',Below w.heap.size w w' →Calls prog 15 #[] w' fun e w'' =>e= .returned (.bool true)∧Below w'.heap.size w' w''):=fun w' hb=>LV (hG.below hb)
 have hA0:=HA.out w (Below.refl _ _);by_cases ha:a.size≤80
 case neg=>
  have p0:(80:Int)<(a.size:Int):=by omega
  go_enter func5,ntmps5;go_wp2_with fail;refine hA0.mono ?_;rintro e w2 ⟨rfl,hb2⟩;go_wp2_with fail;go_ret;exact ⟨rfl,hb2⟩
 by_cases hb:b.size≤80
 case neg=>
  have p0:¬(80:Int)<(a.size:Int):=by omega
  have p1:(80:Int)<(b.size:Int):=by omega
  go_enter func5,ntmps5;go_wp2_with fail;refine hA0.mono ?_;rintro e w2 ⟨rfl,hb2⟩;go_wp2_with fail;go_ret;exact ⟨rfl,hb2⟩
 have p0:¬(80:Int)<(a.size:Int):=by omega
 have p1:¬(80:Int)<(b.size:Int):=by omega
 have hx:=Int.emod_nonneg i (show (100000:Int)≠0 by omega);have hx2:=Int.emod_lt_of_pos i (show (0:Int)<100000 by omega);have hy:=Int.emod_nonneg j (show (100000:Int)≠0 by omega);have hy2:=Int.emod_lt_of_pos j (show (0:Int)<100000 by omega);have hpi:=Gd i 100000 w (by omega) (by omega) hi0 hi1;have hpj:=Gd j 100000 w (by omega) (by omega) hj0 hj1;obtain ⟨x,hxe⟩:∃x,i % 100000=x:=⟨_,rfl⟩;obtain ⟨y,hye⟩:∃y,j % 100000=y:=⟨_,rfl⟩;rw [hxe]at hx hx2 hpi;rw [hye]at hy hy2 hpj;clear hxe hye hi0 hi1 hj0 hj1 hA0;have HS:Hid (∀(s:ByteArray) (z:Int) w',s.size≤80→ -10≤z∧z≤100000→Below w.heap.size w w' →Calls prog 18 #[.string s, .int .i64 z] w' fun e w'' =>e= .returned (.string (lX s z))∧Below w'.heap.size w' w''):=fun s z w' hs hz hb=>ES s z (by omega) (by omega) w' (hG.below hb)
 have hE:((lX a x).toList==(lX b y).toList)=((a.toList==b.toList)&&(x==y)):=by
  rw [bU,bU,Bool.eq_iff_iff,Bool.and_eq_true];unfold fB;rw [decide_eq_true_eq,decide_eq_true_eq,beq_iff_eq];exact aal a b x y hx hy
 have hsz:=Uz a x;have hq:(((lX a x).extract 0 a.size).toList==a.toList)=true:=by rw [XZ,bU];unfold fB;simp
 have h5:((lX a (-5)).toList==(lX a 0).toList)=true:=by
  rw [bU];unfold fB lX;simp
 have hS1:=HS.out a x w ha (by omega) (Below.refl _ _);have HS2:Hid (∀w',Below w.heap.size w w' →Calls prog 18 #[.string b, .int .i64 y] w' fun e w'' =>e= .returned (.string (lX b y))∧Below w'.heap.size w' w''):=fun w' hw=>HS.out b y w' hb (by omega) hw
 have HS5:Hid (∀w',Below w.heap.size w w' →Calls prog 18 #[.string a, .int .i64 (-5)] w' fun e w'' =>e= .returned (.string (lX a (-5)))∧Below w'.heap.size w' w''):=fun w' hw=>HS.out a (-5) w' ha (by omega) hw
 have YR:Hid (∀w',Below w.heap.size w w' →Calls prog 18 #[.string a, .int .i64 0] w' fun e w'' =>e= .returned (.string (lX a 0))∧Below w'.heap.size w' w''):=fun w' hw=>HS.out a 0 w' ha (by omega) hw
 have hl:(lX a x).size≤1000:=by
  unfold lX;have:=lS (if x<0 then 0 else x) (by unfold Jr;split<;>omega);rw [ByteArray.size_append,ByteArray.size_append];have:(⟨#[95]⟩:ah).size=1:=rfl;omega
 clear HS;generalize lX a x=P at *;generalize lX b y=Q at *;generalize lX a (-5)=P5 at *;generalize lX a 0=P0 at *;obtain ⟨c2,e2⟩:∃c,(a.toList==b.toList)=c:=⟨_,rfl⟩;obtain ⟨c3,e3⟩:∃c,(x==y)=c:=⟨_,rfl⟩;rw [e2,e3]at hE;have p3:(a.size:Int)+1<(P.size:Int):=by omega
 have p4:IntKind.i64.wrap ((a.size:Int)+1)=(a.size:Int)+1:=IntWalk.i64_in _ (by omega);have p5:(0:Int)≤(a.size:Int):=by omega
 have p6:(a.size:Int)≤(P.size:Int):=by omega
 have p7:a.size≤P.size:=by omega
 clear hsz hl ha hb hx hx2 hy hy2 hG;go_enter func5,ntmps5;go_wp2_with fail;refine hpi.mono ?_;rintro e w1 ⟨rfl,rfl⟩;go_wp2_with fail;refine hpj.mono ?_;rintro e w1 ⟨rfl,rfl⟩;go_wp2_with fail;refine hS1.mono ?_;rintro e w2 ⟨rfl,hb2⟩;have h2:=HS2.out w2 hb2;go_wp2_with fail;refine h2.mono ?_;rintro e w3 ⟨rfl,hb3⟩;have hB3:=hb2.trans (hb3.mono hb2.size);have h3:=HS5.out w3 hB3;clear h2 hS1 hpi hpj;cases c2<;>cases c3
 all_goals
  simp only [Bool.and_true,Bool.and_false]at hE;go_wp2_with fail;refine h3.mono ?_;rintro e w4 ⟨rfl,hb4⟩;have hB4:=hB3.trans (hb4.mono hB3.size);have h4:=YR.out w4 hB4;go_wp2_with fail;refine h4.mono ?_;rintro e w5 ⟨rfl,hb5⟩;have kU:=hB4.trans (hb5.mono hB4.size);have h5:=HA.out w5 kU;go_wp2_with fail;refine h5.mono ?_;rintro e w6 ⟨rfl,hb6⟩;go_wp2_with fail;go_ret;exact ⟨rfl,kU.trans (hb6.mono kU.size)⟩
end Go.Proofs.YtnngbhpeeakfaaaGreatDoor
