/- Parts of a proof. -/
import Derived.Test.YtcgadodckoalnaaGreatDoorB20
set_option maxHeartbeats 4000000
set_option maxRecDepth 100000
namespace Go.Proofs.YtcgadodckoalnaaGreatDoor
open Go.Proofs.Tryz
open Go.RowKit
open aN
theorem nI {T:TypeId}(hsz:(prog.info? T).map (·.size)=some 18) {ops:Array Oper}{rest:List Oper}{op:Oper}{a:Act}{w:World}{b:Nat}{Q:Exit→Act→World→Prop}{V:Array Value}(hgd:op.guard=none) (x y:Operand) (ho:op.op= .store T x y)
 (hb:b=w.heap.size) (hx:a.eval x= .pointer (some ⟨b,0,none⟩)) (hy:a.eval y= .agg V) (hV:V.size=18) (h1' :V.toList.all (·.oneCell')=true) (h:wpList prog ops Q rest (a.put op.dst undef) (w.alloc (.cells V T))):
 wpList prog ops Q (op::rest) a (w.alloc (.cells bf T)):=by
 have h1:V.all (·.oneCell')=true:=by rw [←Array.all_toList];exact h1'
 refine wpList_plain hgd fun K hK=> ?_
 unfold Oper.wp execOp
 have:(Instr.storeAt T (.pointer (some ⟨b,0,none⟩)) (.agg V)).run prog (w.alloc (.cells bf T))= .ok () (w.alloc (.cells V T)):=by
  rw [hb];exact run_storeAt_new w _ _ V (by rw [hV];exact hsz) (by rw [hV];rfl) h1
 simp only [ho,hx,hy,Sem.run_bind,this,Result.andThen_ok,Sem.run_pure];exact hK _ _ h
def fD (k:Int) (V:Array Value):Value:=
 if k=1 then .iface 55 (.agg V)else if k=2 then .iface 58 (.agg V)else if k=3 then .iface 66 (.agg V)else if k=4 then .iface 67 (.agg V)else if k=5 then .iface 68 (.agg V)else if k=6 then .iface 71 (.agg V)else if k=7 then .iface 73 (.agg V)else if k=8 then .iface 74 (.agg V)else if k=9 then .iface 76 (.agg V)else .nilIface
theorem YV:(prog.info? 55).map (·.size)=some 18:=by kernel_rfl
theorem U4 (V:Array Value) (w:World):(Instr.makeInterface 55 (.agg V)).run prog w= .ok (.iface 55 (.agg V)) w:=by kernel_rfl
theorem abk:(prog.info? 58).map (·.size)=some 18:=by kernel_rfl
theorem YW (V:Array Value) (w:World):(Instr.makeInterface 58 (.agg V)).run prog w= .ok (.iface 58 (.agg V)) w:=by kernel_rfl
theorem YX:(prog.info? 66).map (·.size)=some 18:=by kernel_rfl
theorem U5 (V:Array Value) (w:World):(Instr.makeInterface 66 (.agg V)).run prog w= .ok (.iface 66 (.agg V)) w:=by kernel_rfl
theorem abl:(prog.info? 67).map (·.size)=some 18:=by kernel_rfl
theorem YZ (V:Array Value) (w:World):(Instr.makeInterface 67 (.agg V)).run prog w= .ok (.iface 67 (.agg V)) w:=by kernel_rfl
theorem U6:(prog.info? 68).map (·.size)=some 18:=by kernel_rfl
theorem QK (V:Array Value) (w:World):(Instr.makeInterface 68 (.agg V)).run prog w= .ok (.iface 68 (.agg V)) w:=by kernel_rfl
theorem U7:(prog.info? 71).map (·.size)=some 18:=by kernel_rfl
theorem QL (V:Array Value) (w:World):(Instr.makeInterface 71 (.agg V)).run prog w= .ok (.iface 71 (.agg V)) w:=by kernel_rfl
theorem Kl:(prog.info? 73).map (·.size)=some 18:=by kernel_rfl
theorem QM (V:Array Value) (w:World):(Instr.makeInterface 73 (.agg V)).run prog w= .ok (.iface 73 (.agg V)) w:=by kernel_rfl
theorem Y0:(prog.info? 74).map (·.size)=some 18:=by kernel_rfl
theorem abm (V:Array Value) (w:World):(Instr.makeInterface 74 (.agg V)).run prog w= .ok (.iface 74 (.agg V)) w:=by kernel_rfl
theorem Y1:(prog.info? 76).map (·.size)=some 18:=by kernel_rfl
theorem U8 (V:Array Value) (w:World):(Instr.makeInterface 76 (.agg V)).run prog w= .ok (.iface 76 (.agg V)) w:=by kernel_rfl
theorem Y2 (V:Array Value) (w:World):(Instr.typeAssert (.iface 55 (.agg V)) 20 55 true).run prog w= .ok (.tuple #[.agg V, .bool true]) w:=by kernel_rfl
theorem abn (V:Array Value) (w:World):(Instr.typeAssert (.iface 58 (.agg V)) 20 58 true).run prog w= .ok (.tuple #[.agg V, .bool true]) w:=by kernel_rfl
theorem Jj (V:Array Value) (w:World):(Instr.typeAssert (.iface 58 (.agg V)) 20 55 true).run prog w= .ok (.tuple #[.agg bf, .bool false]) w:=by kernel_rfl
theorem Y3 (V:Array Value) (w:World):(Instr.typeAssert (.iface 66 (.agg V)) 20 66 true).run prog w= .ok (.tuple #[.agg V, .bool true]) w:=by kernel_rfl
theorem Ia (V:Array Value) (w:World):(Instr.typeAssert (.iface 66 (.agg V)) 20 55 true).run prog w= .ok (.tuple #[.agg bf, .bool false]) w:=by kernel_rfl
theorem Jm (V:Array Value) (w:World):(Instr.typeAssert (.iface 66 (.agg V)) 20 58 true).run prog w= .ok (.tuple #[.agg bf, .bool false]) w:=by kernel_rfl
theorem abo (V:Array Value) (w:World):(Instr.typeAssert (.iface 67 (.agg V)) 20 67 true).run prog w= .ok (.tuple #[.agg V, .bool true]) w:=by kernel_rfl
theorem Jo (V:Array Value) (w:World):(Instr.typeAssert (.iface 67 (.agg V)) 20 55 true).run prog w= .ok (.tuple #[.agg bf, .bool false]) w:=by kernel_rfl
theorem LQ (V:Array Value) (w:World):(Instr.typeAssert (.iface 67 (.agg V)) 20 58 true).run prog w= .ok (.tuple #[.agg bf, .bool false]) w:=by kernel_rfl
theorem Jq (V:Array Value) (w:World):(Instr.typeAssert (.iface 67 (.agg V)) 20 66 true).run prog w= .ok (.tuple #[.agg bf, .bool false]) w:=by kernel_rfl
theorem U9 (V:Array Value) (w:World):(Instr.typeAssert (.iface 68 (.agg V)) 20 68 true).run prog w= .ok (.tuple #[.agg V, .bool true]) w:=by kernel_rfl
theorem EW (V:Array Value) (w:World):(Instr.typeAssert (.iface 68 (.agg V)) 20 55 true).run prog w= .ok (.tuple #[.agg bf, .bool false]) w:=by kernel_rfl
theorem Ib (V:Array Value) (w:World):(Instr.typeAssert (.iface 68 (.agg V)) 20 58 true).run prog w= .ok (.tuple #[.agg bf, .bool false]) w:=by kernel_rfl
theorem EX (V:Array Value) (w:World):(Instr.typeAssert (.iface 68 (.agg V)) 20 66 true).run prog w= .ok (.tuple #[.agg bf, .bool false]) w:=by kernel_rfl
theorem Ic (V:Array Value) (w:World):(Instr.typeAssert (.iface 68 (.agg V)) 20 67 true).run prog w= .ok (.tuple #[.agg bf, .bool false]) w:=by kernel_rfl
theorem Va (V:Array Value) (w:World):(Instr.typeAssert (.iface 71 (.agg V)) 20 71 true).run prog w= .ok (.tuple #[.agg V, .bool true]) w:=by kernel_rfl
theorem EY (V:Array Value) (w:World):(Instr.typeAssert (.iface 71 (.agg V)) 20 55 true).run prog w= .ok (.tuple #[.agg bf, .bool false]) w:=by kernel_rfl
theorem Ie (V:Array Value) (w:World):(Instr.typeAssert (.iface 71 (.agg V)) 20 58 true).run prog w= .ok (.tuple #[.agg bf, .bool false]) w:=by kernel_rfl
theorem EZ (V:Array Value) (w:World):(Instr.typeAssert (.iface 71 (.agg V)) 20 66 true).run prog w= .ok (.tuple #[.agg bf, .bool false]) w:=by kernel_rfl
theorem Ig (V:Array Value) (w:World):(Instr.typeAssert (.iface 71 (.agg V)) 20 67 true).run prog w= .ok (.tuple #[.agg bf, .bool false]) w:=by kernel_rfl
theorem DU (V:Array Value) (w:World):(Instr.typeAssert (.iface 71 (.agg V)) 20 68 true).run prog w= .ok (.tuple #[.agg bf, .bool false]) w:=by kernel_rfl
theorem Km (V:Array Value) (w:World):(Instr.typeAssert (.iface 73 (.agg V)) 20 73 true).run prog w= .ok (.tuple #[.agg V, .bool true]) w:=by kernel_rfl
theorem wO (V:Array Value) (w:World):(Instr.typeAssert (.iface 73 (.agg V)) 20 55 true).run prog w= .ok (.tuple #[.agg bf, .bool false]) w:=by kernel_rfl
theorem yF (V:Array Value) (w:World):(Instr.typeAssert (.iface 73 (.agg V)) 20 58 true).run prog w= .ok (.tuple #[.agg bf, .bool false]) w:=by kernel_rfl
theorem wP (V:Array Value) (w:World):(Instr.typeAssert (.iface 73 (.agg V)) 20 66 true).run prog w= .ok (.tuple #[.agg bf, .bool false]) w:=by kernel_rfl
theorem yG (V:Array Value) (w:World):(Instr.typeAssert (.iface 73 (.agg V)) 20 67 true).run prog w= .ok (.tuple #[.agg bf, .bool false]) w:=by kernel_rfl
theorem uS (V:Array Value) (w:World):(Instr.typeAssert (.iface 73 (.agg V)) 20 68 true).run prog w= .ok (.tuple #[.agg bf, .bool false]) w:=by kernel_rfl
theorem uT (V:Array Value) (w:World):(Instr.typeAssert (.iface 73 (.agg V)) 20 71 true).run prog w= .ok (.tuple #[.agg bf, .bool false]) w:=by kernel_rfl
theorem Y4 (V:Array Value) (w:World):(Instr.typeAssert (.iface 74 (.agg V)) 20 74 true).run prog w= .ok (.tuple #[.agg V, .bool true]) w:=by kernel_rfl
theorem Cv (V:Array Value) (w:World):(Instr.typeAssert (.iface 74 (.agg V)) 20 55 true).run prog w= .ok (.tuple #[.agg bf, .bool false]) w:=by kernel_rfl
theorem EI (V:Array Value) (w:World):(Instr.typeAssert (.iface 74 (.agg V)) 20 58 true).run prog w= .ok (.tuple #[.agg bf, .bool false]) w:=by kernel_rfl
theorem Cw (V:Array Value) (w:World):(Instr.typeAssert (.iface 74 (.agg V)) 20 66 true).run prog w= .ok (.tuple #[.agg bf, .bool false]) w:=by kernel_rfl
theorem EJ (V:Array Value) (w:World):(Instr.typeAssert (.iface 74 (.agg V)) 20 67 true).run prog w= .ok (.tuple #[.agg bf, .bool false]) w:=by kernel_rfl
theorem zM (V:Array Value) (w:World):(Instr.typeAssert (.iface 74 (.agg V)) 20 68 true).run prog w= .ok (.tuple #[.agg bf, .bool false]) w:=by kernel_rfl
theorem zN (V:Array Value) (w:World):(Instr.typeAssert (.iface 74 (.agg V)) 20 71 true).run prog w= .ok (.tuple #[.agg bf, .bool false]) w:=by kernel_rfl
theorem zO (V:Array Value) (w:World):(Instr.typeAssert (.iface 74 (.agg V)) 20 73 true).run prog w= .ok (.tuple #[.agg bf, .bool false]) w:=by kernel_rfl
theorem Y5 (V:Array Value) (w:World):(Instr.typeAssert (.iface 76 (.agg V)) 20 76 true).run prog w= .ok (.tuple #[.agg V, .bool true]) w:=by kernel_rfl
theorem Ih (V:Array Value) (w:World):(Instr.typeAssert (.iface 76 (.agg V)) 20 55 true).run prog w= .ok (.tuple #[.agg bf, .bool false]) w:=by kernel_rfl
theorem Jr (V:Array Value) (w:World):(Instr.typeAssert (.iface 76 (.agg V)) 20 58 true).run prog w= .ok (.tuple #[.agg bf, .bool false]) w:=by kernel_rfl
theorem Ii (V:Array Value) (w:World):(Instr.typeAssert (.iface 76 (.agg V)) 20 66 true).run prog w= .ok (.tuple #[.agg bf, .bool false]) w:=by kernel_rfl
theorem Jv (V:Array Value) (w:World):(Instr.typeAssert (.iface 76 (.agg V)) 20 67 true).run prog w= .ok (.tuple #[.agg bf, .bool false]) w:=by kernel_rfl
theorem E5 (V:Array Value) (w:World):(Instr.typeAssert (.iface 76 (.agg V)) 20 68 true).run prog w= .ok (.tuple #[.agg bf, .bool false]) w:=by kernel_rfl
theorem E8 (V:Array Value) (w:World):(Instr.typeAssert (.iface 76 (.agg V)) 20 71 true).run prog w= .ok (.tuple #[.agg bf, .bool false]) w:=by kernel_rfl
theorem E9 (V:Array Value) (w:World):(Instr.typeAssert (.iface 76 (.agg V)) 20 73 true).run prog w= .ok (.tuple #[.agg bf, .bool false]) w:=by kernel_rfl
theorem LU (V:Array Value) (w:World):(Instr.typeAssert (.iface 76 (.agg V)) 20 74 true).run prog w= .ok (.tuple #[.agg bf, .bool false]) w:=by kernel_rfl
theorem LV (w:World):(Instr.typeAssert .nilIface 20 55 true).run prog w= .ok (.tuple #[.agg bf, .bool false]) w:=by kernel_rfl
theorem Om (w:World):(Instr.typeAssert .nilIface 20 58 true).run prog w= .ok (.tuple #[.agg bf, .bool false]) w:=by kernel_rfl
theorem LW (w:World):(Instr.typeAssert .nilIface 20 66 true).run prog w= .ok (.tuple #[.agg bf, .bool false]) w:=by kernel_rfl
theorem Oo (w:World):(Instr.typeAssert .nilIface 20 67 true).run prog w= .ok (.tuple #[.agg bf, .bool false]) w:=by kernel_rfl
theorem Jy (w:World):(Instr.typeAssert .nilIface 20 68 true).run prog w= .ok (.tuple #[.agg bf, .bool false]) w:=by kernel_rfl
theorem Jz (w:World):(Instr.typeAssert .nilIface 20 71 true).run prog w= .ok (.tuple #[.agg bf, .bool false]) w:=by kernel_rfl
theorem JA (w:World):(Instr.typeAssert .nilIface 20 73 true).run prog w= .ok (.tuple #[.agg bf, .bool false]) w:=by kernel_rfl
theorem QN (w:World):(Instr.typeAssert .nilIface 20 74 true).run prog w= .ok (.tuple #[.agg bf, .bool false]) w:=by kernel_rfl
theorem LX (w:World):(Instr.typeAssert .nilIface 20 76 true).run prog w= .ok (.tuple #[.agg bf, .bool false]) w:=by kernel_rfl
theorem pY {w:World}(x:Sx) (tc c s wv pv:Value):
 Calls prog 28 #[.agg (aG x tc c s wv pv)] w fun e w' =>e= .returned (fD x.kind (aG x tc c s wv pv))∧Below w.heap.size w w' :=by
 have hB:=(Below.refl w.heap.size w).alloc (Nat.le_refl _) (.cells (aG x tc c s wv pv) 31);have hbl:(w.alloc (.cells (aG x tc c s wv pv) 31)).heap[w.heap.size]? =some (.cells (aG x tc c s wv pv) 31 (0,0)):=aA w _;have c0:=(aK hbl).1;have u0:=aj hbl 0;by_cases h1:x.kind=1
 · have HE:Hid (fD x.kind (aG x tc c s wv pv)= .iface 55 (.agg (aG x tc c s wv pv))):=by show _=_;unfold fD;rw [if_pos h1]
   have q1:(x.kind==1)=true:=by rw [h1];rfl
   clear h1;have hm:=U4;go_enter func28,ntmps28;go_wp2_with (refine aT rfl _ rfl rfl rfl hbl ?_);go_ret;rw [HE.out];exact ⟨rfl,hB⟩
 · skip
   by_cases h2:x.kind=2
   · have HE:Hid (fD x.kind (aG x tc c s wv pv)= .iface 58 (.agg (aG x tc c s wv pv))):=by show _=_;unfold fD;rw [if_neg h1,if_pos h2]
     have q1:(x.kind==1)=false:=by rw [beq_eq_false_iff_ne];exact h1
     have q2:(x.kind==2)=true:=by rw [h2];rfl
     clear h1 h2;have hm:=YW;go_enter func28,ntmps28;go_wp2_with (refine aT rfl _ rfl rfl rfl hbl ?_);go_ret;rw [HE.out];exact ⟨rfl,hB⟩
   · skip
     by_cases h3:x.kind=3
     · have HE:Hid (fD x.kind (aG x tc c s wv pv)= .iface 66 (.agg (aG x tc c s wv pv))):=by show _=_;unfold fD;rw [if_neg h1,if_neg h2,if_pos h3]
       have q1:(x.kind==1)=false:=by rw [beq_eq_false_iff_ne];exact h1
       have q2:(x.kind==2)=false:=by rw [beq_eq_false_iff_ne];exact h2
       have q3:(x.kind==3)=true:=by rw [h3];rfl
       clear h1 h2 h3;have hm:=U5;go_enter func28,ntmps28;go_wp2_with (refine aT rfl _ rfl rfl rfl hbl ?_);go_ret;rw [HE.out];exact ⟨rfl,hB⟩
     · skip
       by_cases h4:x.kind=4
       · have HE:Hid (fD x.kind (aG x tc c s wv pv)= .iface 67 (.agg (aG x tc c s wv pv))):=by show _=_;unfold fD;rw [if_neg h1,if_neg h2,if_neg h3,if_pos h4]
         have q1:(x.kind==1)=false:=by rw [beq_eq_false_iff_ne];exact h1
         have q2:(x.kind==2)=false:=by rw [beq_eq_false_iff_ne];exact h2
         have q3:(x.kind==3)=false:=by rw [beq_eq_false_iff_ne];exact h3
         have q4:(x.kind==4)=true:=by rw [h4];rfl
         clear h1 h2 h3 h4;have hm:=YZ;go_enter func28,ntmps28;go_wp2_with (refine aT rfl _ rfl rfl rfl hbl ?_);go_ret;rw [HE.out];exact ⟨rfl,hB⟩
       · skip
         by_cases h5:x.kind=5
         · have HE:Hid (fD x.kind (aG x tc c s wv pv)= .iface 68 (.agg (aG x tc c s wv pv))):=by show _=_;unfold fD;rw [if_neg h1,if_neg h2,if_neg h3,if_neg h4,if_pos h5]
           have q1:(x.kind==1)=false:=by rw [beq_eq_false_iff_ne];exact h1
           have q2:(x.kind==2)=false:=by rw [beq_eq_false_iff_ne];exact h2
           have q3:(x.kind==3)=false:=by rw [beq_eq_false_iff_ne];exact h3
           have q4:(x.kind==4)=false:=by rw [beq_eq_false_iff_ne];exact h4
           have q5:(x.kind==5)=true:=by rw [h5];rfl
           clear h1 h2 h3 h4 h5;have hm:=QK;go_enter func28,ntmps28;go_wp2_with (refine aT rfl _ rfl rfl rfl hbl ?_);go_ret;rw [HE.out];exact ⟨rfl,hB⟩
         · skip
           by_cases h6:x.kind=6
           · have HE:Hid (fD x.kind (aG x tc c s wv pv)= .iface 71 (.agg (aG x tc c s wv pv))):=by show _=_;unfold fD;rw [if_neg h1,if_neg h2,if_neg h3,if_neg h4,if_neg h5,if_pos h6]
             have q1:(x.kind==1)=false:=by rw [beq_eq_false_iff_ne];exact h1
             have q2:(x.kind==2)=false:=by rw [beq_eq_false_iff_ne];exact h2
             have q3:(x.kind==3)=false:=by rw [beq_eq_false_iff_ne];exact h3
             have q4:(x.kind==4)=false:=by rw [beq_eq_false_iff_ne];exact h4
             have q5:(x.kind==5)=false:=by rw [beq_eq_false_iff_ne];exact h5
             have q6:(x.kind==6)=true:=by rw [h6];rfl
             clear h1 h2 h3 h4 h5 h6;have hm:=QL;go_enter func28,ntmps28;go_wp2_with (refine aT rfl _ rfl rfl rfl hbl ?_);go_ret;rw [HE.out];exact ⟨rfl,hB⟩
           · skip
             by_cases h7:x.kind=7
             · have HE:Hid (fD x.kind (aG x tc c s wv pv)= .iface 73 (.agg (aG x tc c s wv pv))):=by show _=_;unfold fD;rw [if_neg h1,if_neg h2,if_neg h3,if_neg h4,if_neg h5,if_neg h6,if_pos h7]
               have q1:(x.kind==1)=false:=by rw [beq_eq_false_iff_ne];exact h1
               have q2:(x.kind==2)=false:=by rw [beq_eq_false_iff_ne];exact h2
               have q3:(x.kind==3)=false:=by rw [beq_eq_false_iff_ne];exact h3
               have q4:(x.kind==4)=false:=by rw [beq_eq_false_iff_ne];exact h4
               have q5:(x.kind==5)=false:=by rw [beq_eq_false_iff_ne];exact h5
               have q6:(x.kind==6)=false:=by rw [beq_eq_false_iff_ne];exact h6
               have q7:(x.kind==7)=true:=by rw [h7];rfl
               clear h1 h2 h3 h4 h5 h6 h7;have hm:=QM;go_enter func28,ntmps28;go_wp2_with (refine aT rfl _ rfl rfl rfl hbl ?_);go_ret;rw [HE.out];exact ⟨rfl,hB⟩
             · skip
               by_cases h8:x.kind=8
               · have HE:Hid (fD x.kind (aG x tc c s wv pv)= .iface 74 (.agg (aG x tc c s wv pv))):=by show _=_;unfold fD;rw [if_neg h1,if_neg h2,if_neg h3,if_neg h4,if_neg h5,if_neg h6,if_neg h7,if_pos h8]
                 have q1:(x.kind==1)=false:=by rw [beq_eq_false_iff_ne];exact h1
                 have q2:(x.kind==2)=false:=by rw [beq_eq_false_iff_ne];exact h2
                 have q3:(x.kind==3)=false:=by rw [beq_eq_false_iff_ne];exact h3
                 have q4:(x.kind==4)=false:=by rw [beq_eq_false_iff_ne];exact h4
                 have q5:(x.kind==5)=false:=by rw [beq_eq_false_iff_ne];exact h5
                 have q6:(x.kind==6)=false:=by rw [beq_eq_false_iff_ne];exact h6
                 have q7:(x.kind==7)=false:=by rw [beq_eq_false_iff_ne];exact h7
                 have q8:(x.kind==8)=true:=by rw [h8];rfl
                 clear h1 h2 h3 h4 h5 h6 h7 h8;have hm:=abm;go_enter func28,ntmps28;go_wp2_with (refine aT rfl _ rfl rfl rfl hbl ?_);go_ret;rw [HE.out];exact ⟨rfl,hB⟩
               · skip
                 by_cases h9:x.kind=9
                 · have HE:Hid (fD x.kind (aG x tc c s wv pv)= .iface 76 (.agg (aG x tc c s wv pv))):=by show _=_;unfold fD;rw [if_neg h1,if_neg h2,if_neg h3,if_neg h4,if_neg h5,if_neg h6,if_neg h7,if_neg h8,if_pos h9]
                   have q1:(x.kind==1)=false:=by rw [beq_eq_false_iff_ne];exact h1
                   have q2:(x.kind==2)=false:=by rw [beq_eq_false_iff_ne];exact h2
                   have q3:(x.kind==3)=false:=by rw [beq_eq_false_iff_ne];exact h3
                   have q4:(x.kind==4)=false:=by rw [beq_eq_false_iff_ne];exact h4
                   have q5:(x.kind==5)=false:=by rw [beq_eq_false_iff_ne];exact h5
                   have q6:(x.kind==6)=false:=by rw [beq_eq_false_iff_ne];exact h6
                   have q7:(x.kind==7)=false:=by rw [beq_eq_false_iff_ne];exact h7
                   have q8:(x.kind==8)=false:=by rw [beq_eq_false_iff_ne];exact h8
                   have q9:(x.kind==9)=true:=by rw [h9];rfl
                   clear h1 h2 h3 h4 h5 h6 h7 h8 h9;have hm:=U8;go_enter func28,ntmps28;go_wp2_with (refine aT rfl _ rfl rfl rfl hbl ?_);go_ret;rw [HE.out];exact ⟨rfl,hB⟩
                 · skip
                   have HE:Hid (fD x.kind (aG x tc c s wv pv)= .nilIface):=by show _=_;unfold fD;rw [if_neg h1,if_neg h2,if_neg h3,if_neg h4,if_neg h5,if_neg h6,if_neg h7,if_neg h8,if_neg h9]
                   have q1:(x.kind==1)=false:=by rw [beq_eq_false_iff_ne];exact h1
                   have q2:(x.kind==2)=false:=by rw [beq_eq_false_iff_ne];exact h2
                   have q3:(x.kind==3)=false:=by rw [beq_eq_false_iff_ne];exact h3
                   have q4:(x.kind==4)=false:=by rw [beq_eq_false_iff_ne];exact h4
                   have q5:(x.kind==5)=false:=by rw [beq_eq_false_iff_ne];exact h5
                   have q6:(x.kind==6)=false:=by rw [beq_eq_false_iff_ne];exact h6
                   have q7:(x.kind==7)=false:=by rw [beq_eq_false_iff_ne];exact h7
                   have q8:(x.kind==8)=false:=by rw [beq_eq_false_iff_ne];exact h8
                   have q9:(x.kind==9)=false:=by rw [beq_eq_false_iff_ne];exact h9
                   clear h1 h2 h3 h4 h5 h6 h7 h8 h9;go_enter func28,ntmps28;go_wp2_with (refine aT rfl _ rfl rfl rfl hbl ?_);go_ret;rw [HE.out];exact ⟨rfl,hB⟩
end Go.Proofs.YtcgadodckoalnaaGreatDoor
