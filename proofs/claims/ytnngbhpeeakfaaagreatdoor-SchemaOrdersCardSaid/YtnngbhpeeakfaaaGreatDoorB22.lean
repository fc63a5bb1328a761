/- Parts of a proof. -/
import Derived.Test.YtnngbhpeeakfaaaGreatDoorB21
set_option maxHeartbeats 4000000
set_option maxRecDepth 100000
namespace Go.Proofs.YtnngbhpeeakfaaaGreatDoor
open Go.Proofs.Tryz
open Go.RowKit
open aK
theorem lT {T:TypeId}(hsz:(prog.info? T).map (·.size)=some 18) {ops:Array Oper}{rest:List Oper}{op:Oper}{a:Act}{w:World}{b:Nat}{Q:Exit→Act→World→Prop}{V:Array Value}(hgd:op.guard=none) (x y:Operand) (ho:op.op= .store T x y)
 (hb:b=w.heap.size) (hx:a.eval x= .pointer (some ⟨b,0,none⟩)) (hy:a.eval y= .agg V) (hV:V.size=18) (h1' :V.toList.all (·.oneCell')=true) (h:wpList prog ops Q rest (a.put op.dst undef) (w.alloc (.cells V T))):
 wpList prog ops Q (op::rest) a (w.alloc (.cells bC T)):=by
 have h1:V.all (·.oneCell')=true:=by rw [←Array.all_toList];exact h1'
 refine wpList_plain hgd fun K hK=> ?_
 unfold Oper.wp execOp
 have:(Instr.storeAt T (.pointer (some ⟨b,0,none⟩)) (.agg V)).run prog (w.alloc (.cells bC T))= .ok () (w.alloc (.cells V T)):=by
  rw [hb];exact run_storeAt_new w _ _ V (by rw [hV];exact hsz) (by rw [hV];rfl) h1
 simp only [ho,hx,hy,Sem.run_bind,this,Result.andThen_ok,Sem.run_pure];exact hK _ _ h
def dZ (k:Int) (V:Array Value):Value:=
 if k=1 then .iface 203 (.agg V)else if k=2 then .iface 206 (.agg V)else if k=3 then .iface 210 (.agg V)else if k=4 then .iface 211 (.agg V)else if k=5 then .iface 212 (.agg V)else if k=6 then .iface 215 (.agg V)else if k=7 then .iface 217 (.agg V)else if k=8 then .iface 218 (.agg V)else if k=9 then .iface 219 (.agg V)else .nilIface
theorem VF:(prog.info? 203).map (·.size)=some 18:=by kernel_rfl
theorem Rf (V:Array Value) (w:World):(Instr.makeInterface 203 (.agg V)).run prog w= .ok (.iface 203 (.agg V)) w:=by kernel_rfl
theorem Yp:(prog.info? 206).map (·.size)=some 18:=by kernel_rfl
theorem VG (V:Array Value) (w:World):(Instr.makeInterface 206 (.agg V)).run prog w= .ok (.iface 206 (.agg V)) w:=by kernel_rfl
theorem VH:(prog.info? 210).map (·.size)=some 18:=by kernel_rfl
theorem Rh (V:Array Value) (w:World):(Instr.makeInterface 210 (.agg V)).run prog w= .ok (.iface 210 (.agg V)) w:=by kernel_rfl
theorem Yq:(prog.info? 211).map (·.size)=some 18:=by kernel_rfl
theorem VI (V:Array Value) (w:World):(Instr.makeInterface 211 (.agg V)).run prog w= .ok (.iface 211 (.agg V)) w:=by kernel_rfl
theorem Ri:(prog.info? 212).map (·.size)=some 18:=by kernel_rfl
theorem Nf (V:Array Value) (w:World):(Instr.makeInterface 212 (.agg V)).run prog w= .ok (.iface 212 (.agg V)) w:=by kernel_rfl
theorem Rj:(prog.info? 215).map (·.size)=some 18:=by kernel_rfl
theorem Ng (V:Array Value) (w:World):(Instr.makeInterface 215 (.agg V)).run prog w= .ok (.iface 215 (.agg V)) w:=by kernel_rfl
theorem Gl:(prog.info? 217).map (·.size)=some 18:=by kernel_rfl
theorem Nh (V:Array Value) (w:World):(Instr.makeInterface 217 (.agg V)).run prog w= .ok (.iface 217 (.agg V)) w:=by kernel_rfl
theorem VJ:(prog.info? 218).map (·.size)=some 18:=by kernel_rfl
theorem Yr (V:Array Value) (w:World):(Instr.makeInterface 218 (.agg V)).run prog w= .ok (.iface 218 (.agg V)) w:=by kernel_rfl
theorem VK:(prog.info? 219).map (·.size)=some 18:=by kernel_rfl
theorem Rk (V:Array Value) (w:World):(Instr.makeInterface 219 (.agg V)).run prog w= .ok (.iface 219 (.agg V)) w:=by kernel_rfl
theorem VL (V:Array Value) (w:World):(Instr.typeAssert (.iface 203 (.agg V)) 20 203 true).run prog w= .ok (.tuple #[.agg V, .bool true]) w:=by kernel_rfl
theorem Yt (V:Array Value) (w:World):(Instr.typeAssert (.iface 206 (.agg V)) 20 206 true).run prog w= .ok (.tuple #[.agg V, .bool true]) w:=by kernel_rfl
theorem Fj (V:Array Value) (w:World):(Instr.typeAssert (.iface 206 (.agg V)) 20 203 true).run prog w= .ok (.tuple #[.agg bC, .bool false]) w:=by kernel_rfl
theorem VN (V:Array Value) (w:World):(Instr.typeAssert (.iface 210 (.agg V)) 20 210 true).run prog w= .ok (.tuple #[.agg V, .bool true]) w:=by kernel_rfl
theorem Em (V:Array Value) (w:World):(Instr.typeAssert (.iface 210 (.agg V)) 20 203 true).run prog w= .ok (.tuple #[.agg bC, .bool false]) w:=by kernel_rfl
theorem Fp (V:Array Value) (w:World):(Instr.typeAssert (.iface 210 (.agg V)) 20 206 true).run prog w= .ok (.tuple #[.agg bC, .bool false]) w:=by kernel_rfl
theorem Yu (V:Array Value) (w:World):(Instr.typeAssert (.iface 211 (.agg V)) 20 211 true).run prog w= .ok (.tuple #[.agg V, .bool true]) w:=by kernel_rfl
theorem Fq (V:Array Value) (w:World):(Instr.typeAssert (.iface 211 (.agg V)) 20 203 true).run prog w= .ok (.tuple #[.agg bC, .bool false]) w:=by kernel_rfl
theorem IQ (V:Array Value) (w:World):(Instr.typeAssert (.iface 211 (.agg V)) 20 206 true).run prog w= .ok (.tuple #[.agg bC, .bool false]) w:=by kernel_rfl
theorem Fu (V:Array Value) (w:World):(Instr.typeAssert (.iface 211 (.agg V)) 20 210 true).run prog w= .ok (.tuple #[.agg bC, .bool false]) w:=by kernel_rfl
theorem Rl (V:Array Value) (w:World):(Instr.typeAssert (.iface 212 (.agg V)) 20 212 true).run prog w= .ok (.tuple #[.agg V, .bool true]) w:=by kernel_rfl
theorem BX (V:Array Value) (w:World):(Instr.typeAssert (.iface 212 (.agg V)) 20 203 true).run prog w= .ok (.tuple #[.agg bC, .bool false]) w:=by kernel_rfl
theorem En (V:Array Value) (w:World):(Instr.typeAssert (.iface 212 (.agg V)) 20 206 true).run prog w= .ok (.tuple #[.agg bC, .bool false]) w:=by kernel_rfl
theorem BZ (V:Array Value) (w:World):(Instr.typeAssert (.iface 212 (.agg V)) 20 210 true).run prog w= .ok (.tuple #[.agg bC, .bool false]) w:=by kernel_rfl
theorem Eo (V:Array Value) (w:World):(Instr.typeAssert (.iface 212 (.agg V)) 20 211 true).run prog w= .ok (.tuple #[.agg bC, .bool false]) w:=by kernel_rfl
theorem Rm (V:Array Value) (w:World):(Instr.typeAssert (.iface 215 (.agg V)) 20 215 true).run prog w= .ok (.tuple #[.agg V, .bool true]) w:=by kernel_rfl
theorem Ca (V:Array Value) (w:World):(Instr.typeAssert (.iface 215 (.agg V)) 20 203 true).run prog w= .ok (.tuple #[.agg bC, .bool false]) w:=by kernel_rfl
theorem Ep (V:Array Value) (w:World):(Instr.typeAssert (.iface 215 (.agg V)) 20 206 true).run prog w= .ok (.tuple #[.agg bC, .bool false]) w:=by kernel_rfl
theorem Cb (V:Array Value) (w:World):(Instr.typeAssert (.iface 215 (.agg V)) 20 210 true).run prog w= .ok (.tuple #[.agg bC, .bool false]) w:=by kernel_rfl
theorem Es (V:Array Value) (w:World):(Instr.typeAssert (.iface 215 (.agg V)) 20 211 true).run prog w= .ok (.tuple #[.agg bC, .bool false]) w:=by kernel_rfl
theorem AY (V:Array Value) (w:World):(Instr.typeAssert (.iface 215 (.agg V)) 20 212 true).run prog w= .ok (.tuple #[.agg bC, .bool false]) w:=by kernel_rfl
theorem Gm (V:Array Value) (w:World):(Instr.typeAssert (.iface 217 (.agg V)) 20 217 true).run prog w= .ok (.tuple #[.agg V, .bool true]) w:=by kernel_rfl
theorem tL (V:Array Value) (w:World):(Instr.typeAssert (.iface 217 (.agg V)) 20 203 true).run prog w= .ok (.tuple #[.agg bC, .bool false]) w:=by kernel_rfl
theorem vE (V:Array Value) (w:World):(Instr.typeAssert (.iface 217 (.agg V)) 20 206 true).run prog w= .ok (.tuple #[.agg bC, .bool false]) w:=by kernel_rfl
theorem tN (V:Array Value) (w:World):(Instr.typeAssert (.iface 217 (.agg V)) 20 210 true).run prog w= .ok (.tuple #[.agg bC, .bool false]) w:=by kernel_rfl
theorem vG (V:Array Value) (w:World):(Instr.typeAssert (.iface 217 (.agg V)) 20 211 true).run prog w= .ok (.tuple #[.agg bC, .bool false]) w:=by kernel_rfl
theorem rE (V:Array Value) (w:World):(Instr.typeAssert (.iface 217 (.agg V)) 20 212 true).run prog w= .ok (.tuple #[.agg bC, .bool false]) w:=by kernel_rfl
theorem rF (V:Array Value) (w:World):(Instr.typeAssert (.iface 217 (.agg V)) 20 215 true).run prog w= .ok (.tuple #[.agg bC, .bool false]) w:=by kernel_rfl
theorem VO (V:Array Value) (w:World):(Instr.typeAssert (.iface 218 (.agg V)) 20 218 true).run prog w= .ok (.tuple #[.agg V, .bool true]) w:=by kernel_rfl
theorem zD (V:Array Value) (w:World):(Instr.typeAssert (.iface 218 (.agg V)) 20 203 true).run prog w= .ok (.tuple #[.agg bC, .bool false]) w:=by kernel_rfl
theorem BM (V:Array Value) (w:World):(Instr.typeAssert (.iface 218 (.agg V)) 20 206 true).run prog w= .ok (.tuple #[.agg bC, .bool false]) w:=by kernel_rfl
theorem zF (V:Array Value) (w:World):(Instr.typeAssert (.iface 218 (.agg V)) 20 210 true).run prog w= .ok (.tuple #[.agg bC, .bool false]) w:=by kernel_rfl
theorem BN (V:Array Value) (w:World):(Instr.typeAssert (.iface 218 (.agg V)) 20 211 true).run prog w= .ok (.tuple #[.agg bC, .bool false]) w:=by kernel_rfl
theorem wL (V:Array Value) (w:World):(Instr.typeAssert (.iface 218 (.agg V)) 20 212 true).run prog w= .ok (.tuple #[.agg bC, .bool false]) w:=by kernel_rfl
theorem wM (V:Array Value) (w:World):(Instr.typeAssert (.iface 218 (.agg V)) 20 215 true).run prog w= .ok (.tuple #[.agg bC, .bool false]) w:=by kernel_rfl
theorem wN (V:Array Value) (w:World):(Instr.typeAssert (.iface 218 (.agg V)) 20 217 true).run prog w= .ok (.tuple #[.agg bC, .bool false]) w:=by kernel_rfl
theorem VP (V:Array Value) (w:World):(Instr.typeAssert (.iface 219 (.agg V)) 20 219 true).run prog w= .ok (.tuple #[.agg V, .bool true]) w:=by kernel_rfl
theorem Et (V:Array Value) (w:World):(Instr.typeAssert (.iface 219 (.agg V)) 20 203 true).run prog w= .ok (.tuple #[.agg bC, .bool false]) w:=by kernel_rfl
theorem Fv (V:Array Value) (w:World):(Instr.typeAssert (.iface 219 (.agg V)) 20 206 true).run prog w= .ok (.tuple #[.agg bC, .bool false]) w:=by kernel_rfl
theorem Eu (V:Array Value) (w:World):(Instr.typeAssert (.iface 219 (.agg V)) 20 210 true).run prog w= .ok (.tuple #[.agg bC, .bool false]) w:=by kernel_rfl
theorem Fw (V:Array Value) (w:World):(Instr.typeAssert (.iface 219 (.agg V)) 20 211 true).run prog w= .ok (.tuple #[.agg bC, .bool false]) w:=by kernel_rfl
theorem Cc (V:Array Value) (w:World):(Instr.typeAssert (.iface 219 (.agg V)) 20 212 true).run prog w= .ok (.tuple #[.agg bC, .bool false]) w:=by kernel_rfl
theorem Ce (V:Array Value) (w:World):(Instr.typeAssert (.iface 219 (.agg V)) 20 215 true).run prog w= .ok (.tuple #[.agg bC, .bool false]) w:=by kernel_rfl
theorem Cg (V:Array Value) (w:World):(Instr.typeAssert (.iface 219 (.agg V)) 20 217 true).run prog w= .ok (.tuple #[.agg bC, .bool false]) w:=by kernel_rfl
theorem IU (V:Array Value) (w:World):(Instr.typeAssert (.iface 219 (.agg V)) 20 218 true).run prog w= .ok (.tuple #[.agg bC, .bool false]) w:=by kernel_rfl
theorem IV (w:World):(Instr.typeAssert .nilIface 20 203 true).run prog w= .ok (.tuple #[.agg bC, .bool false]) w:=by kernel_rfl
theorem K5 (w:World):(Instr.typeAssert .nilIface 20 206 true).run prog w= .ok (.tuple #[.agg bC, .bool false]) w:=by kernel_rfl
theorem IW (w:World):(Instr.typeAssert .nilIface 20 210 true).run prog w= .ok (.tuple #[.agg bC, .bool false]) w:=by kernel_rfl
theorem K6 (w:World):(Instr.typeAssert .nilIface 20 211 true).run prog w= .ok (.tuple #[.agg bC, .bool false]) w:=by kernel_rfl
theorem Fx (w:World):(Instr.typeAssert .nilIface 20 212 true).run prog w= .ok (.tuple #[.agg bC, .bool false]) w:=by kernel_rfl
theorem Fy (w:World):(Instr.typeAssert .nilIface 20 215 true).run prog w= .ok (.tuple #[.agg bC, .bool false]) w:=by kernel_rfl
theorem Fz (w:World):(Instr.typeAssert .nilIface 20 217 true).run prog w= .ok (.tuple #[.agg bC, .bool false]) w:=by kernel_rfl
theorem Ni (w:World):(Instr.typeAssert .nilIface 20 218 true).run prog w= .ok (.tuple #[.agg bC, .bool false]) w:=by kernel_rfl
theorem IX (w:World):(Instr.typeAssert .nilIface 20 219 true).run prog w= .ok (.tuple #[.agg bC, .bool false]) w:=by kernel_rfl
theorem nI {w:World}(x:Sx) (tc c s wv pv:Value):
 Calls prog 127 #[.agg (aP x tc c s wv pv)] w fun e w' =>e= .returned (dZ x.kind (aP x tc c s wv pv))∧Below w.heap.size w w' :=by
 have hB:=(Below.refl w.heap.size w).alloc (Nat.le_refl _) (.cells (aP x tc c s wv pv) 39);have hbl:(w.alloc (.cells (aP x tc c s wv pv) 39)).heap[w.heap.size]? =some (.cells (aP x tc c s wv pv) 39 (0,0)):=aB w _;have c0:=(bn hbl).1;have u0:=ak hbl 0;by_cases h1:x.kind=1
 · have HE:Hid (dZ x.kind (aP x tc c s wv pv)= .iface 203 (.agg (aP x tc c s wv pv))):=by show _=_;unfold dZ;rw [if_pos h1]
   have q1:(x.kind==1)=true:=by rw [h1];rfl
   clear h1;have hm:=Rf;go_enter func127,ntmps127;go_wp2_with (refine bK rfl _ rfl rfl rfl hbl ?_);go_ret;rw [HE.out];exact ⟨rfl,hB⟩
 · skip
   by_cases h2:x.kind=2
   · have HE:Hid (dZ x.kind (aP x tc c s wv pv)= .iface 206 (.agg (aP x tc c s wv pv))):=by show _=_;unfold dZ;rw [if_neg h1,if_pos h2]
     have q1:(x.kind==1)=false:=by rw [beq_eq_false_iff_ne];exact h1
     have q2:(x.kind==2)=true:=by rw [h2];rfl
     clear h1 h2;have hm:=VG;go_enter func127,ntmps127;go_wp2_with (refine bK rfl _ rfl rfl rfl hbl ?_);go_ret;rw [HE.out];exact ⟨rfl,hB⟩
   · skip
     by_cases h3:x.kind=3
     · have HE:Hid (dZ x.kind (aP x tc c s wv pv)= .iface 210 (.agg (aP x tc c s wv pv))):=by show _=_;unfold dZ;rw [if_neg h1,if_neg h2,if_pos h3]
       have q1:(x.kind==1)=false:=by rw [beq_eq_false_iff_ne];exact h1
       have q2:(x.kind==2)=false:=by rw [beq_eq_false_iff_ne];exact h2
       have q3:(x.kind==3)=true:=by rw [h3];rfl
       clear h1 h2 h3;have hm:=Rh;go_enter func127,ntmps127;go_wp2_with (refine bK rfl _ rfl rfl rfl hbl ?_);go_ret;rw [HE.out];exact ⟨rfl,hB⟩
     · skip
       by_cases h4:x.kind=4
       · have HE:Hid (dZ x.kind (aP x tc c s wv pv)= .iface 211 (.agg (aP x tc c s wv pv))):=by show _=_;unfold dZ;rw [if_neg h1,if_neg h2,if_neg h3,if_pos h4]
         have q1:(x.kind==1)=false:=by rw [beq_eq_false_iff_ne];exact h1
         have q2:(x.kind==2)=false:=by rw [beq_eq_false_iff_ne];exact h2
         have q3:(x.kind==3)=false:=by rw [beq_eq_false_iff_ne];exact h3
         have q4:(x.kind==4)=true:=by rw [h4];rfl
         clear h1 h2 h3 h4;have hm:=VI;go_enter func127,ntmps127;go_wp2_with (refine bK rfl _ rfl rfl rfl hbl ?_);go_ret;rw [HE.out];exact ⟨rfl,hB⟩
       · skip
         by_cases h5:x.kind=5
         · have HE:Hid (dZ x.kind (aP x tc c s wv pv)= .iface 212 (.agg (aP x tc c s wv pv))):=by show _=_;unfold dZ;rw [if_neg h1,if_neg h2,if_neg h3,if_neg h4,if_pos h5]
           have q1:(x.kind==1)=false:=by rw [beq_eq_false_iff_ne];exact h1
           have q2:(x.kind==2)=false:=by rw [beq_eq_false_iff_ne];exact h2
           have q3:(x.kind==3)=false:=by rw [beq_eq_false_iff_ne];exact h3
           have q4:(x.kind==4)=false:=by rw [beq_eq_false_iff_ne];exact h4
           have q5:(x.kind==5)=true:=by rw [h5];rfl
           clear h1 h2 h3 h4 h5;have hm:=Nf;go_enter func127,ntmps127;go_wp2_with (refine bK rfl _ rfl rfl rfl hbl ?_);go_ret;rw [HE.out];exact ⟨rfl,hB⟩
         · skip
           by_cases h6:x.kind=6
           · have HE:Hid (dZ x.kind (aP x tc c s wv pv)= .iface 215 (.agg (aP x tc c s wv pv))):=by show _=_;unfold dZ;rw [if_neg h1,if_neg h2,if_neg h3,if_neg h4,if_neg h5,if_pos h6]
             have q1:(x.kind==1)=false:=by rw [beq_eq_false_iff_ne];exact h1
             have q2:(x.kind==2)=false:=by rw [beq_eq_false_iff_ne];exact h2
             have q3:(x.kind==3)=false:=by rw [beq_eq_false_iff_ne];exact h3
             have q4:(x.kind==4)=false:=by rw [beq_eq_false_iff_ne];exact h4
             have q5:(x.kind==5)=false:=by rw [beq_eq_false_iff_ne];exact h5
             have q6:(x.kind==6)=true:=by rw [h6];rfl
             clear h1 h2 h3 h4 h5 h6;have hm:=Ng;go_enter func127,ntmps127;go_wp2_with (refine bK rfl _ rfl rfl rfl hbl ?_);go_ret;rw [HE.out];exact ⟨rfl,hB⟩
           · skip
             by_cases h7:x.kind=7
             · have HE:Hid (dZ x.kind (aP x tc c s wv pv)= .iface 217 (.agg (aP x tc c s wv pv))):=by show _=_;unfold dZ;rw [if_neg h1,if_neg h2,if_neg h3,if_neg h4,if_neg h5,if_neg h6,if_pos h7]
               have q1:(x.kind==1)=false:=by rw [beq_eq_false_iff_ne];exact h1
               have q2:(x.kind==2)=false:=by rw [beq_eq_false_iff_ne];exact h2
               have q3:(x.kind==3)=false:=by rw [beq_eq_false_iff_ne];exact h3
               have q4:(x.kind==4)=false:=by rw [beq_eq_false_iff_ne];exact h4
               have q5:(x.kind==5)=false:=by rw [beq_eq_false_iff_ne];exact h5
               have q6:(x.kind==6)=false:=by rw [beq_eq_false_iff_ne];exact h6
               have q7:(x.kind==7)=true:=by rw [h7];rfl
               clear h1 h2 h3 h4 h5 h6 h7;have hm:=Nh;go_enter func127,ntmps127;go_wp2_with (refine bK rfl _ rfl rfl rfl hbl ?_);go_ret;rw [HE.out];exact ⟨rfl,hB⟩
             · skip
               by_cases h8:x.kind=8
               · have HE:Hid (dZ x.kind (aP x tc c s wv pv)= .iface 218 (.agg (aP x tc c s wv pv))):=by show _=_;unfold dZ;rw [if_neg h1,if_neg h2,if_neg h3,if_neg h4,if_neg h5,if_neg h6,if_neg h7,if_pos h8]
                 have q1:(x.kind==1)=false:=by rw [beq_eq_false_iff_ne];exact h1
                 have q2:(x.kind==2)=false:=by rw [beq_eq_false_iff_ne];exact h2
                 have q3:(x.kind==3)=false:=by rw [beq_eq_false_iff_ne];exact h3
                 have q4:(x.kind==4)=false:=by rw [beq_eq_false_iff_ne];exact h4
                 have q5:(x.kind==5)=false:=by rw [beq_eq_false_iff_ne];exact h5
                 have q6:(x.kind==6)=false:=by rw [beq_eq_false_iff_ne];exact h6
                 have q7:(x.kind==7)=false:=by rw [beq_eq_false_iff_ne];exact h7
                 have q8:(x.kind==8)=true:=by rw [h8];rfl
                 clear h1 h2 h3 h4 h5 h6 h7 h8;have hm:=Yr;go_enter func127,ntmps127;go_wp2_with (refine bK rfl _ rfl rfl rfl hbl ?_);go_ret;rw [HE.out];exact ⟨rfl,hB⟩
               · skip
                 by_cases h9:x.kind=9
                 · have HE:Hid (dZ x.kind (aP x tc c s wv pv)= .iface 219 (.agg (aP x tc c s wv pv))):=by show _=_;unfold dZ;rw [if_neg h1,if_neg h2,if_neg h3,if_neg h4,if_neg h5,if_neg h6,if_neg h7,if_neg h8,if_pos h9]
                   have q1:(x.kind==1)=false:=by rw [beq_eq_false_iff_ne];exact h1
                   have q2:(x.kind==2)=false:=by rw [beq_eq_false_iff_ne];exact h2
                   have q3:(x.kind==3)=false:=by rw [beq_eq_false_iff_ne];exact h3
                   have q4:(x.kind==4)=false:=by rw [beq_eq_false_iff_ne];exact h4
                   have q5:(x.kind==5)=false:=by rw [beq_eq_false_iff_ne];exact h5
                   have q6:(x.kind==6)=false:=by rw [beq_eq_false_iff_ne];exact h6
                   have q7:(x.kind==7)=false:=by rw [beq_eq_false_iff_ne];exact h7
                   have q8:(x.kind==8)=false:=by rw [beq_eq_false_iff_ne];exact h8
                   have q9:(x.kind==9)=true:=by rw [h9];rfl
                   clear h1 h2 h3 h4 h5 h6 h7 h8 h9;have hm:=Rk;go_enter func127,ntmps127;go_wp2_with (refine bK rfl _ rfl rfl rfl hbl ?_);go_ret;rw [HE.out];exact ⟨rfl,hB⟩
                 · skip
                   have HE:Hid (dZ x.kind (aP x tc c s wv pv)= .nilIface):=by show _=_;unfold dZ;rw [if_neg h1,if_neg h2,if_neg h3,if_neg h4,if_neg h5,if_neg h6,if_neg h7,if_neg h8,if_neg h9]
                   have q1:(x.kind==1)=false:=by rw [beq_eq_false_iff_ne];exact h1
                   have q2:(x.kind==2)=false:=by rw [beq_eq_false_iff_ne];exact h2
                   have q3:(x.kind==3)=false:=by rw [beq_eq_false_iff_ne];exact h3
                   have q4:(x.kind==4)=false:=by rw [beq_eq_false_iff_ne];exact h4
                   have q5:(x.kind==5)=false:=by rw [beq_eq_false_iff_ne];exact h5
                   have q6:(x.kind==6)=false:=by rw [beq_eq_false_iff_ne];exact h6
                   have q7:(x.kind==7)=false:=by rw [beq_eq_false_iff_ne];exact h7
                   have q8:(x.kind==8)=false:=by rw [beq_eq_false_iff_ne];exact h8
                   have q9:(x.kind==9)=false:=by rw [beq_eq_false_iff_ne];exact h9
                   clear h1 h2 h3 h4 h5 h6 h7 h8 h9;go_enter func127,ntmps127;go_wp2_with (refine bK rfl _ rfl rfl rfl hbl ?_);go_ret;rw [HE.out];exact ⟨rfl,hB⟩
end Go.Proofs.YtnngbhpeeakfaaaGreatDoor
