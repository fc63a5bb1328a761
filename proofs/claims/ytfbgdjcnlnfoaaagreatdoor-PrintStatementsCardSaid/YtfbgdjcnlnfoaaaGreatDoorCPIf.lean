/- Parts of the proof, joined: RSmC. -/
import Derived.Test.YtfbgdjcnlnfoaaaGreatDoorB13e
import Derived.Test.YtfbgdjcnlnfoaaaGreatDoorCPIc
import Derived.Test.YtfbgdjcnlnfoaaaGreatDoorCPIe
import Derived.Test.YtfbgdjcnlnfoaaaGreatDoorRows
set_option maxHeartbeats 4000000
set_option maxRecDepth 100000
namespace Go.Proofs.YtfbgdjcnlnfoaaaGreatDoor
open Go.RowKit
open aH
theorem KD {w:World}{q r:Pw}(h1:jm w q.x q.tc q.c q.s q.wv) (p1:Rd w q.pv 0 []) (h2:jm w r.x r.tc r.c r.s r.wv) (p2:Rd w r.pv 0 []) (sm:SS q.x) (hx:q.x=r.x):
 Calls Tryz.prog 34 #[.agg q.arr,.agg r.arr] w fun e w' =>e= .returned (.bool true)∧Below w.heap.size w w' :=by
 obtain ⟨x,tc,c,s,wv,pv⟩:=q
 obtain ⟨x',V5,c',s',wv',pv'⟩:=r
 have hx:x=x' :=hx
 subst hx
 obtain ⟨a0,k0,e1,_⟩:=h1.tc
 obtain ⟨b0,m0,e2,_⟩:=h2.tc
 have p1' :=p1
 have p2' :=p2
 obtain ⟨ap,kp,e3,_⟩:=p1'
 obtain ⟨bp,mp,e4,_⟩:=p2'
 have e1:tc= .slice a0 x.aN.length k0:=e1
 have e2:V5= .slice b0 x.aN.length m0:=e2
 have e3:pv= .slice ap 0 kp:=e3
 have e4:pv' = .slice bp 0 mp:=e4
 subst e1 e2 e3 e4
 exact IV rfl h1 h2 sm (L1:= []) (L2:= []) rfl rfl p1 p2 (by omega) (fun j q r h=>by simp at h)
theorem OT {w:World}{p q:Pw}{L M:List Pw}(hp:Ct w p L) (hq:Ct w q M) (sm:Yy ⟨p.x,L.map Pw.x⟩) (hx:p.x=q.x) (hm:L.map Pw.x=M.map Pw.x):
 Calls Tryz.prog 34 #[.agg p.arr,.agg q.arr] w fun e w' =>e= .returned (.bool true)∧Below w.heap.size w w' :=by
 have hlen:M.length=L.length:=by have:=congrArg List.length hm;simpa using this.symm
 obtain ⟨x,tc,c,s,wv,pv⟩:=p
 obtain ⟨x',V5,c',s',wv',pv'⟩:=q
 have hx:x=x' :=hx
 subst hx
 obtain ⟨a0,k0,e1,_⟩:=hp.st.tc
 obtain ⟨b0,m0,e2,_⟩:=hq.st.tc
 obtain ⟨ap,kp,e3,_⟩:=hp.pv
 obtain ⟨bp,mp,e4,_⟩:=hq.pv
 have e1:tc= .slice a0 x.aN.length k0:=e1
 have e2:V5= .slice b0 x.aN.length m0:=e2
 have e3:pv= .slice ap L.length kp:=e3
 have e4:pv' = .slice bp M.length mp:=e4
 rw [hlen]at e4
 subst e1 e2 e3 e4
 have hqp:Rd w (.slice bp L.length mp) L.length (jw M):=by have:=hq.pv;rw [hlen]at this;exact this
 have hst:=hp.st
 have acr:=hq.st
 have hpv:=hp.pv
 have hsm:=sm.1
 have hll:L.length≤100000:=by have:=sm.2.1;simpa using this
 have hf:∀(j:Nat) (u v:Pw),L[j]? =some u→M[j]? =some v→∀w',Below w.heap.size w w' →Calls Tryz.prog 34 #[.agg u.arr,.agg v.arr] w' fun e w'' =>e= .returned (.bool true)∧Below w'.heap.size w' w'' :=by
  intro j u v hu hv w' hb
  have hxe:u.x=v.x:=by
   have h1:(L.map Pw.x)[j]? =some u.x:=by rw [List.getElem?_map,hu];rfl
   have h2:(M.map Pw.x)[j]? =some v.x:=by rw [List.getElem?_map,hv];rfl
   rw [hm,h2]at h1
   exact (Option.some.inj h1).symm
  have hum:=List.mem_of_getElem? hu
  have hvm:=List.mem_of_getElem? hv
  exact KD ((hp.each u hum).1.below hb) ((hp.each u hum).2.below hb) ((hq.each v hvm).1.below hb) ((hq.each v hvm).2.below hb) (sm.2.2 u.x (List.mem_map.2 ⟨u,hum,rfl⟩)) hxe
 have H:=IV (w:=w) (x:=x) (a0:=a0) (b0:=b0) (ap:=ap) (bp:=bp) (n:=x.aN.length) (k0:=k0) (m0:=m0) (l:=L.length) (kp:=kp) (mp:=mp) (c:=c) (s:=s) (wv:=wv) (c' :=c') (s' :=s') (wv' :=wv') rfl hst acr hsm (L1:=L) (L2:=M) rfl hlen hpv hqp hll hf
 rw [hlen]
 exact H
theorem OU {w:World}{p q:Pw}{L M:List Pw}(hp:Ct w p L) (hq:Ct w q M) (sm:Yy ⟨p.x,L.map Pw.x⟩) (hx:p.x=q.x) (hm:L.map Pw.x=M.map Pw.x):
 Calls Tryz.prog 19 #[.agg p.arr,.agg q.arr] w fun e w' =>e= .returned (.bool true)∧Below w.heap.size w w' :=by
 obtain ⟨hB,hBx,bg⟩:=eu w p.arr q.arr 31 31
 have hc:=OT (hp.below hB) (hq.below hB) sm hx hm
 obtain ⟨x,tc,c,s,wv,pv⟩:=p
 obtain ⟨x',V5,c',s',wv',pv'⟩:=q
 clear hp hq sm hx hm
 go_enter Tryz.func19,Tryz.ntmps19
 go_wp2_with (first|refine bA rfl _ rfl rfl rfl hBx ?_|refine bA rfl _ rfl rfl rfl bg ?_)
 refine hc.mono ?_;rintro e w2 ⟨rfl,hb2⟩
 go_wp2_with fail
 go_ret
 exact ⟨rfl,hB.trans (hb2.mono hB.size)⟩
end Go.Proofs.YtfbgdjcnlnfoaaaGreatDoor
