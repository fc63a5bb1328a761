/- Parts of a proof. -/
import Derived.Test.YtnngbhpeeakfaaaGreatDoorB39
set_option maxHeartbeats 8000000
set_option maxRecDepth 100000
namespace Go.Proofs.YtnngbhpeeakfaaaGreatDoor
open Go.Proofs.Tryz
open Go.RowKit
open aK
theorem Jj {w:World}{u:Value}{L:List ByteArray}(hr:Rd w u L.length (L.map Value.string)) (hl:L.length≤1000) (x:ByteArray):
 Calls prog 59 #[u, .string x] w fun e w' =>e= .returned (.bool (lu x L))∧w' =w:=by
 obtain ⟨a,c,rfl,hx⟩:=hr;rcases Nat.eq_zero_or_pos L.length with h0|h0
 · rw [h0,List.length_eq_zero_iff.1 h0];exact Tryz.slices_Contains_string_empty a c x w
 · obtain ⟨g,o,rfl,hg⟩:=hx h0
   have:=Tryz.slices_Contains_string g o L.length c L x w (Nat.le_refl _) (by omega) (fun j hj=>by
    rw [hg j (.string L[j]) (by simp [hj]),List.getD_eq_getElem?_getD,List.getElem?_eq_getElem hj];rfl)
   rwa [List.take_length,mX]at this
theorem LB {α:Type}{f:α→Bool}{L:List α}{j:Nat}{q:α}(h:L[j]? =some q):(L.drop j).all f=(f q&&(L.drop (j+1)).all f):=by
 obtain ⟨hj,rfl⟩:=List.getElem?_eq_some_iff.1 h;rw [List.drop_eq_getElem_cons hj];rfl
theorem LC {α:Type}{f:α→Bool}{L:List α}{n:Nat}(h:L.length≤n):(L.drop n).all f=true:=by rw [List.drop_eq_nil_of_le h];rfl
theorem Tryz.ug:FD prog 31 3:=⟨⟨_,underlying31,rfl⟩,by kernel_rfl⟩
theorem YZ:FE Tb.zero:=⟨by decide,by decide,by decide,by decide,(fun _ h=>nomatch h),by decide⟩
theorem find_ok {L:List Tb}(h:∀t∈L,FE t) (s:ByteArray):FE ((jP L s).getD Tb.zero):=by
 cases hf:jP L s with
 |none=>exact YZ
 |some t=>exact h t (List.mem_of_find?_eq_some hf)
theorem NT {w:World}{s:Sw}(hG:Gp w) (h:pK w s) (hO:FH s.x):
 Calls prog 38 #[.agg s.arr] w fun e w' =>e= .returned (.bool s.x.check)∧Below w.heap.size w w' :=by
 have hB1:=(Below.refl w.heap.size w).alloc (Nat.le_refl _) (.cells s.arr 92);have hb0:=aB w (.cells s.arr 92);have HTO:Hid (∀q∈s.T,q.arr.toList.all (·.oneCell')=true∧nL w q∧FE q.t):=fun q hq=>⟨(h.t q hq).one,h.t q hq,hO.t q.t (List.mem_map_of_mem hq)⟩
 have HVO:Hid (∀q∈s.V,q.arr.toList.all (·.oneCell')=true∧vM w q∧abA q.x):=fun q hq=>⟨(h.v q hq).one,h.v q hq,hO.v q.x (List.mem_map_of_mem hq)⟩
 have hnT:s.T.length≤100:=by have:=hO.nt;unfold Sw.x at this;simpa using this
 have hnV:s.V.length≤100:=by have:=hO.nv;unfold Sw.x at this;simpa using this
 have HN:Hid (∀w',Below w.heap.size w w' →Calls prog 92 #[.agg s.arr] w' fun e w'' =>∃u v,e= .returned (.tuple #[u,v])∧Rd w'' u s.T.length ((s.T.map fun q=>q.t.name).map Value.string)∧Rd w'' v s.V.length ((s.V.map fun q=>q.x.name).map Value.string)∧Below w'.heap.size w' w''):=fun w' hb=>SC (h.below hb) (by omega) (by omega)
 have HI:Hid (∀w',Below w.heap.size w w' →Calls prog 94 #[.agg s.arr] w' fun e w'' =>e= .returned (.bool (Jm s.last [] (s.x.ts.map Tb.id++s.x.vs.map Vw.id)))∧Below w'.heap.size w' w''):=fun w' hb=>YU (h.below hb) (by omega) (by omega) (fun q hq=>(HTO.out q hq).2.2.id) (fun q hq=>(HVO.out q hq).2.2.id)
 have HF:Hid (∀w' nm,Below w.heap.size w w' →Calls prog 16 #[.agg s.arr, .string nm] w' fun e w'' =>∃q:Tw,e= .returned (.tuple #[.agg q.arr, .bool (jP s.x.ts nm).isSome])∧nL w'' q∧q.t=(jP s.x.ts nm).getD Tb.zero∧Below w'.heap.size w' w''):=fun w' nm hb=>xW (h.below hb) (by omega) (fun q hq=>(HTO.out q hq).2.2.n) nm
 have HFO:Hid (∀nm,FE ((jP s.x.ts nm).getD Tb.zero)):=fun nm=>find_ok hO.t nm
 have HG:=Lib.hid hG;have hts:=h.ts;have hvs:=h.vs
 have HC:Hid (s.x.check=((decide (s.T.length≤4)&&(decide (s.V.length≤4)&&(decide (0≤s.last)&&(decide (s.last≤1099511627776)&&(l6 (s.T.map fun q=>q.t.name)&&(l6 (s.V.map fun q=>q.x.name)&&Jm s.last [] (s.x.ts.map Tb.id++s.x.vs.map Vw.id)))))))&&
  ((s.T.all fun q=>Ik q.t&& !lu q.t.name (s.V.map fun q=>q.x.name))&&s.V.all fun q=>match jP s.x.ts q.x.dA with|some t=>qj t.aD q.x|none=>false))):=by
  show _=_;unfold Sc.check Sw.x;simp only [List.length_map,List.map_map,List.all_map];rfl
 obtain ⟨r,hr⟩:∃r,s.x.check=r:=⟨_,rfl⟩;rw [hr]at HC⊢;clear h hO hG hr;obtain ⟨ids,adO⟩:∃b,Jm s.last [] (s.x.ts.map Tb.id++s.x.vs.map Vw.id)=b:=⟨_,rfl⟩;rw [adO]at HC HI;clear adO;obtain ⟨TT,hTT⟩:∃l,s.x.ts=l:=⟨_,rfl⟩;rw [hTT]at HC HF HFO;clear hTT;obtain ⟨la,T,V,tv,vv⟩:=s;unfold Sw.arr at *
 dsimp only at *
 obtain ⟨ta,tc,rfl,htx⟩:=hts;obtain ⟨va,vc,rfl,LY⟩:=hvs;have HTX:=Lib.hid htx;have HVX:=Lib.hid LY;clear htx LY;go_enter func38,ntmps38;go_upto_region 1 with (fail)
 generalize (w.alloc (.cells _ 92))=W at *;have hc:=HN.out W hB1;go_wp2_with (refine cZ Tryz.rtS rfl _ rfl rfl rfl (dz hb0) ?_);refine hc.mono ?_;rintro e w2 ⟨_,_,rfl,⟨ua,uc,rfl,hux⟩,⟨na,nc,rfl,hnx⟩,hb2⟩;have hU:Hid (Rd w2 (.slice ua T.length uc) T.length ((T.map fun q=>q.t.name).map Value.string)):=⟨_,_,rfl,hux⟩;have hNV:Hid (Rd w2 (.slice na V.length nc) V.length ((V.map fun q=>q.x.name).map Value.string)):=⟨_,_,rfl,hnx⟩;have hB2:=hB1.trans (hb2.mono hB1.size);have hbx:=aH hb2 hb0;clear hux hnx hc hb2 hb0 HN hB1;have k0:w2.cell? ⟨w.heap.size,0,none⟩=some (.int .i64 la):=by rw [aj hbx];rfl
 by_cases h1:T.length≤4
 case neg=>
  have p1:¬(T.length:Int)≤4:=by omega
  go_wp2_with fail;go_ret;exact ⟨aR (by rw [HC.out,decide_eq_false h1];rfl),hB2⟩
 have p1:(T.length:Int)≤4:=by omega
 rw [decide_eq_true h1]at HC;by_cases h2:V.length≤4
 case neg=>
  have p2:¬(V.length:Int)≤4:=by omega
  go_wp2_with fail;go_ret;exact ⟨aR (by rw [HC.out,decide_eq_false h2];rfl),hB2⟩
 have p2:(V.length:Int)≤4:=by omega
 rw [decide_eq_true h2]at HC;by_cases h3:0≤la
 case neg=>
  go_wp2_with fail;go_ret;exact ⟨aR (by rw [HC.out,decide_eq_false (by omega)];rfl),hB2⟩
 rw [decide_eq_true h3]at HC;by_cases h4:la≤1099511627776
 case neg=>
  go_wp2_with fail;go_ret;exact ⟨aR (by rw [HC.out,decide_eq_false (by omega)];rfl),hB2⟩
 rw [decide_eq_true h4]at HC;have hr1:=Lu (C:=T.map fun q=>q.t.name) (by rw [List.length_map];exact hU.out) (by rw [List.length_map];omega);obtain ⟨b5,e5⟩:∃b,l6 (T.map fun q=>q.t.name)=b:=⟨_,rfl⟩;obtain ⟨b6,e6⟩:∃b,l6 (V.map fun q=>q.x.name)=b:=⟨_,rfl⟩
 have HR2:Hid (∀w',Below w2.heap.size w2 w' →Calls prog 93 #[.slice na V.length nc] w' fun e w'' =>e= .returned (.bool b6)∧Below w'.heap.size w' w''):=fun w' hb=>by
  have:=Lu (C:=V.map fun q=>q.x.name) (by rw [List.length_map];exact hNV.out.below hb) (by rw [List.length_map];omega);rw [e6]at this;exact this
 rw [e5]at hr1 HC;rw [e6]at HC;clear e5 e6;go_wp2_with fail;refine hr1.mono ?_;rintro e w3 ⟨rfl,hb3⟩;have hB3:=hB2.trans (hb3.mono hB2.size);cases b5 with
 |false=>
  go_wp2_with fail;go_ret;exact ⟨aR (by rw [HC.out];rfl),hB3⟩
 |true=>
 have hr2:=HR2.out w3 hb3;clear HR2 hr1;go_wp2_with fail;refine hr2.mono ?_;rintro e w4 ⟨rfl,adP⟩;have hb4:=hb3.trans (adP.mono hb3.size);have hB4:=hB2.trans (hb4.mono hB2.size);cases b6 with
 |false=>
  go_wp2_with fail;go_ret;exact ⟨aR (by rw [HC.out];rfl),hB4⟩
 |true=>
 have hr3:=HI.out w4 hB4;have EN:=aH hb4 hbx;clear hr2 adP hB3 hb3;go_wp2_with (refine cZ Tryz.rtS (by go_simp) _ rfl rfl rfl (dz EN) ?_);refine hr3.mono ?_;rintro e w5 ⟨rfl,abE⟩;have hb5:=hb4.trans (abE.mono hb4.size);have kU:=hB2.trans (hb5.mono hB2.size);have SA:=aH abE EN;cases ids with
 |false=>
  go_wp2_with fail;go_ret;exact ⟨aR (by rw [HC.out];rfl),kU⟩
 |true=>
 have HC2:Hid (r=((T.drop 0).all (fun q=>Ik q.t&& !lu q.t.name (V.map fun q=>q.x.name))&&V.all fun q=>match jP TT q.x.dA with|some t=>qj t.aD q.x|none=>false)):=by
  show _=_;rw [HC.out,List.drop_zero];rfl
 have k1:w5.cell? ⟨w.heap.size,1,none⟩=some (.slice ta T.length tc):=by rw [aj SA];rfl
 clear hr3 abE hB4 EN HI HC hbx k0 hb4 hB2;go_wp2_with fail;clear k1
 go_loopw [55] (fun i wr=>∃j:Nat,i= .int .i64 j∧j≤T.length∧Below w.heap.size w wr∧Below w2.heap.size w2 wr∧wr.heap[w.heap.size]? =some (.cells #[.int .i64 la, .slice ta T.length tc, .slice va V.length vc] 92 (0,0))∧Hid (r=((T.drop j).all (fun q=>Ik q.t&& !lu q.t.name (V.map fun q=>q.x.name))&&V.all fun q=>match jP TT q.x.dA with|some t=>qj t.aD q.x|none=>false))) (fun i _=>T.length - (intOf i).toNat)
 case atStart=>exact ⟨0,rfl,Nat.zero_le _,kU,hb5,SA,HC2⟩
 case round=>
  clear HC2 SA hb5 kU;obtain ⟨j,rfl,hj,hBr,hbr,hbx,HT⟩:=hrel;have hsz:=hBr.size;by_cases hjl:j<T.length
  · have p0:(j:Int)<(T.length:Int):=by omega
    have p9:(0:Int)≤(j:Int):=by omega
    have HJ:=Lib.hid (show j+1≤T.length from hjl);obtain ⟨g,o,rfl,hx⟩:=HTX.out (by omega);obtain ⟨q,hq⟩:∃q,T[j]? =some q:=⟨_,List.getElem?_eq_getElem hjl⟩;have hR:=lq Tw.len hx hq hBr;obtain ⟨ho1,hqi,hqo⟩:=HTO.out q (List.mem_of_getElem? hq);have hB4:=hBr.alloc hsz (.cells q.arr 27);have adQ:=hbr.alloc hbr.size (.cells q.arr 27);have hb4:=aB wr (.cells q.arr 27);have EN:=ay hbx (.cells q.arr 27);have hc:=Wi (HG.out.below hB4) (hqi.below hB4) hqo
    have HT2:Hid (r=(((Ik q.t&& !lu q.t.name (V.map fun q=>q.x.name))&&(T.drop (j+1)).all (fun q=>Ik q.t&& !lu q.t.name (V.map fun q=>q.x.name)))&&V.all fun q=>match jP TT q.x.dA with|some t=>qj t.aD q.x|none=>false)):=by
     show _=_;rw [HT.out,LB hq]
    obtain ⟨c1,e1⟩:∃c,Ik q.t=c:=⟨_,rfl⟩;obtain ⟨c2,e2⟩:∃c,lu q.t.name (V.map fun q=>q.x.name)=c:=⟨_,rfl⟩
    have HCN:Hid (∀w',Below w2.heap.size w2 w' →Calls prog 59 #[.slice na V.length nc, .string q.t.name] w' fun e w'' =>e= .returned (.bool c2)∧w'' =w'):=fun w' hb=>by
     have:=Jj (L:=V.map fun q=>q.x.name) (by rw [List.length_map];exact hNV.out.below hb) (by rw [List.length_map];omega) q.t.name;rw [e2]at this;exact this
    rw [e1]at hc HT2;rw [e2]at HT2;clear e1 e2 hq hx HT hqi hqo hbx hbr;go_wp2_with (first|refine cZ Tryz.Ac rfl _ rfl rfl rfl hR ?_|refine fq Tryz.Ac rfl _ _ rfl rfl rfl rfl rfl rfl ho1 ?_|refine cZ Tryz.Ac rfl _ rfl rfl rfl (dz hb4) ?_);refine hc.mono ?_;rintro e w6 ⟨rfl,hb6⟩;have uf:=hB4.trans (hb6.mono hB4.size);have adR:=adQ.trans (hb6.mono adQ.size);have abF:=aH hb6 EN;have m0:w6.cell? ⟨wr.heap.size,0,none⟩=some (.string q.t.name):=by rw [aj (aH hb6 hb4)];rfl
    cases c1 with
    |false=>
     go_wp2_with fail;go_ret;exact ⟨aR (by rw [HT2.out];rfl),uf⟩
    |true=>
     have hcn:=HCN.out w6 adR;clear hc;go_wp2_with fail;refine hcn.mono ?_;rintro e w7 ⟨rfl,rfl⟩;cases c2 with
     |true=>
      go_wp2_with fail;go_ret;exact ⟨aR (by rw [HT2.out];rfl),uf⟩
     |false=>
      go_wp2_with fail;go_roundw
      case rel=>exact ⟨j+1,by go_num,HJ.out,uf,adR,abF,HT2⟩
      case measure=>have hjj:=HJ.out;simp [intOf];omega
  · have jV:j=T.length:=by omega
    subst jV
    rename World=>w8
    have HC3:Hid (r=(V.drop 0).all fun q=>match jP TT q.x.dA with|some t=>qj t.aD q.x|none=>false):=by
     show _=_;rw [HT.out,LC (Nat.le_refl _),List.drop_zero];rfl
    have k2:w8.cell? ⟨w.heap.size,2,none⟩=some (.slice va V.length vc):=by rw [aj hbx];rfl
    clear HT;go_wp2_with fail;clear k2
    go_loopw [73] (fun i wr=>∃j:Nat,i= .int .i64 j∧j≤V.length∧Below w.heap.size w wr∧wr.heap[w.heap.size]? =some (.cells #[.int .i64 la, .slice ta T.length tc, .slice va V.length vc] 92 (0,0))∧Hid (r=(V.drop j).all fun q=>match jP TT q.x.dA with|some t=>qj t.aD q.x|none=>false)) (fun i _=>V.length - (intOf i).toNat)
    case atStart=>exact ⟨0,rfl,Nat.zero_le _,hBr,hbx,HC3⟩
    case round=>
     clear HC3 hbx hBr hbr;obtain ⟨j,rfl,hj,hBr,hbx,HT⟩:=hrel;have hsz:=hBr.size;by_cases hjl:j<V.length
     · have p0:(j:Int)<(V.length:Int):=by omega
       have p9:(0:Int)≤(j:Int):=by omega
       have HJ:=Lib.hid (show j+1≤V.length from hjl);obtain ⟨g,o,rfl,hx⟩:=HVX.out (by omega);obtain ⟨u,hq⟩:∃q,V[j]? =some q:=⟨_,List.getElem?_eq_getElem hjl⟩;have hR:=lq Vv.len hx hq hBr;obtain ⟨ho1,hqi,hqo⟩:=HVO.out u (List.mem_of_getElem? hq);have HQ:=Lib.hid hqi;have HQO:=Lib.hid hqo;have hB4:=hBr.alloc hsz (.cells u.arr 46);have hb4:=aB wr (.cells u.arr 46);have EN:=ay hbx (.cells u.arr 46);have k2:(wr.alloc (.cells u.arr 46)).cell? ⟨wr.heap.size,2,none⟩=some (.string u.x.dA):=by rw [aj hb4];rfl
       have hc:=HF.out _ u.x.dA hB4;have HO:=Lib.hid (HFO.out u.x.dA)
       have HT2:Hid (r=((match jP TT u.x.dA with|some t=>qj t.aD u.x|none=>false)&&(V.drop (j+1)).all fun q=>match jP TT q.x.dA with|some t=>qj t.aD q.x|none=>false)):=by
        show _=_;rw [HT.out,LB hq]
       obtain ⟨ft,eft⟩:∃c,jP TT u.x.dA=c:=⟨_,rfl⟩;rw [eft]at hc HT2 HO;clear eft hq hx HT hqi hqo hbx;go_wp2_with (first|refine cZ Tryz.Jf rfl _ rfl rfl rfl hR ?_|refine fq Tryz.Jf rfl _ _ rfl rfl rfl rfl rfl rfl ho1 ?_|refine cZ Tryz.ug rfl _ rfl rfl rfl (dz EN) ?_);refine hc.mono ?_;rintro e w6 ⟨q,rfl,hqi,hqt,hb6⟩;have uf:=hB4.trans (hb6.mono hB4.size);have af9:=aH hb6 hb4;have abF:=aH hb6 EN;have hoq:=hqi.one;cases ft with
       |none=>
        go_wp2_with (refine fq Tryz.Ac rfl _ _ rfl rfl rfl rfl rfl rfl hoq ?_);go_ret;exact ⟨aR (by rw [HT2.out];rfl),uf.alloc uf.size _⟩
       |some ft=>
        have abG:q.t=ft:=hqt;have Y0:=uf.alloc uf.size (.cells q.arr 27);have Vp:=aB w6 (.cells q.arr 27);have aga:=ay af9 (.cells q.arr 27);have agb:=ay abF (.cells q.arr 27);have hcv:=YS (q:=q) (u:=u) (HG.out.below Y0) (hqi.below ((Below.refl w6.heap.size w6).alloc (Nat.le_refl _) _)) (by rw [abG];exact HO.out.n) (HQ.out.below Y0) HQO.out
        have HT3:Hid (r=(qj q.t.aD u.x&&(V.drop (j+1)).all fun q=>match jP TT q.x.dA with|some t=>qj t.aD q.x|none=>false)):=by
         show _=_;rw [HT2.out,abG]
        obtain ⟨c,ec⟩:∃c,qj q.t.aD u.x=c:=⟨_,rfl⟩;rw [ec]at hcv HT3;clear ec hqt abG HT2 hqi HO hc;go_wp2_with (first|refine fq Tryz.Ac rfl _ _ rfl rfl rfl rfl rfl rfl hoq ?_|refine cZ Tryz.Ac (by go_simp) _ rfl rfl rfl (dz Vp) ?_|refine cZ Tryz.Jf (by go_simp) _ rfl rfl rfl (dz aga) ?_);refine hcv.mono ?_;rintro e w9 ⟨rfl,El⟩;have hB9:=Y0.trans (El.mono Y0.size);have agc:=aH El agb;cases c with
        |false=>
         go_wp2_with fail;go_ret;exact ⟨aR (by rw [HT3.out];rfl),hB9⟩
        |true=>
         go_wp2_with fail;go_roundw
         case rel=>exact ⟨j+1,by go_num,HJ.out,hB9,agc,HT3⟩
         case measure=>have hjj:=HJ.out;simp [intOf];omega
     · have jV:j=V.length:=by omega
       subst jV
       have HT3:Hid (r=true):=by
        show _=_;rw [HT.out,LC (Nat.le_refl _)]
       go_wp2_with fail;go_ret;exact ⟨aR HT3.out.symm,hBr⟩
end Go.Proofs.YtnngbhpeeakfaaaGreatDoor
