/- Parts of the proof, joined: LexB LexC PlainM LexD LexE PlainN LexF LexG PlainO. -/
import Derived.StillTailTactics
import Derived.Deep.RegionWith
import Derived.Test.YtfbgdjcnlnfoaaaGreatDoorB01
set_option maxHeartbeats 2000000
set_option maxRecDepth 100000
namespace Go.Proofs.YtfbgdjcnlnfoaaaGreatDoor
open Go.RowKit
open aH
theorem Tryz.Wp:(Tryz.prog.info? 149).map (fun i=>(i.zero,i.size,i.bytes))=some (some (.agg #[.int .i32 0, .int .i64 0, .bool false]),3,24):=by kernel_rfl
theorem jW {L:Nat}(w:World) (b:Nat) (s:ByteArray) (P:List Pt) (i more:Nat) (r:Int) (h:SQ L w b s P i) (hi:i≤1000000) (hm:more≤1) (v:Bool) (hv:gy P (i+more) r=v):
 Calls Tryz.prog 119 #[.pointer (some ⟨b,0,none⟩), .int .i64 more, .int .i32 r] w fun e w' =>e= .returned (.bool v)∧∃m,w' =w.drewN m:=by
 rw [←hv];exact Wo w b s P i more r h hi hm
def vv (w:World) (b:Nat):Nat:=match w.cell? ⟨b,2,none⟩with|some (.int _ n)=>n.toNat|_=>0
theorem eH {T:TypeId}{flat:List Pt→List Value}{L:Nat}{w:World}{b:Nat}{s:ByteArray}{P:List Pt}{i:Nat}(h:yG T flat L w b s P i):vv w b=i:=by
 obtain ⟨_,_,_,_,c2,_⟩:=h.cells
 unfold vv
 rw [c2]
 exact Int.toNat_natCast i
theorem FW {L:Nat}(w:World) (b:Nat) (s:ByteArray) (P:List Pt) (i:Nat) (h:SQ L w b s P i) (hi:i≤P.length) (hP:P.length≤100000):
 Calls Tryz.prog 78 #[.pointer (some ⟨b,0,none⟩)] w fun e w' =>e= .returned (.tuple #[])∧SQ L w' b s P (skip P i)∧w.grownBy w' (some b):=by
 have H:=Lib.hid h
 clear h
 go_enter Tryz.func78,Tryz.ntmps78
 go_wp2_with fail
 go_loopw [] (fun wr=>∃k,SQ L wr b s P k∧w.grownBy wr (some b)∧Hid (skip P i=skip P k)∧k≤P.length) (fun wr=>P.length - vv wr b)
 case atStart=>exact ⟨i,H.out,o8 _ _,rfl,hi⟩
 case round=>
  obtain ⟨k,hS,hg,HE,hk⟩:=hrel
  have hk0:=eH hS
  have HK:=Lib.hid hk0
  clear hk0
  by_cases hlt:k<P.length
  · have HL:=Lib.hid hlt
    go_wp2_with fail
    refine (nV _ b s P k hS false (decide_eq_false (by omega))).mono ?_;rintro e w1 ⟨rfl,m,hm⟩
    replace hS:=hS.heap (w' :=w1) (by rw [hm];rfl)
    replace hg:=aK hg (show _ from hm▸bq _ m (some b))
    clear hm
    cases h32:gy P k 32
    case true=>
     go_wp2_with fail
     refine (jW _ b s P k 0 32 hS (by omega) (by omega) _ h32).mono ?_;rintro e w1 ⟨rfl,m,hm⟩
     replace hS:=hS.heap (w' :=w1) (by rw [hm];rfl)
     replace hg:=aK hg (show _ from hm▸bq _ m (some b))
     clear hm
     obtain ⟨_,_,_,_,c2,f2,_⟩:=hS.cells
     go_wp2_with fail
     go_roundw
     case rel=>
      refine ⟨k+1,by have:=hS.set (k+1);push_cast at this;exact this,aK hg (jd _ _ _ _), ?_,by omega⟩
      show _=_
      rw [HE.out,gG HL.out (by unfold dO;rw [h32];rfl)]
     case measure=>
      have h1:=eH (hS.set (k+1));push_cast at h1
      rw [h1,HK.out];omega
    case false=>
     cases h9:gy P k 9
     case true=>
      go_wp2_with fail
      refine (jW _ b s P k 0 32 hS (by omega) (by omega) _ h32).mono ?_;rintro e w1 ⟨rfl,m,hm⟩
      replace hS:=hS.heap (w' :=w1) (by rw [hm];rfl)
      replace hg:=aK hg (show _ from hm▸bq _ m (some b))
      clear hm
      go_wp2_with fail
      refine (jW _ b s P k 0 9 hS (by omega) (by omega) _ h9).mono ?_;rintro e w1 ⟨rfl,m,hm⟩
      replace hS:=hS.heap (w' :=w1) (by rw [hm];rfl)
      replace hg:=aK hg (show _ from hm▸bq _ m (some b))
      clear hm
      obtain ⟨_,_,_,_,c2,f2,_⟩:=hS.cells
      go_wp2_with fail
      go_roundw
      case rel=>
       refine ⟨k+1,by have:=hS.set (k+1);push_cast at this;exact this,aK hg (jd _ _ _ _), ?_,by omega⟩
       show _=_
       rw [HE.out,gG HL.out (by unfold dO;rw [h32,h9];rfl)]
      case measure=>
       have h1:=eH (hS.set (k+1));push_cast at h1
       rw [h1,HK.out];omega
     case false=>
      cases h10:gy P k 10
      case true=>
       go_wp2_with fail
       refine (jW _ b s P k 0 32 hS (by omega) (by omega) _ h32).mono ?_;rintro e w1 ⟨rfl,m,hm⟩
       replace hS:=hS.heap (w' :=w1) (by rw [hm];rfl)
       replace hg:=aK hg (show _ from hm▸bq _ m (some b))
       clear hm
       go_wp2_with fail
       refine (jW _ b s P k 0 9 hS (by omega) (by omega) _ h9).mono ?_;rintro e w1 ⟨rfl,m,hm⟩
       replace hS:=hS.heap (w' :=w1) (by rw [hm];rfl)
       replace hg:=aK hg (show _ from hm▸bq _ m (some b))
       clear hm
       go_wp2_with fail
       refine (jW _ b s P k 0 10 hS (by omega) (by omega) _ h10).mono ?_;rintro e w1 ⟨rfl,m,hm⟩
       replace hS:=hS.heap (w' :=w1) (by rw [hm];rfl)
       replace hg:=aK hg (show _ from hm▸bq _ m (some b))
       clear hm
       obtain ⟨_,_,_,_,c2,f2,_⟩:=hS.cells
       go_wp2_with fail
       go_roundw
       case rel=>
        refine ⟨k+1,by have:=hS.set (k+1);push_cast at this;exact this,aK hg (jd _ _ _ _), ?_,by omega⟩
        show _=_
        rw [HE.out,gG HL.out (by unfold dO;rw [h32,h9,h10];rfl)]
       case measure=>
        have h1:=eH (hS.set (k+1));push_cast at h1
        rw [h1,HK.out];omega
      case false=>
       cases zm:gy P k 13
       case true=>
        go_wp2_with fail
        refine (jW _ b s P k 0 32 hS (by omega) (by omega) _ h32).mono ?_;rintro e w1 ⟨rfl,m,hm⟩
        replace hS:=hS.heap (w' :=w1) (by rw [hm];rfl)
        replace hg:=aK hg (show _ from hm▸bq _ m (some b))
        clear hm
        go_wp2_with fail
        refine (jW _ b s P k 0 9 hS (by omega) (by omega) _ h9).mono ?_;rintro e w1 ⟨rfl,m,hm⟩
        replace hS:=hS.heap (w' :=w1) (by rw [hm];rfl)
        replace hg:=aK hg (show _ from hm▸bq _ m (some b))
        clear hm
        go_wp2_with fail
        refine (jW _ b s P k 0 10 hS (by omega) (by omega) _ h10).mono ?_;rintro e w1 ⟨rfl,m,hm⟩
        replace hS:=hS.heap (w' :=w1) (by rw [hm];rfl)
        replace hg:=aK hg (show _ from hm▸bq _ m (some b))
        clear hm
        go_wp2_with fail
        refine (jW _ b s P k 0 13 hS (by omega) (by omega) _ zm).mono ?_;rintro e w1 ⟨rfl,m,hm⟩
        replace hS:=hS.heap (w' :=w1) (by rw [hm];rfl)
        replace hg:=aK hg (show _ from hm▸bq _ m (some b))
        clear hm
        obtain ⟨_,_,_,_,c2,f2,_⟩:=hS.cells
        go_wp2_with fail
        go_roundw
        case rel=>
         refine ⟨k+1,by have:=hS.set (k+1);push_cast at this;exact this,aK hg (jd _ _ _ _), ?_,by omega⟩
         show _=_
         rw [HE.out,gG HL.out (by unfold dO;rw [h32,h9,h10,zm];rfl)]
        case measure=>
         have h1:=eH (hS.set (k+1));push_cast at h1
         rw [h1,HK.out];omega
       case false=>
        have HB:Hid (dO P k=false):=by show _=_;unfold dO;rw [h32,h9,h10,zm];rfl
        go_wp2_with fail
        refine (jW _ b s P k 0 32 hS (by omega) (by omega) _ h32).mono ?_;rintro e w1 ⟨rfl,m,hm⟩
        replace hS:=hS.heap (w' :=w1) (by rw [hm];rfl)
        replace hg:=aK hg (show _ from hm▸bq _ m (some b))
        clear hm
        go_wp2_with fail
        refine (jW _ b s P k 0 9 hS (by omega) (by omega) _ h9).mono ?_;rintro e w1 ⟨rfl,m,hm⟩
        replace hS:=hS.heap (w' :=w1) (by rw [hm];rfl)
        replace hg:=aK hg (show _ from hm▸bq _ m (some b))
        clear hm
        go_wp2_with fail
        refine (jW _ b s P k 0 10 hS (by omega) (by omega) _ h10).mono ?_;rintro e w1 ⟨rfl,m,hm⟩
        replace hS:=hS.heap (w' :=w1) (by rw [hm];rfl)
        replace hg:=aK hg (show _ from hm▸bq _ m (some b))
        clear hm
        go_wp2_with fail
        refine (jW _ b s P k 0 13 hS (by omega) (by omega) _ zm).mono ?_;rintro e w1 ⟨rfl,m,hm⟩
        replace hS:=hS.heap (w' :=w1) (by rw [hm];rfl)
        replace hg:=aK hg (show _ from hm▸bq _ m (some b))
        clear hm
        cases h45:gy P k 45
        case false=>
         go_wp2_with fail
         refine (jW _ b s P k 0 45 hS (by omega) (by omega) _ h45).mono ?_;rintro e w1 ⟨rfl,m,hm⟩
         replace hS:=hS.heap (w' :=w1) (by rw [hm];rfl)
         replace hg:=aK hg (show _ from hm▸bq _ m (some b))
         clear hm
         have HF:Hid (skip P i=k):=by
          show _=_
          rw [HE.out,ig HB.out (by unfold iO;rw [h45];rfl)]
         clear h32 h9 h10 zm h45
         go_wp2_with fail
         ((try simp only [Exit.inBlock,Exit.then]);refine bodyPost_ret (results_none rfl _ _ _) rfl ?_)
         exact ⟨rfl,by rw [HF.out];exact hS,hg⟩
        case true=>
         cases h46:gy P (k+1) 45
         case false=>
          go_wp2_with fail
          refine (jW _ b s P k 0 45 hS (by omega) (by omega) _ h45).mono ?_;rintro e w1 ⟨rfl,m,hm⟩
          replace hS:=hS.heap (w' :=w1) (by rw [hm];rfl)
          replace hg:=aK hg (show _ from hm▸bq _ m (some b))
          clear hm
          go_wp2_with fail
          refine (jW _ b s P k 1 45 hS (by omega) (by omega) _ h46).mono ?_;rintro e w1 ⟨rfl,m,hm⟩
          replace hS:=hS.heap (w' :=w1) (by rw [hm];rfl)
          replace hg:=aK hg (show _ from hm▸bq _ m (some b))
          clear hm
          have HF:Hid (skip P i=k):=by
           show _=_
           rw [HE.out,ig HB.out (by unfold iO;rw [h45,h46];rfl)]
          clear h32 h9 h10 zm h45 h46
          go_wp2_with fail
          ((try simp only [Exit.inBlock,Exit.then]);refine bodyPost_ret (results_none rfl _ _ _) rfl ?_)
          exact ⟨rfl,by rw [HF.out];exact hS,hg⟩
         case true=>
          go_wp2_with fail
          refine (jW _ b s P k 0 45 hS (by omega) (by omega) _ h45).mono ?_;rintro e w1 ⟨rfl,m,hm⟩
          replace hS:=hS.heap (w' :=w1) (by rw [hm];rfl)
          replace hg:=aK hg (show _ from hm▸bq _ m (some b))
          clear hm
          go_wp2_with fail
          refine (jW _ b s P k 1 45 hS (by omega) (by omega) _ h46).mono ?_;rintro e w1 ⟨rfl,m,hm⟩
          replace hS:=hS.heap (w' :=w1) (by rw [hm];rfl)
          replace hg:=aK hg (show _ from hm▸bq _ m (some b))
          clear hm
          have HD:Hid (iO P k=true):=by show _=_;unfold iO;rw [h45,h46];rfl
          have HF:Hid (skip P i=skip P (lineEnd P k)):=by
           show _=_
           rw [HE.out,lW HL.out HB.out HD.out]
          clear h32 h9 h10 zm h45 h46
          go_wp2_with fail
          go_loopw [] (fun wi=>∃j,SQ L wi b s P j∧w.grownBy wi (some b)∧Hid (lineEnd P k=dD (fun j=> !gy P j 10) P.length j)∧j≤P.length) (fun wi=>P.length - vv wi b)
          case atStart=>exact ⟨k,hS,hg,rfl,hk⟩
          case round=>
           obtain ⟨j,hS,hg,HJ,hj⟩:=hrel
           have hj0:=eH hS
           have HJ0:=Lib.hid hj0
           clear hj0
           by_cases hlj:j<P.length
           · cases h10:gy P j 10
             case false=>
              go_wp2_with fail
              refine (nV _ b s P j hS false (decide_eq_false (by omega))).mono ?_;rintro e w1 ⟨rfl,m,hm⟩
              replace hS:=hS.heap (w' :=w1) (by rw [hm];rfl)
              replace hg:=aK hg (show _ from hm▸bq _ m (some b))
              clear hm
              go_wp2_with fail
              refine (jW _ b s P j 0 10 hS (by omega) (by omega) _ h10).mono ?_;rintro e w1 ⟨rfl,m,hm⟩
              replace hS:=hS.heap (w' :=w1) (by rw [hm];rfl)
              replace hg:=aK hg (show _ from hm▸bq _ m (some b))
              clear hm
              obtain ⟨_,_,_,_,c2,f2,_⟩:=hS.cells
              have HJ2:Hid (lineEnd P k=dD (fun j=> !gy P j 10) P.length (j+1)):=by show _=_;rw [HJ.out];exact gU hlj (by simp only [h10];rfl)
              clear h10
              go_wp2_with fail
              go_roundw
              case rel=>exact ⟨j+1,by have:=hS.set (j+1);push_cast at this;exact this,aK hg (jd _ _ _ _),HJ2,by omega⟩
              case measure=>
               have h1:=eH (hS.set (j+1));push_cast at h1
               rw [h1,HJ0.out];omega
             case true=>
              go_wp2_with fail
              refine (nV _ b s P j hS false (decide_eq_false (by omega))).mono ?_;rintro e w1 ⟨rfl,m,hm⟩
              replace hS:=hS.heap (w' :=w1) (by rw [hm];rfl)
              replace hg:=aK hg (show _ from hm▸bq _ m (some b))
              clear hm
              go_wp2_with fail
              refine (jW _ b s P j 0 10 hS (by omega) (by omega) _ h10).mono ?_;rintro e w1 ⟨rfl,m,hm⟩
              replace hS:=hS.heap (w' :=w1) (by rw [hm];rfl)
              replace hg:=aK hg (show _ from hm▸bq _ m (some b))
              clear hm
              have H10:=Lib.hid h10
              clear h10
              have YG:Hid (lineEnd P k=j):=by show _=_;rw [HJ.out];exact fJ (by simp only [H10.out];rfl)
              have hgt:=iV HD.out
              have HGT:Hid (k<j):=by rw [←YG.out];exact hgt.1
              clear hgt
              go_wp2_with fail
              go_roundw
              case rel=>exact ⟨j,hS,hg,(by show _=_;rw [HF.out,YG.out]),hj⟩
              case measure=>rw [eH hS,HK.out];have:=HGT.out;have:=HL.out;omega
           · skip
             go_wp2_with fail
             refine (nV _ b s P j hS true (decide_eq_true (by omega))).mono ?_;rintro e w1 ⟨rfl,m,hm⟩
             replace hS:=hS.heap (w' :=w1) (by rw [hm];rfl)
             replace hg:=aK hg (show _ from hm▸bq _ m (some b))
             clear hm
             have YG:Hid (lineEnd P k=j):=by show _=_;rw [HJ.out];exact sD (by omega)
             have hgt:=iV HD.out
             have HGT:Hid (k<j):=by rw [←YG.out];exact hgt.1
             clear hgt
             go_wp2_with fail
             go_roundw
             case rel=>exact ⟨j,hS,hg,(by show _=_;rw [HF.out,YG.out]),hj⟩
             case measure=>rw [eH hS,HK.out];have:=HGT.out;have:=HL.out;omega
  · have HF:Hid (skip P i=k):=by show _=_;rw [HE.out,vo (by omega)]
    go_wp2_with fail
    refine (nV _ b s P k hS true (decide_eq_true (by omega))).mono ?_;rintro e w1 ⟨rfl,m,hm⟩
    replace hS:=hS.heap (w' :=w1) (by rw [hm];rfl)
    replace hg:=aK hg (show _ from hm▸bq _ m (some b))
    clear hm
    go_wp2_with fail
    go_end0
    exact ⟨rfl,by rw [HF.out];exact hS,hg⟩
theorem ownsRow_iterAt {w:World}{base:Nat}{e:TypeId}{size:Nat}{v:Value}{n:Nat}{xs:List Value}(h:w.ownsRow base e size v n xs) {k:Nat}(hk:k<base) (s:ByteArray) (p:Nat):(w.iterAt k s p).ownsRow base e size v n xs:=by
 obtain ⟨h1,h2⟩:=h
 refine ⟨h1, ?_⟩
 rcases h2 with h2|⟨g,cap,cur,a,b,c,d⟩
 · exact .inl h2
 · exact .inr ⟨g,cap,cur,a,b,by rw [Lib.iterAt_other _ _ _ _ _ (by omega)];exact c,d⟩
theorem qN {w:World}{base:Nat}{e:TypeId}{size:Nat}{v:Value}{n:Nat}{xs:List Value}(h:w.ownsRow base e size v n xs) {a:Addr}(ha:a.block<base) (u:Value):(w.setCell a u).ownsRow base e size v n xs:=ownsRow_setCell_below h ha u
theorem KT (r a:Int) (x:Bool):∀u∈ [Value.int .i32 r,Value.int .i64 a,Value.bool x],u.oneCell' =true:=by
 intro u hu;simp at hu;rcases hu with rfl|rfl|rfl<;>rfl
theorem Pm (s:ByteArray) (w:World) (hG:Glob w) (hs:s.size≤100000):
 Calls Tryz.prog 77 #[.string s] w fun e w' =>e= .returned (.pointer (some ⟨w.heap.size,0,none⟩))∧SQ w'.heap.size w' w.heap.size s (pts s) 0∧Below w.heap.size w w' :=by
 obtain ⟨i0,hi,hz0,hz1,hz2⟩:=info_parts Tryz.Wp
 have HG:=Lib.hid hG
 clear hG
 go_enter Tryz.func77,Tryz.ntmps77
 go_wp2_with fail
 go_loopw [] (fun wr=>∃(pos:Nat) (done:List Pt) (v:Value),wr.heap[w.heap.size+1]? =some (.stringIter s pos)∧wr.heap[w.heap.size]? =some (.cells #[.string s,v, .int .i64 0] 117 (0,0))∧wr.ownsRow (w.heap.size+2) 149 3 v done.length (yH done)∧Below w.heap.size w wr∧Hid (pts s=done++dK s pos)∧done.length≤pos∧pos≤s.size) (fun wr=>s.size - wr.iterPos (w.heap.size+1))
 case atStart=>
  refine ⟨0, [], .slice none 0 0, ?_, ?_,World.ownsRow_nil _ _ _ _,((Below.refl _ _).alloc (Nat.le_refl _) _).alloc (by simp) _,rfl,by simp,by omega⟩
  · have:=World.iter_heap (w.alloc (.cells #[.string s, .slice none 0 0, .int .i64 0] 117)) s 0
    simpa using this
  · exact au (aB w _) _
 case round=>
  obtain ⟨pos,done,v,hit,hblk,hown,hbw,HS,hk,hpos⟩:=hrel
  have yx:=iterPos_of hit
  by_cases hp:pos<s.size
  · have hnx:∀ty,(Instr.next (.pointer (some ⟨w.heap.size+1,0,none⟩)) true ty).run Tryz.prog wr=_:=fun ty=>Lib.run_next_any_at wr (w.heap.size+1) s pos ty hit hp
    have hwd:=width_pos s pos hp
    have hwl:=width_le s pos hp
    have hit2:=Lib.iterAt_heap wr (w.heap.size+1) s pos (pos+(Utf8.decode s pos).2) hit
    have hbw2:=Lib.below_iterAt hbw (k:=w.heap.size+1) (by omega) s (pos+(Utf8.decode s pos).2)
    have hblk2:(wr.iterAt (w.heap.size+1) s (pos+(Utf8.decode s pos).2)).heap[w.heap.size]? =some (.cells #[.string s,v, .int .i64 0] 117 (0,0)):=by rw [Lib.iterAt_other _ _ _ _ _ (by omega)];exact hblk
    have hown2:=ownsRow_iterAt hown (k:=w.heap.size+1) (by omega) s (pos+(Utf8.decode s pos).2)
    obtain ⟨W1,hW1⟩:∃W1,W1=wr.iterAt (w.heap.size+1) s (pos+(Utf8.decode s pos).2):=⟨_,rfl⟩
    rw [←hW1]at hnx hit2 hbw2 hblk2 hown2
    have hlt:=aC hit2
    clear hW1 hit hbw hblk hown
    have hd:=KR s pos W1 (HG.out.below (hbw2.mono (by omega))) hp
    have HS2:Hid (pts s=(done++ [⟨(Utf8.decode s pos).1,pos,(Utf8.decode s pos).2⟩])++dK s (pos+(Utf8.decode s pos).2)):=by
     show _=_;rw [HS.out,bD s pos hp];simp
    obtain ⟨q,hq⟩:∃q:Pt,q=⟨(Utf8.decode s pos).1,pos,(Utf8.decode s pos).2⟩:=⟨_,rfl⟩
    have hq1:(Utf8.decode s pos).1=q.r:=by rw [hq]
    have hq2:(Utf8.decode s pos).2=q.n:=by rw [hq]
    have HQ:Hid (pos=q.at_):=by rw [hq];rfl
    rw [←hq]at HS2
    rw [hq1,hq2]at hd
    rw [hq1]at hnx
    rw [hq2]at hwd hwl HS2 hit2
    have wY:Hid (q.ok=((q.r:Int) !=65533||decide (1<q.n))):=rfl
    have Hd:=Lib.hid hd
    clear hq hq1 hq2 HS hd
    cases hr:((q.r:Int) !=65533)
    · rw [hr]at wY
      have HX:Hid (q.ok=decide (1<(q.n:Int))):=by show _=_;rw [wY.out,Bool.false_or];exact decide_eq_decide.2 (by omega)
      go_wp2_with fail
      refine Hd.out.mono ?_;rintro e w1 ⟨rfl,hb1⟩
      have hblk3:=bf hblk2 hb1 (by omega)
      have hit3:=bf hit2 hb1 hlt
      have hown3:=ownsRow_below hown2 hb1
      have Cu:=hbw2.trans (hb1.mono (by omega))
      have hz1' :=hb1.size
      have c1:w1.cell? ⟨w.heap.size,1,none⟩=some v:=by rw [aj hblk3];rfl
      clear hblk2 hit2 hown2 hbw2 hb1 hnx
      go_wp2_with (at_builtin;refine wpList_append_own _ rfl _ _ 115 rfl (w.heap.size+2) 149 i0 (.agg #[.int .i32 0, .int .i64 0, .bool false]) 3 24 Tryz.underlying115 hi hz0 hz1 hz2 rfl (by decide) _ _ _ rfl (hown3.alloc _) ⟨w1.heap.size,0,none⟩ 1 1 [.int .i32 q.r, .int .i64 pos, .bool (decide (1<(q.n:Int)))] rfl rfl (xg _ _ _) (KT _ _ _) (by unfold maxLen;omega) (by omega) (by simp;omega) ?_;intro v' w2 mX hg2 _;obtain ⟨a',cap',hv',_⟩:=aY mX;rw [hv']at mX⊢;clear hv'
                   have hne:some w.heap.size≠v.ownBlock:=fun h=>by have:=(hown3.lt _ h.symm).1;omega
                   have hne2:some (w.heap.size+1)≠v.ownBlock:=fun h=>by have:=(hown3.lt _ h.symm).1;omega
                   have eF:w2.heap[w.heap.size]? =some (.cells #[.string s,v, .int .i64 0] 117 (0,0)):=by rw [hg2.block _ (by simp;omega) hne];exact au hblk3 _
                   have Wq:w2.heap[w.heap.size+1]? =some (.stringIter s (pos+q.n)):=by rw [hg2.block _ (by simp;omega) hne2];exact au hit3 _
                   have Eh:Below w.heap.size w w2:=(Cu.alloc (by omega) _).grown hg2 (by simp;omega) (fun k hk=>by have:=(hown3.lt _ hk).1;omega)
                   have c4:w2.cell? ⟨w.heap.size,1,none⟩=some v:=by rw [aj eF];rfl
                   have f4:w2.frozen? ⟨w.heap.size,1,none⟩=false:=ah eF 1
                   clear hown3 hblk3 hit3 Cu hg2 hne hne2)
      have h5:(w2.setCell ⟨w.heap.size,1,none⟩ (.slice a' (done.length+1) cap')).heap[w.heap.size+1]? =some (.stringIter s (pos+q.n)):=bN Wq _ _ (by simp)
      go_roundw
      case rel=>
       refine ⟨pos+q.n,done++ [q],_,h5,bU eF 1 _, ?_,Eh.setCell (Nat.le_refl _) _,HS2,by simp;omega,hwl⟩
       have e: [Value.int .i32 q.r,Value.int .i64 pos,Value.bool (decide (1<(q.n:Int)))]=jg q:=by unfold jg;rw [HX.out,←HQ.out]
       rw [e,Ab]at mX
       have e2:(done++ [q]).length=done.length+1:=by simp
       rw [e2]
       exact qN mX (by show _<_;simp) _
      case measure=>rw [iterPos_of h5,yx];omega
    · rw [hr]at wY
      have HX:Hid (q.ok=true):=by show _=_;rw [wY.out];rfl
      go_wp2_with fail
      refine Hd.out.mono ?_;rintro e w1 ⟨rfl,hb1⟩
      have hblk3:=bf hblk2 hb1 (by omega)
      have hit3:=bf hit2 hb1 hlt
      have hown3:=ownsRow_below hown2 hb1
      have Cu:=hbw2.trans (hb1.mono (by omega))
      have hz1' :=hb1.size
      have c1:w1.cell? ⟨w.heap.size,1,none⟩=some v:=by rw [aj hblk3];rfl
      clear hblk2 hit2 hown2 hbw2 hb1 hnx
      go_wp2_with (at_builtin;refine wpList_append_own _ rfl _ _ 115 rfl (w.heap.size+2) 149 i0 (.agg #[.int .i32 0, .int .i64 0, .bool false]) 3 24 Tryz.underlying115 hi hz0 hz1 hz2 rfl (by decide) _ _ _ rfl (hown3.alloc _) ⟨w1.heap.size,0,none⟩ 1 1 [.int .i32 q.r, .int .i64 pos, .bool (true)] rfl rfl (xg _ _ _) (KT _ _ _) (by unfold maxLen;omega) (by omega) (by simp;omega) ?_;intro v' w2 mX hg2 _;obtain ⟨a',cap',hv',_⟩:=aY mX;rw [hv']at mX⊢;clear hv'
                   have hne:some w.heap.size≠v.ownBlock:=fun h=>by have:=(hown3.lt _ h.symm).1;omega
                   have hne2:some (w.heap.size+1)≠v.ownBlock:=fun h=>by have:=(hown3.lt _ h.symm).1;omega
                   have eF:w2.heap[w.heap.size]? =some (.cells #[.string s,v, .int .i64 0] 117 (0,0)):=by rw [hg2.block _ (by simp;omega) hne];exact au hblk3 _
                   have Wq:w2.heap[w.heap.size+1]? =some (.stringIter s (pos+q.n)):=by rw [hg2.block _ (by simp;omega) hne2];exact au hit3 _
                   have Eh:Below w.heap.size w w2:=(Cu.alloc (by omega) _).grown hg2 (by simp;omega) (fun k hk=>by have:=(hown3.lt _ hk).1;omega)
                   have c4:w2.cell? ⟨w.heap.size,1,none⟩=some v:=by rw [aj eF];rfl
                   have f4:w2.frozen? ⟨w.heap.size,1,none⟩=false:=ah eF 1
                   clear hown3 hblk3 hit3 Cu hg2 hne hne2)
      have h5:(w2.setCell ⟨w.heap.size,1,none⟩ (.slice a' (done.length+1) cap')).heap[w.heap.size+1]? =some (.stringIter s (pos+q.n)):=bN Wq _ _ (by simp)
      go_roundw
      case rel=>
       refine ⟨pos+q.n,done++ [q],_,h5,bU eF 1 _, ?_,Eh.setCell (Nat.le_refl _) _,HS2,by simp;omega,hwl⟩
       have e: [Value.int .i32 q.r,Value.int .i64 pos,Value.bool (true)]=jg q:=by unfold jg;rw [HX.out,←HQ.out]
       rw [e,Ab]at mX
       have e2:(done++ [q]).length=done.length+1:=by simp
       rw [e2]
       exact qN mX (by show _<_;simp) _
      case measure=>rw [iterPos_of h5,yx];omega
  · have hnx:∀ty,(Instr.next (.pointer (some ⟨w.heap.size+1,0,none⟩)) true ty).run Tryz.prog wr=_:=fun ty=>Lib.run_next_end_at wr (w.heap.size+1) s pos ty hit hp
    have hE:Hid (pts s=done):=by show _=_;rw [HS.out,bI s pos hp,List.append_nil]
    clear HS
    go_wp2_with fail
    go_ret
    refine ⟨rfl, ?_,hbw⟩
    obtain ⟨a,cap,rfl,hr⟩:=aY hown
    rw [hE.out]
    refine ⟨Nat.le_refl _,aC hblk,a,cap,hblk,fun h0=> ?_⟩
    obtain ⟨g,e1,e2,e3,e4⟩:=hr h0
    exact ⟨g,e1,by omega,e3,e4⟩
namespace aH
theorem jh (s:ByteArray) (pos:Nat) (h:pos≤s.size):aT s (dK s pos) 0=pos:=by
 by_cases hp:pos<s.size
 · rw [bD s pos hp];rfl
 · rw [bI s pos hp];show s.size=pos;omega
theorem nW (s:ByteArray):∀k pos,pos≤s.size→pos≤aT s (dK s pos) k∧aT s (dK s pos) k≤s.size:=by
 intro k
 induction k with
 |zero=>intro pos h;rw [jh s pos h];omega
 |succ k ih=>
  intro pos h
  by_cases hp:pos<s.size
  · have hw:=width_le s pos hp
    have:=ih (pos+(Utf8.decode s pos).2) hw
    rw [bD s pos hp]
    show pos≤aT s (dK s (pos+(Utf8.decode s pos).2)) k∧aT s (dK s (pos+(Utf8.decode s pos).2)) k≤s.size
    omega
  · rw [bI s pos hp];show pos≤s.size∧s.size≤s.size;omega
theorem Ei (s:ByteArray):∀k j pos,pos≤s.size→k≤j→aT s (dK s pos) k≤aT s (dK s pos) j:=by
 intro k
 induction k with
 |zero=>intro j pos h _;rw [jh s pos h];exact (nW s j pos h).1
 |succ k ih=>
  intro j pos h hj
  obtain ⟨j,rfl⟩:∃m,j=m+1:=⟨j - 1,by omega⟩
  by_cases hp:pos<s.size
  · have hw:=width_le s pos hp
    rw [bD s pos hp]
    exact ih j (pos+(Utf8.decode s pos).2) hw (by omega)
  · rw [bI s pos hp];exact Nat.le_refl _
theorem mY (s:ByteArray) (k j:Nat) (h:k≤j):aT s (pts s) k≤aT s (pts s) j:=Ei s k j 0 (by omega) h
theorem xw (s:ByteArray) (k:Nat):aT s (pts s) k≤s.size:=(nW s k 0 (by omega)).2
def FX (s:ByteArray) (P:List Pt):Prop:=P.length≤s.size∧(∀k j,k≤j→aT s P k≤aT s P j)∧(∀k,aT s P k≤s.size)
theorem FY (s:ByteArray):∀n pos,s.size - pos≤n→(dK s pos).length≤s.size - pos:=by
 intro n
 induction n with
 |zero=>intro pos h;rw [bI s pos (by omega)];simp
 |succ n ih=>
  intro pos h
  by_cases hp:pos<s.size
  · have:=width_pos s pos hp
    have:=ih (pos+(Utf8.decode s pos).2) (by omega)
    rw [bD s pos hp];simp;omega
  · rw [bI s pos hp];simp
theorem CY (s:ByteArray):FX s (pts s):=⟨by have:=FY s s.size 0 (by omega);rw [iF];omega,mY s,xw s⟩
end aH
def Yq (t:Tk):Value:= .agg #[.int .i64 t.kind, .string t.s, .int .i64 t.n, .int .i64 t.at_]
def zI (L:Nat) (w:World) (b:Nat) (s:ByteArray) (P:List Pt) (x:Tk×Bool×Nat) (e:Ending) (w' :World):Prop:=
 e= .returned (.tuple #[Yq x.1, .bool x.2.1])∧SQ L w' b s P x.2.2∧w.grownBy w' (some b)
theorem FZ {L:Nat}(w:World) (b:Nat) (s:ByteArray) (P:List Pt) (i:Nat) (h:SQ L w b s P i) (v:Bool) (hv:dQ P i=v):
 Calls Tryz.prog 120 #[.pointer (some ⟨b,0,none⟩)] w fun e w' =>e= .returned (.bool v)∧∃m,w' =w.drewN m:=by
 rw [←hv];exact Ee w b s P i h
theorem yI {L:Nat}(w:World) (b:Nat) (s:ByteArray) (P:List Pt) (i:Nat) (h:SQ L w b s P i) (v:Bool) (hv:dn P i=v):
 Calls Tryz.prog 122 #[.pointer (some ⟨b,0,none⟩)] w fun e w' =>e= .returned (.bool v)∧∃m,w' =w.drewN m:=by
 rw [←hv];exact Ef w b s P i h
theorem Ms {w:World}{g:Nat}{x0 x1 x2 x3:Value}{T:TypeId}(h:w.heap[g]? =some (.cells #[x0,x1,x2,x3] T (0,0))) (v0 v1 v2 v3:Value):
 ((((w.setCell ⟨g,0,none⟩ v0).setCell ⟨g,1,none⟩ v1).setCell ⟨g,2,none⟩ v2).setCell ⟨g,3,none⟩ v3).heap[g]? =some (.cells #[v0,v1,v2,v3] T (0,0)):=by
 have:=bU (bU (bU (bU h 0 v0) 1 v1) 2 v2) 3 v3
 rw [this]
 simp
theorem zJ (w:World) (g:Nat) (v0 v1 v2 v3:Value):w.grownBy ((((w.setCell ⟨g,0,none⟩ v0).setCell ⟨g,1,none⟩ v1).setCell ⟨g,2,none⟩ v2).setCell ⟨g,3,none⟩ v3) (some g):=
 aK (aK (aK (jd _ _ _ _) (jd _ _ _ _)) (jd _ _ _ _)) (jd _ _ _ _)
theorem Ws {w w1 w2:World}{b:Nat}{o:Obj}(h:(w.alloc o).grownBy w1 (some b)) (k:w1.grownBy w2 (some w.heap.size)):w.grownBy w2 (some b):=
 ⟨k.os.trans h.os,k.tape.trans h.tape,k.output.trans h.output,by have h1:=h.size;have h2:=k.size;simp at h1;omega,fun i hi hr=>by
  have h1:=h.size
  simp at h1
  rw [k.block i (by omega) (fun e=>by cases e;omega),h.block i (by simp;omega) hr]
  exact Below.heap_alloc _ _ _ hi⟩
theorem Pn {L:Nat}(w:World) (b:Nat) (s:ByteArray) (P:List Pt) (i:Nat) (h:SQ L w b s P i) (hs:s.size≤100000) (Mt:FX s P) (hi:i<P.length):
 Calls Tryz.prog 121 #[.pointer (some ⟨b,0,none⟩)] w (zI L w b s P (jL s P i)):=by
 obtain ⟨hPl,hmono,Po⟩:=Mt
 have H:=Lib.hid h
 have YH:=Lib.hid hmono
 have aaV:=Lib.hid Po
 have hblt:=h.lt
 obtain ⟨_,_,_,_,c2,f2,_⟩:=h.cells
 have HW:Hid (SQ L (w.alloc (.cells #[.int .i64 0, .string ⟨#[]⟩, .int .i64 0, .int .i64 0] 119)) b s P i):=h.below ((Below.refl _ _).alloc (Nat.le_refl _) _)
 clear h hmono Po
 go_enter Tryz.func121,Tryz.ntmps121
 go_wp2_with fail
 go_loopw [] (fun wr=>∃k,SQ L wr b s P k∧(w.alloc (.cells #[.int .i64 0, .string ⟨#[]⟩, .int .i64 0, .int .i64 0] 119)).grownBy wr (some b)∧Hid (eZ P i=dD (fun k=>dQ P k||dn P k) P.length k)∧i≤k∧k≤P.length) (fun wr=>P.length - vv wr b)
 case atStart=>exact ⟨i,HW.out,o8 _ _,rfl,Nat.le_refl _,by omega⟩
 case round=>
  obtain ⟨k,hS,hg,HE,hik,hk⟩:=hrel
  have hk0:=eH hS
  have HK:=Lib.hid hk0
  clear hk0 c2 f2
  cases hL:dQ P k
  case true=>
   have HL:=Lib.hid hL
   have hlt:=zG hL
   go_wp2_with fail
   refine (FZ _ b s P k hS _ hL).mono ?_;rintro e w1 ⟨rfl,m,hm⟩
   replace hS:=hS.heap (w' :=w1) (by rw [hm];rfl)
   replace hg:=aK hg (show _ from hm▸bq _ m (some b))
   clear hm hL
   obtain ⟨_,_,_,_,c2,f2,_⟩:=hS.cells
   go_wp2_with fail
   go_roundw
   case rel=>
    refine ⟨k+1,by have:=hS.set (k+1);push_cast at this;exact this,aK hg (jd _ _ _ _), ?_,by omega,by omega⟩
    show _=_
    rw [HE.out];exact gU hlt (by simp only [HL.out];rfl)
   case measure=>
    have h1:=eH (hS.set (k+1));push_cast at h1
    rw [h1,HK.out];omega
  case false=>
   cases hD:dn P k
   case true=>
    have HL:=Lib.hid hL
    have HD:=Lib.hid hD
    have hlt:=zF hD
    go_wp2_with fail
    refine (FZ _ b s P k hS _ hL).mono ?_;rintro e w1 ⟨rfl,m,hm⟩
    replace hS:=hS.heap (w' :=w1) (by rw [hm];rfl)
    replace hg:=aK hg (show _ from hm▸bq _ m (some b))
    clear hm hL
    go_wp2_with fail
    refine (yI _ b s P k hS _ hD).mono ?_;rintro e w1 ⟨rfl,m,hm⟩
    replace hS:=hS.heap (w' :=w1) (by rw [hm];rfl)
    replace hg:=aK hg (show _ from hm▸bq _ m (some b))
    clear hm hD
    obtain ⟨_,_,_,_,c2,f2,_⟩:=hS.cells
    go_wp2_with fail
    go_roundw
    case rel=>
     refine ⟨k+1,by have:=hS.set (k+1);push_cast at this;exact this,aK hg (jd _ _ _ _), ?_,by omega,by omega⟩
     show _=_
     rw [HE.out];exact gU hlt (by simp only [HL.out,HD.out];rfl)
    case measure=>
     have h1:=eH (hS.set (k+1));push_cast at h1
     rw [h1,HK.out];omega
   case false=>
    have HL:=Lib.hid hL
    have HD:=Lib.hid hD
    have HF:Hid (eZ P i=k):=by show _=_;rw [HE.out];exact fJ (by simp only [HL.out,HD.out];rfl)
    go_wp2_with fail
    refine (FZ _ b s P k hS _ hL).mono ?_;rintro e w1 ⟨rfl,m,hm⟩
    replace hS:=hS.heap (w' :=w1) (by rw [hm];rfl)
    replace hg:=aK hg (show _ from hm▸bq _ m (some b))
    clear hm hL
    go_wp2_with fail
    refine (yI _ b s P k hS _ hD).mono ?_;rintro e w1 ⟨rfl,m,hm⟩
    replace hS:=hS.heap (w' :=w1) (by rw [hm];rfl)
    replace hg:=aK hg (show _ from hm▸bq _ m (some b))
    clear hm hD
    obtain ⟨_,_,c0,_,c2,f2,_⟩:=hS.cells
    have O1:=Lib.hid (fun n=>uh (w1.drewN n) b s P k i (hS.heap rfl))
    have I5:=Lib.hid (fun n=>uh (w1.drewN n) b s P k k (hS.heap rfl))
    have hx1:((aT s P i:Nat):Int)≤((aT s P k:Nat):Int):=by have:=YH.out i k hik;omega
    have hx2:((aT s P k:Nat):Int)≤(s.size:Int):=by have:=aaV.out k;omega
    have hx0:(0:Int)≤((aT s P i:Nat):Int):=by omega
    have HT:Hid (lq s P i=s.extract (aT s P i) (aT s P k)):=by show _=_;unfold lq;rw [HF.out]
    generalize aT s P i=A at *
    generalize aT s P k=B at *
    go_wp2_with fail
    go_quiet ((go_at_call 160;first|(with_reducible exact Calls.quiet_of_same (O1.out _))|(with_reducible exact Calls.quiet_of_same (I5.out _))))
    have Pp:w1.heap[w.heap.size]? =some (.cells #[.int .i64 0, .string ⟨#[]⟩, .int .i64 0, .int .i64 0] 119 (0,0)):=by
     rw [hg.block w.heap.size (by simp) (by intro e;cases e;omega)];exact aB w _
    have YI:=Lib.hid (fun W hsz=>O9 (s.extract A B) W hsz)
    go_wp2_with fail
    refine (YI.out _ (by rw [ByteArray.size_extract];omega)).mono ?_;rintro e w3 ⟨rfl,hb3⟩
    have hb4:Below w1.heap.size w1 w3:=(aH.below_drewN (Below.refl _ _) nq).trans hb3
    have hblk3:=bf Pp hb4 (aC Pp)
    have Ej:=hS.below hb4
    have hg3:=aK hg (jB hb4 (some b))
    have t0:w3.cell? ⟨w.heap.size,0,none⟩=some (.int .i64 0):=by rw [aj hblk3];rfl
    have t1:w3.cell? ⟨w.heap.size,1,none⟩=some (.string ⟨#[]⟩):=by rw [aj hblk3];rfl
    have t2:w3.cell? ⟨w.heap.size,2,none⟩=some (.int .i64 0):=by rw [aj hblk3];rfl
    have t3:w3.cell? ⟨w.heap.size,3,none⟩=some (.int .i64 0):=by rw [aj hblk3];rfl
    have u0:=ah hblk3 0
    have u1:=ah hblk3 1
    have u2:=ah hblk3 2
    have u3:=ah hblk3 3
    clear hb3 Pp hS hg c0 c2 f2
    go_wp2_with fail
    have hp4:=Ms hblk3 (.int .i64 1) (.string (fold (s.extract A B))) (.int .i64 0) (.int .i64 i)
    have nX:=(((Ej.setOther (g:=w.heap.size) H.out.le 0 (.int .i64 1)).setOther (g:=w.heap.size) H.out.le 1 (.string (fold (s.extract A B)))).setOther (g:=w.heap.size) H.out.le 2 (.int .i64 0)).setOther (g:=w.heap.size) H.out.le 3 (.int .i64 i)
    have hg4:=Ws (aK hg3 (o8 _ _)) (zJ w3 w.heap.size (.int .i64 1) (.string (fold (s.extract A B))) (.int .i64 0) (.int .i64 i))
    generalize (((w3.setCell ⟨w.heap.size,0,none⟩ (.int .i64 1)).setCell ⟨w.heap.size,1,none⟩ (.string (fold (s.extract A B)))).setCell ⟨w.heap.size,2,none⟩ (.int .i64 0)).setCell ⟨w.heap.size,3,none⟩ (.int .i64 i)=W4 at *
    have r0:W4.cell? ⟨w.heap.size,0,none⟩=some (.int .i64 1):=by rw [aj hp4];rfl
    have r1:W4.cell? ⟨w.heap.size,1,none⟩=some (.string (fold (s.extract A B))):=by rw [aj hp4];rfl
    have r2:W4.cell? ⟨w.heap.size,2,none⟩=some (.int .i64 0):=by rw [aj hp4];rfl
    have r3:W4.cell? ⟨w.heap.size,3,none⟩=some (.int .i64 i):=by rw [aj hp4];rfl
    refine bodyPost_ret (v:= .tuple #[.agg #[.int .i64 1, .string (fold (s.extract A B)), .int .i64 0, .int .i64 i], .bool (decide ((s.extract A B).size≤100))]) (by simp [results,Tryz.results121,go_sem,r0,r1,r2,r3];omega) rfl ?_
    refine ⟨?_, ?_,hg4⟩
    · unfold jL Yq;rw [HT.out]
    · show SQ L W4 b s P (eZ P i)
      rw [HF.out];exact nX
def sU (L:Nat) (w0 wr:World) (b:Nat) (s:ByteArray) (P:List Pt) (i k:Nat) (v:Int):Prop:=
 SQ L wr b s P k∧((w0.alloc (.cells #[.int .i64 0, .string ⟨#[]⟩, .int .i64 0, .int .i64 0] 119)).alloc (.cells #[.int .i64 2, .string ⟨#[]⟩, .int .i64 0, .int .i64 i] 119)).heap.size≤wr.heap.size∧
 wr.heap[w0.heap.size]? =some (.cells #[.int .i64 0, .string ⟨#[]⟩, .int .i64 0, .int .i64 0] 119 (0,0))∧
 wr.heap[w0.heap.size+1]? =some (.cells #[.int .i64 2, .string ⟨#[]⟩, .int .i64 v, .int .i64 i] 119 (0,0))∧
 w0.grownBy wr (some b)
theorem sU.drewN {L:Nat}{w0 wr w1:World}{b:Nat}{s:ByteArray}{P:List Pt}{i k m:Nat}{v:Int}(h:sU L w0 wr b s P i k v) (hm:w1=wr.drewN m):sU L w0 w1 b s P i k v:=by
 subst hm
 obtain ⟨h1,h2,h3,h4,h5⟩:=h
 exact ⟨h1.heap rfl,h2,h3,h4,aK h5 (bq _ _ _)⟩
theorem sU.Pq {L:Nat}{w0 wr:World}{b:Nat}{s:ByteArray}{P:List Pt}{i k:Nat}{v:Int}(h:sU L w0 wr b s P i k v) (hL:L≤w0.heap.size) (j:Nat):sU L w0 (wr.setCell ⟨b,2,none⟩ (.int .i64 j)) b s P i j v:=by
 obtain ⟨h1,h2,h3,h4,h5⟩:=h
 have hb:=h1.2.1
 exact ⟨h1.set j,by simpa [World.setCell]using h2,bN h3 _ _ (by show _≠b;omega),bN h4 _ _ (by show _≠b;omega),aK h5 (jd _ _ _ _)⟩
theorem sU.El {L:Nat}{w0 wr:World}{b:Nat}{s:ByteArray}{P:List Pt}{i k:Nat}{v:Int}(h:sU L w0 wr b s P i k v) (hL:L≤w0.heap.size) (u:Int):sU L w0 (wr.setCell ⟨w0.heap.size+1,2,none⟩ (.int .i64 u)) b s P i k u:=by
 obtain ⟨h1,h2,h3,h4,h5⟩:=h
 refine ⟨h1.setOther (by omega) _ _,by simpa [World.setCell]using h2,bN h3 _ _ (by simp), ?_, ?_⟩
 · have:=bU h4 2 (.int .i64 u)
   rw [this];simp
 · have h6:=jd wr (w0.heap.size+1) 2 (.int .i64 u)
   exact ⟨h6.os.trans h5.os,h6.tape.trans h5.tape,h6.output.trans h5.output,Nat.le_trans h5.size h6.size,fun q hq hr=>by
    have:=h5.size
    rw [h6.block q (by omega) (fun e=>by cases e;omega)];exact h5.block q hq hr⟩
theorem Px {P:List Pt}{k:Nat}(h:dn P k=true):∃hk:k<P.length,48≤P[k].r∧P[k].r≤57∧mR P k=P[k].r:=by
 have hk:=zF h
 refine ⟨hk, ?_⟩
 unfold dn at h
 rw [List.getElem?_eq_getElem hk]at h
 simp only [kE,Bool.and_eq_true,decide_eq_true_eq]at h
 refine ⟨by omega,by omega, ?_⟩
 unfold mR
 rw [List.getElem?_eq_getElem hk]
theorem sU.fin {L:Nat}{w0 wr:World}{b:Nat}{s:ByteArray}{P:List Pt}{i k:Nat}{v:Int}(h:sU L w0 wr b s P i k v) (hL:L≤w0.heap.size) (n:Nat) (W:World)
 (hW:W=((((((wr.drewN n).setCell ⟨w0.heap.size,0,none⟩ (.int .i64 2)).setCell ⟨w0.heap.size,1,none⟩ (.string ⟨#[]⟩)).setCell ⟨w0.heap.size,2,none⟩ (.int .i64 v)).setCell ⟨w0.heap.size,3,none⟩ (.int .i64 i)))):
 W.cell? ⟨w0.heap.size,0,none⟩=some (.int .i64 2)∧W.cell? ⟨w0.heap.size,1,none⟩=some (.string ⟨#[]⟩)∧W.cell? ⟨w0.heap.size,2,none⟩=some (.int .i64 v)∧W.cell? ⟨w0.heap.size,3,none⟩=some (.int .i64 i)∧
 SQ L W b s P k∧w0.grownBy W (some b):=by
 subst hW
 obtain ⟨h1,h2,h3,h4,h5⟩:=h.drewN (m:=n) rfl
 have hp:=Ms h3 (.int .i64 2) (.string ⟨#[]⟩) (.int .i64 v) (.int .i64 i)
 refine ⟨by rw [aj hp];rfl,by rw [aj hp];rfl,by rw [aj hp];rfl,by rw [aj hp];rfl,(((h1.setOther hL _ _).setOther hL _ _).setOther hL _ _).setOther hL _ _, ?_⟩
 have h6:=zJ (wr.drewN n) w0.heap.size (.int .i64 2) (.string ⟨#[]⟩) (.int .i64 v) (.int .i64 i)
 exact ⟨h6.os.trans h5.os,h6.tape.trans h5.tape,h6.output.trans h5.output,Nat.le_trans h5.size h6.size,fun q hq hr=>by
  have:=h5.size
  rw [h6.block q (by omega) (fun e=>by cases e;omega)];exact h5.block q hq hr⟩
theorem Ac {L:Nat}(w:World) (b:Nat) (s:ByteArray) (P:List Pt) (i:Nat) (h:SQ L w b s P i) (hs:s.size≤100000) (Mt:FX s P) (hi:i<P.length):
 Calls Tryz.prog 123 #[.pointer (some ⟨b,0,none⟩)] w (zI L w b s P (dh P i)):=by
 obtain ⟨hPl,_,_⟩:=Mt
 have HL:=h.le
 have HS:=Lib.hid h
 obtain ⟨_,_,_,_,c2,f2,_⟩:=h.cells
 have hblt:=h.lt
 have HN0:Hid (sU L w ((w.alloc (.cells #[.int .i64 0, .string ⟨#[]⟩, .int .i64 0, .int .i64 0] 119)).alloc (.cells #[.int .i64 2, .string ⟨#[]⟩, .int .i64 0, .int .i64 i] 119)) b s P i i 0):=by
  have hb2:Below w.heap.size w ((w.alloc (.cells #[.int .i64 0, .string ⟨#[]⟩, .int .i64 0, .int .i64 0] 119)).alloc (.cells #[.int .i64 2, .string ⟨#[]⟩, .int .i64 0, .int .i64 i] 119)):=((Below.refl _ _).alloc (Nat.le_refl _) _).alloc (by simp) _
  refine ⟨h.below hb2,Nat.le_refl _,au (aB w _) _, ?_,jB hb2 _⟩
  have:=aB (w.alloc (.cells #[.int .i64 0, .string ⟨#[]⟩, .int .i64 0, .int .i64 0] 119)) (.cells #[.int .i64 2, .string ⟨#[]⟩, .int .i64 0, .int .i64 i] 119)
  simpa using this
 clear h
 go_enter Tryz.func123,Tryz.ntmps123
 go_wp2_with fail
 obtain ⟨wa,hwa⟩:∃wa,wa=((w.alloc (.cells #[.int .i64 0, .string ⟨#[]⟩, .int .i64 0, .int .i64 0] 119)).alloc (.cells #[.int .i64 2, .string ⟨#[]⟩, .int .i64 0, .int .i64 i] 119)):=⟨_,rfl⟩
 rw [←hwa]at HN0⊢
 have hN:=HN0.out
 clear hwa HN0 c2 f2
 cases h45:gy P i 45
 · have HNS:Hid (bK P i=i):=by show _=_;unfold bK;rw [h45];rfl
   refine (jW _ b s P i 0 45 hN.1 (by omega) (by omega) _ h45).mono ?_;rintro e w1 ⟨rfl,m,hm⟩
   replace hN:=hN.drewN hm
   clear hm
   have Tp:=Lib.hid h45
   clear h45 HS
   go_wp2_with fail
   refine (Ef _ b s P i hN.1).mono ?_;rintro e w2 ⟨rfl,m,hm⟩
   replace hN:=hN.drewN hm
   clear hm
   obtain ⟨d0,hd0⟩:∃d0,dn P i=d0:=⟨_,rfl⟩
   have HR:Hid (iA P i=num P i 0 d0):=by show _=_;unfold iA;rw [HNS.out,hd0]
   rw [hd0]
   clear hd0
   go_wp2_with fail
   go_loopw [6] (fun okv wr=>∃(k:Nat) (v:Int) (ok:Bool),okv= .bool ok∧sU L w wr b s P i k v∧Hid (num P i 0 d0=num P k v ok)∧0≤v∧v≤1099511627776∧k≤P.length) (fun _ wr=>P.length - vv wr b)
   case atStart=>exact ⟨i,0,d0,rfl,hN,rfl,by omega,by omega,by omega⟩
   case round=>
    obtain ⟨k,v,ok,rfl,hN,HE,hv0,hv1,hk⟩:=hrel
    have HK:=Lib.hid (eH hN.1)
    cases hD:dn P k
    · have HF:Hid (iA P i=(v,ok,k)):=by show _=_;rw [HR.out,HE.out,jU hD]
      go_wp2_with fail
      refine (yI _ b s P k hN.1 _ hD).mono ?_;rintro e w3 ⟨rfl,m,hm⟩
      replace hN:=hN.drewN hm
      clear hm hD
      go_wp2_with fail
      obtain ⟨t0,t1,t2,t3⟩:w3.cell? ⟨w.heap.size+1,0,none⟩=some (.int .i64 2)∧w3.cell? ⟨w.heap.size+1,1,none⟩=some (.string ⟨#[]⟩)∧w3.cell? ⟨w.heap.size+1,2,none⟩=some (.int .i64 v)∧w3.cell? ⟨w.heap.size+1,3,none⟩=some (.int .i64 i):=⟨by rw [aj hN.2.2.2.1];rfl,by rw [aj hN.2.2.2.1];rfl,by rw [aj hN.2.2.2.1];rfl,by rw [aj hN.2.2.2.1];rfl⟩
      have Jb:=Lib.hid (fun n=>Ee (w3.drewN n) b s P k (hN.1.heap rfl))
      obtain ⟨y0,y1,y2,y3⟩:w3.cell? ⟨w.heap.size,0,none⟩=some (.int .i64 0)∧w3.cell? ⟨w.heap.size,1,none⟩=some (.string ⟨#[]⟩)∧w3.cell? ⟨w.heap.size,2,none⟩=some (.int .i64 0)∧w3.cell? ⟨w.heap.size,3,none⟩=some (.int .i64 0):=⟨by rw [aj hN.2.2.1];rfl,by rw [aj hN.2.2.1];rfl,by rw [aj hN.2.2.1];rfl,by rw [aj hN.2.2.1];rfl⟩
      have u0:=ah hN.2.2.1 0
      have u1:=ah hN.2.2.1 1
      have u2:=ah hN.2.2.1 2
      have u3:=ah hN.2.2.1 3
      have hfin:=Lib.hid (hN.fin HL)
      clear hN
      cases ok
      · clear Jb
        go_region
        obtain ⟨r0,r1,r2,r3,nX,hg4⟩:=hfin.out 1 (((((w3.setCell ⟨w.heap.size,0,none⟩ (.int .i64 2)).setCell ⟨w.heap.size,1,none⟩ (.string ⟨#[]⟩)).setCell ⟨w.heap.size,2,none⟩ (.int .i64 v)).setCell ⟨w.heap.size,3,none⟩ (.int .i64 i))).drew rfl
        go_wp2_with fail
        refine bodyPost_ret (v:= .tuple #[.agg #[.int .i64 2, .string ⟨#[]⟩, .int .i64 v, .int .i64 i], .bool false]) (by simp [results,Tryz.results123,go_sem,r0,r1,r2,r3]) rfl ?_
        refine ⟨?_, ?_,hg4⟩
        · unfold dh Yq;rw [Tp.out,HF.out];rfl
        · show SQ L _ b s P _
          unfold dh;rw [HF.out];exact nX
      · go_region_with ((go_at_call 120;refine (Jb.out 1).mono ?_;rintro e w4 ⟨rfl,m,hm⟩))
        all_goals
         obtain ⟨r0,r1,r2,r3,nX,hg4⟩:=hfin.out (1+m) (((((w3.drewN (1+m)).setCell ⟨w.heap.size,0,none⟩ (.int .i64 2)).setCell ⟨w.heap.size,1,none⟩ (.string ⟨#[]⟩)).setCell ⟨w.heap.size,2,none⟩ (.int .i64 v)).setCell ⟨w.heap.size,3,none⟩ (.int .i64 i)) rfl
         clear hm Jb t0 t1 t2 t3 y0 y1 y2 y3 u0 u1 u2 u3
         go_wp2_with fail
         refine bodyPost_ret (v:= .tuple #[.agg #[.int .i64 2, .string ⟨#[]⟩, .int .i64 v, .int .i64 i], .bool (!dQ P k)]) (by simp [results,Tryz.results123,go_sem,r0,r1,r2,r3]) rfl ?_
         refine ⟨?_, ?_,hg4⟩
         · unfold dh Yq;rw [Tp.out,HF.out];rfl
         · show SQ L _ b s P _
           unfold dh;rw [HF.out];exact nX
    · obtain ⟨hkl,hr0,hr1,YJ⟩:=Px hD
      have HG:=Lib.hid (oW (v:=v) (ok:=ok) hD)
      go_wp2_with fail
      refine (yI _ b s P k hN.1 _ hD).mono ?_;rintro e w3 ⟨rfl,m,hm⟩
      replace hN:=hN.drewN hm
      clear hm hD
      obtain ⟨a,cap,_,c1,c2,f2,hc⟩:=hN.1.cells
      obtain ⟨g,rfl,hcc⟩:=hc (by omega)
      have c4:w3.cell? ⟨g,k*3,none⟩=some (.int .i32 P[k].r):=hcc _ _ (by have:=jV P k 0 hkl (by omega);rw [Nat.add_zero]at this;rw [this];rfl)
      have c5:w3.cell? ⟨w.heap.size+1,2,none⟩=some (.int .i64 v):=by rw [aj hN.2.2.2.1];rfl
      have f5:w3.frozen? ⟨w.heap.size+1,2,none⟩=false:=ah hN.2.2.2.1 2
      rw [YJ]at HG
      clear hc hcc YJ
      generalize P[k].r=r at *
      have q1:IntKind.i64.wrap (v*10)=v*10:=IntWalk.i64_in _ (by omega)
      have q2:IntKind.i32.wrap ((r:Int) - 48)=(r:Int) - 48:=wraps_i32 _ (by omega) (by omega)
      have q3:IntKind.i64.wrap ((r:Int) - 48)=(r:Int) - 48:=IntWalk.i64_in _ (by omega)
      have q4:IntKind.i64.wrap (v*10+((r:Int) - 48))=v*10+((r:Int) - 48):=IntWalk.i64_in _ (by omega)
      have q5:(k:Int)<(P.length:Int):=by omega
      have q6:(0:Int)≤(k:Int):=by omega
      go_wp2_with fail
      go_still_tail 18,(by kernel_rfl)
      cases ok
      all_goals
       go_wp2_with fail
       go_roundw
       case rel=>
        refine ⟨k+1,min (v*10+((r:Int) - 48)) 1099511627776,_,rfl,sU.drewN (m:=1) ((((hN.El HL _).El HL _).Pq HL (k+1))) (by push_cast;rfl), ?_,by omega,by omega,by omega⟩
        show _=_
        rw [HE.out,HG.out];rfl
       case measure=>
        have h1:=eH (((hN.El HL (v*10+((r:Int) - 48))).El HL (min (v*10+((r:Int) - 48)) 1099511627776)).Pq HL (k+1)).1
        push_cast at h1
        have h2:=HK.out
        rw [h2]
        refine Nat.lt_of_le_of_lt (Nat.le_of_eq (congrArg (P.length - ·) h1)) ?_
        show P.length - (k+1)<P.length - k
        omega
 · have HNS:Hid (bK P i=(i+1)):=by show _=_;unfold bK;rw [h45];rfl
   refine (jW _ b s P i 0 45 hN.1 (by omega) (by omega) _ h45).mono ?_;rintro e w1 ⟨rfl,m,hm⟩
   replace hN:=hN.drewN hm
   clear hm
   have Tp:=Lib.hid h45
   obtain ⟨_,_,_,_,c2,f2,_⟩:=hN.1.cells
   have HB:=Lib.hid hN
   clear h45 HS hN
   go_wp2_with fail
   have hN:=HB.out.Pq HL (i+1)
   rw [show (((i+1:Nat):Int))=(i:Int)+1 by push_cast;rfl]at hN
   clear HB c2 f2
   refine (Ef _ b s P (i+1) hN.1).mono ?_;rintro e w2 ⟨rfl,m,hm⟩
   replace hN:=hN.drewN hm
   clear hm
   obtain ⟨d0,hd0⟩:∃d0,dn P (i+1)=d0:=⟨_,rfl⟩
   have HR:Hid (iA P i=num P (i+1) 0 d0):=by show _=_;unfold iA;rw [HNS.out,hd0]
   rw [hd0]
   clear hd0
   go_wp2_with fail
   go_loopw [6] (fun okv wr=>∃(k:Nat) (v:Int) (ok:Bool),okv= .bool ok∧sU L w wr b s P i k v∧Hid (num P (i+1) 0 d0=num P k v ok)∧0≤v∧v≤1099511627776∧k≤P.length) (fun _ wr=>P.length - vv wr b)
   case atStart=>exact ⟨(i+1),0,d0,rfl,hN,rfl,by omega,by omega,by omega⟩
   case round=>
    obtain ⟨k,v,ok,rfl,hN,HE,hv0,hv1,hk⟩:=hrel
    have HK:=Lib.hid (eH hN.1)
    cases hD:dn P k
    · have HF:Hid (iA P i=(v,ok,k)):=by show _=_;rw [HR.out,HE.out,jU hD]
      go_wp2_with fail
      refine (yI _ b s P k hN.1 _ hD).mono ?_;rintro e w3 ⟨rfl,m,hm⟩
      replace hN:=hN.drewN hm
      clear hm hD
      have c5:w3.cell? ⟨w.heap.size+1,2,none⟩=some (.int .i64 v):=by rw [aj hN.2.2.2.1];rfl
      have f5:w3.frozen? ⟨w.heap.size+1,2,none⟩=false:=ah hN.2.2.2.1 2
      have q1:IntKind.i64.wrap (-v)= -v:=IntWalk.i64_in _ (by omega)
      have HB:=Lib.hid hN
      clear hN
      go_wp2_with fail
      have hN:=HB.out.El HL (-v)
      generalize w3.setCell ⟨w.heap.size+1,2,none⟩ (.int .i64 (-v))=w5 at hN⊢
      clear HB c5 f5 q1
      obtain ⟨t0,t1,t2,t3⟩:w5.cell? ⟨w.heap.size+1,0,none⟩=some (.int .i64 2)∧w5.cell? ⟨w.heap.size+1,1,none⟩=some (.string ⟨#[]⟩)∧w5.cell? ⟨w.heap.size+1,2,none⟩=some (.int .i64 (-v))∧w5.cell? ⟨w.heap.size+1,3,none⟩=some (.int .i64 i):=⟨by rw [aj hN.2.2.2.1];rfl,by rw [aj hN.2.2.2.1];rfl,by rw [aj hN.2.2.2.1];rfl,by rw [aj hN.2.2.2.1];rfl⟩
      have Jb:=Lib.hid (fun n=>Ee (w5.drewN n) b s P k (hN.1.heap rfl))
      obtain ⟨y0,y1,y2,y3⟩:w5.cell? ⟨w.heap.size,0,none⟩=some (.int .i64 0)∧w5.cell? ⟨w.heap.size,1,none⟩=some (.string ⟨#[]⟩)∧w5.cell? ⟨w.heap.size,2,none⟩=some (.int .i64 0)∧w5.cell? ⟨w.heap.size,3,none⟩=some (.int .i64 0):=⟨by rw [aj hN.2.2.1];rfl,by rw [aj hN.2.2.1];rfl,by rw [aj hN.2.2.1];rfl,by rw [aj hN.2.2.1];rfl⟩
      have u0:=ah hN.2.2.1 0
      have u1:=ah hN.2.2.1 1
      have u2:=ah hN.2.2.1 2
      have u3:=ah hN.2.2.1 3
      have hfin:=Lib.hid (hN.fin HL)
      clear hN
      cases ok
      · clear Jb
        go_region
        obtain ⟨r0,r1,r2,r3,nX,hg4⟩:=hfin.out 1 (((((w5.setCell ⟨w.heap.size,0,none⟩ (.int .i64 2)).setCell ⟨w.heap.size,1,none⟩ (.string ⟨#[]⟩)).setCell ⟨w.heap.size,2,none⟩ (.int .i64 (-v))).setCell ⟨w.heap.size,3,none⟩ (.int .i64 i))).drew rfl
        go_wp2_with fail
        refine bodyPost_ret (v:= .tuple #[.agg #[.int .i64 2, .string ⟨#[]⟩, .int .i64 (-v), .int .i64 i], .bool false]) (by simp [results,Tryz.results123,go_sem,r0,r1,r2,r3]) rfl ?_
        refine ⟨?_, ?_,hg4⟩
        · unfold dh Yq;rw [Tp.out,HF.out];rfl
        · show SQ L _ b s P _
          unfold dh;rw [HF.out];exact nX
      · go_region_with ((go_at_call 120;refine (Jb.out 1).mono ?_;rintro e w4 ⟨rfl,m,hm⟩))
        all_goals
         obtain ⟨r0,r1,r2,r3,nX,hg4⟩:=hfin.out (1+m) (((((w5.drewN (1+m)).setCell ⟨w.heap.size,0,none⟩ (.int .i64 2)).setCell ⟨w.heap.size,1,none⟩ (.string ⟨#[]⟩)).setCell ⟨w.heap.size,2,none⟩ (.int .i64 (-v))).setCell ⟨w.heap.size,3,none⟩ (.int .i64 i)) rfl
         clear hm Jb t0 t1 t2 t3 y0 y1 y2 y3 u0 u1 u2 u3
         go_wp2_with fail
         refine bodyPost_ret (v:= .tuple #[.agg #[.int .i64 2, .string ⟨#[]⟩, .int .i64 (-v), .int .i64 i], .bool (!dQ P k)]) (by simp [results,Tryz.results123,go_sem,r0,r1,r2,r3]) rfl ?_
         refine ⟨?_, ?_,hg4⟩
         · unfold dh Yq;rw [Tp.out,HF.out];rfl
         · show SQ L _ b s P _
           unfold dh;rw [HF.out];exact nX
    · obtain ⟨hkl,hr0,hr1,YJ⟩:=Px hD
      have HG:=Lib.hid (oW (v:=v) (ok:=ok) hD)
      go_wp2_with fail
      refine (yI _ b s P k hN.1 _ hD).mono ?_;rintro e w3 ⟨rfl,m,hm⟩
      replace hN:=hN.drewN hm
      clear hm hD
      obtain ⟨a,cap,_,c1,c2,f2,hc⟩:=hN.1.cells
      obtain ⟨g,rfl,hcc⟩:=hc (by omega)
      have c4:w3.cell? ⟨g,k*3,none⟩=some (.int .i32 P[k].r):=hcc _ _ (by have:=jV P k 0 hkl (by omega);rw [Nat.add_zero]at this;rw [this];rfl)
      have c5:w3.cell? ⟨w.heap.size+1,2,none⟩=some (.int .i64 v):=by rw [aj hN.2.2.2.1];rfl
      have f5:w3.frozen? ⟨w.heap.size+1,2,none⟩=false:=ah hN.2.2.2.1 2
      rw [YJ]at HG
      clear hc hcc YJ
      generalize P[k].r=r at *
      have q1:IntKind.i64.wrap (v*10)=v*10:=IntWalk.i64_in _ (by omega)
      have q2:IntKind.i32.wrap ((r:Int) - 48)=(r:Int) - 48:=wraps_i32 _ (by omega) (by omega)
      have q3:IntKind.i64.wrap ((r:Int) - 48)=(r:Int) - 48:=IntWalk.i64_in _ (by omega)
      have q4:IntKind.i64.wrap (v*10+((r:Int) - 48))=v*10+((r:Int) - 48):=IntWalk.i64_in _ (by omega)
      have q5:(k:Int)<(P.length:Int):=by omega
      have q6:(0:Int)≤(k:Int):=by omega
      go_wp2_with fail
      go_still_tail 18,(by kernel_rfl)
      cases ok
      all_goals
       go_wp2_with fail
       go_roundw
       case rel=>
        refine ⟨k+1,min (v*10+((r:Int) - 48)) 1099511627776,_,rfl,sU.drewN (m:=1) ((((hN.El HL _).El HL _).Pq HL (k+1))) (by push_cast;rfl), ?_,by omega,by omega,by omega⟩
        show _=_
        rw [HE.out,HG.out];rfl
       case measure=>
        have h1:=eH (((hN.El HL (v*10+((r:Int) - 48))).El HL (min (v*10+((r:Int) - 48)) 1099511627776)).Pq HL (k+1)).1
        push_cast at h1
        have h2:=HK.out
        rw [h2]
        refine Nat.lt_of_le_of_lt (Nat.le_of_eq (congrArg (P.length - ·) h1)) ?_
        show P.length - (k+1)<P.length - k
        omega
namespace aH
def Ad (s:ByteArray) (f:Int):ByteArray:=match dz s f with|some x=>x.1|none=>⟨#[]⟩
def sV (s:ByteArray) (f:Int):Int:=match dz s f with|some x=>x.2|none=>0
def Cv (s:ByteArray) (f:Int):Bool:=(dz s f).isSome
theorem Tq (s:ByteArray) (f:Int):Tc (dz s f)= .tuple #[.string (Ad s f), .int .i64 (sV s f), .bool (Cv s f)]:=by
 unfold Ad sV Cv
 cases dz s f<;>rfl
theorem Em (P:List Pt) (i:Nat):bZ P 0 i=i:=by
 unfold bZ
 refine fJ ?_
 cases P[i]? with
 |none=>rfl
 |some p=>exact decide_eq_false (by omega)
theorem qO (s:ByteArray) (P:List Pt) (i:Nat):
 jf s P i=(⟨3,Ad s (aT s P i),0,i⟩,Cv s (aT s P i)&&(decide ((Ad s (aT s P i)).size≤100)&&valid (Ad s (aT s P i))),bZ P (sV s (aT s P i)) i):=by
 unfold jf Ad sV Cv
 cases dz s (aT s P i)with
 |none=>simp [Em]
 |some x=>simp
theorem KU:∀(n:Nat) (l:List UInt8),l.length≤n→∀x,lQ l=some x→x.1.length≤l.length∧x.2≤l.length:=by
 intro n
 induction n with
 |zero=>intro l hl x hx;cases l with|nil=>simp [lQ]at hx|cons=>simp at hl
 |succ n ih=>
  intro l hl x hx
  match l with
  | []=>simp [lQ]at hx
  |c::t=>
   rw [lQ.eq_def]at hx
   simp only at hx
   by_cases hc:c=39
   · rw [if_pos hc]at hx
     match t with
     | []=>simp at hx;subst hx;simp
     |d::u=>
      simp only at hx
      by_cases hd:d=39
      · rw [if_pos hd]at hx
        obtain ⟨y,hy,rfl⟩:=Option.map_eq_some_iff.1 hx
        have:=ih u (by simp at hl;omega) y hy
        simp only [List.length_cons];omega
      · rw [if_neg hd]at hx
        cases hx;simp
   · rw [if_neg hc]at hx
     obtain ⟨y,hy,rfl⟩:=Option.map_eq_some_iff.1 hx
     have:=ih t (by simp at hl;omega) y hy
     simp only [List.length_cons];omega
theorem Mv (s:ByteArray) (f:Int):(Ad s f).size≤s.size:=by
 unfold Ad dz
 by_cases h:0≤f∧f<s.size∧s.data.toList[f.toNat]? =some 39
 · rw [if_pos h]
   cases hu:lQ (s.data.toList.drop (f.toNat+1))with
   |none=>exact Nat.zero_le _
   |some x=>
    have:=(KU _ _ (Nat.le_refl _) x hu).1
    simp only [Option.map_some,List.length_drop]at this⊢
    show x.1.toArray.size≤s.data.size
    rw [Array.length_toList]at this
    rw [List.size_toArray];omega
 · rw [if_neg h];exact Nat.zero_le _
theorem KV (s:ByteArray) (f:Int):0≤sV s f∧sV s f≤s.size:=by
 unfold sV dz
 by_cases h:0≤f∧f<s.size∧s.data.toList[f.toNat]? =some 39
 · rw [if_pos h]
   cases hu:lQ (s.data.toList.drop (f.toNat+1))with
   |none=>simp
   |some x=>
    have h2:=(KU _ _ (Nat.le_refl _) x hu).2
    obtain ⟨h0,h1,_⟩:=h
    have h3:s.data.toList.length=s.size:=rfl
    simp only [Option.map_some,List.length_drop]at h2⊢
    omega
 · rw [if_neg h];simp
def Ae:ByteArray:=⟨#[40,41,44,59,61,42]⟩
def qE (q:Nat):Nat:= [40,41,44,59,61,42].getD q 0
theorem Py (q:Nat) (h:q<6):Utf8.decode Ae q=(qE q,1):=by
 have:q=0∨q=1∨q=2∨q=3∨q=4∨q=5:=by omega
 rcases this with rfl|rfl|rfl|rfl|rfl|rfl<;>decide+kernel
theorem Tt (q:Nat) (h:q<6):40≤qE q∧qE q<62:=by
 have:q=0∨q=1∨q=2∨q=3∨q=4∨q=5:=by omega
 rcases this with rfl|rfl|rfl|rfl|rfl|rfl<;>decide
theorem Tv {P:List Pt}{i q:Nat}(h:q<6) (hb:gy P i (qE q)=true):mR P i=qE q∧yF (mR P i)=true:=by
 unfold gy at hb
 unfold mR
 cases hp:P[i]? with
 |none=>rw [hp]at hb;cases hb
 |some p=>
  rw [hp]at hb
  have e:(p.r:Int)=qE q:=by simpa using hb
  refine ⟨e, ?_⟩
  show yF (p.r:Int)=true
  rw [e]
  have:q=0∨q=1∨q=2∨q=3∨q=4∨q=5:=by omega
  rcases this with rfl|rfl|rfl|rfl|rfl|rfl<;>decide
theorem Wt {P:List Pt}{i:Nat}(h:∀q,q<6→gy P i (qE q)=false):yF (mR P i)=false:=by
 have h0:=h 0 (by omega);have h1:=h 1 (by omega);have h2:=h 2 (by omega);have h3:=h 3 (by omega);have h4:=h 4 (by omega);have h5:=h 5 (by omega)
 unfold gy at h0 h1 h2 h3 h4 h5
 unfold mR yF
 cases hp:P[i]? with
 |none=>rfl
 |some p=>
  rw [hp]at h0 h1 h2 h3 h4 h5
  simp only [qE,List.getD_cons_zero,List.getD_cons_succ]at h0 h1 h2 h3 h4 h5
  show (((((((p.r:Int)==40)||(p.r:Int)==41)||(p.r:Int)==44)||(p.r:Int)==59)||(p.r:Int)==61)||(p.r:Int)==42)=false
  rw [show ((p.r:Int)==40)=false from h0,show ((p.r:Int)==41)=false from h1,show ((p.r:Int)==44)=false from h2,show ((p.r:Int)==59)=false from h3,show ((p.r:Int)==61)=false from h4,show ((p.r:Int)==42)=false from h5]
  rfl
end aH
theorem Tw {w0 w1 w2:World}{a:Addr}{u:Value}(h:w1.cell? a=some u∧Below w0.heap.size w0 w1) (hb:Below w1.heap.size w1 w2):w2.cell? a=some u∧Below w0.heap.size w0 w2:=
 ⟨(Below.cell hb (World.block_lt_of_cell? _ _ h.1)).trans h.1,h.2.trans (hb.mono h.2.size)⟩
theorem jG {L:Nat}{w0 wr:World}{b:Nat}{s:ByteArray}{P:List Pt}{k:Nat}{x0 x1 x2 x3:Value}{T:TypeId}(h1:SQ L wr b s P k) (h3:wr.heap[w0.heap.size]? =some (.cells #[x0,x1,x2,x3] T (0,0))) (h5:w0.grownBy wr (some b)) (hL:L≤w0.heap.size) (v0 v1 v2 v3:Value) (W:World)
 (hW:W=(((wr.setCell ⟨w0.heap.size,0,none⟩ v0).setCell ⟨w0.heap.size,1,none⟩ v1).setCell ⟨w0.heap.size,2,none⟩ v2).setCell ⟨w0.heap.size,3,none⟩ v3):
 W.cell? ⟨w0.heap.size,0,none⟩=some v0∧W.cell? ⟨w0.heap.size,1,none⟩=some v1∧W.cell? ⟨w0.heap.size,2,none⟩=some v2∧W.cell? ⟨w0.heap.size,3,none⟩=some v3∧
 SQ L W b s P k∧w0.grownBy W (some b):=by
 subst hW
 have hp:=Ms h3 v0 v1 v2 v3
 refine ⟨by rw [aj hp];rfl,by rw [aj hp];rfl,by rw [aj hp];rfl,by rw [aj hp];rfl,(((h1.setOther hL _ _).setOther hL _ _).setOther hL _ _).setOther hL _ _, ?_⟩
 have h6:=zJ wr w0.heap.size v0 v1 v2 v3
 exact ⟨h6.os.trans h5.os,h6.tape.trans h5.tape,h6.output.trans h5.output,Nat.le_trans h5.size h6.size,fun q hq hr=>by
  have:=h5.size
  rw [h6.block q (by omega) (fun e=>by cases e;omega)];exact h5.block q hq hr⟩
theorem Pz (s:ByteArray) (f:Int) (w:World) (hs:s.size≤1000000):
 Calls Tryz.prog 162 #[.string s, .int .i64 f] w fun e w' =>e= .returned (.tuple #[.string (Ad s f), .int .i64 (sV s f), .bool (Cv s f)])∧Below w.heap.size w w' :=by
 rw [←Tq];exact FU s f w hs
theorem PD {L:Nat}(ws w:World) (b:Nat) (s:ByteArray) (P:List Pt) (i:Nat) (h:SQ L w b s P i) (hG:Glob ws) (hB:Below ws.heap.size ws w) (hwb:ws.heap.size≤b) (hs:s.size≤100000) (Mt:FX s P) (hi:i<P.length):
 Calls Tryz.prog 124 #[.pointer (some ⟨b,0,none⟩)] w (zI L w b s P (jf s P i)):=by
 obtain ⟨hPl,hmono,Po⟩:=Mt
 have HL:=h.le
 have hblt:=h.lt
 have O1:=Lib.hid (Po i)
 have HS:Hid (SQ L (w.alloc (.cells #[.int .i64 0, .string ⟨#[]⟩, .int .i64 0, .int .i64 0] 119)) b s P i):=h.below ((Below.refl _ _).alloc (Nat.le_refl _) _)
 have HGW:Hid (∀wr,w.grownBy wr (some b)→Glob wr):=fun wr hg=>hG.below (hB.trans (jM hg hwb hB.size))
 obtain ⟨a,cap,c0,c1,c2,f2,_⟩:=h.cells
 clear h hG hmono Po hB
 go_enter Tryz.func124,Tryz.ntmps124
 go_wp2_with fail
 obtain ⟨w0,hw0⟩:∃w0,w0=w.alloc (.cells #[.int .i64 0, .string ⟨#[]⟩, .int .i64 0, .int .i64 0] 119):=⟨_,rfl⟩
 have H0:Hid (w0.heap.size=w.heap.size+1∧w0.heap[w.heap.size]? =some (.cells #[.int .i64 0, .string ⟨#[]⟩, .int .i64 0, .int .i64 0] 119 (0,0))∧w.grownBy w0 (some b)):=by
  refine ⟨by rw [hw0];simp,by rw [hw0];exact aB w _,by rw [hw0];exact jB ((Below.refl _ _).alloc (Nat.le_refl _) _) _⟩
 rw [←hw0]at HS⊢
 clear hw0
 have c0' :w0.cell? ⟨b,0,none⟩=some (.string s):=by obtain ⟨_,_,k0,_⟩:=HS.out.cells;exact k0
 have hS:w0.cell? ⟨b,0,none⟩=some (.string s)∧Below w0.heap.size w0 w0:=⟨c0',Below.refl _ _⟩
 have hbt:=Lib.hid (uh (L:=L) · b s P i i)
 have hUn:=Lib.hid (fun f wx=>Pz s f wx (by omega))
 go_region_held3 (fun w' =>w'.cell? ⟨b,0,none⟩=some (.string s)∧Below w0.heap.size w0 w') (first|exact Tw (by assumption) hb2|exact ⟨c0',(Below.refl _ _).drew⟩)
  (first
   |(go_at_call 160;refine (hbt.out _ (HS.out.below (And.right (by assumption)))).mono ?_;rintro e w1 ⟨rfl,rfl⟩)
   |(go_at_call 162;refine (hUn.out _ _).mono ?_;rintro e w2 ⟨rfl,hb2⟩))
 have hT:w2.cell? ⟨b,0,none⟩=some (.string s)∧Below w0.heap.size w0 w2:=by assumption
 replace hS:=HS.out.below hT.2
 have hblk:=bf H0.out.2.1 hT.2 (aC H0.out.2.1)
 have hg:=aK H0.out.2.2 (jB hT.2 (some b))
 have HT:=Lib.hid (qO s P i)
 have hU:=Mv s (aT s P i)
 have hN:=KV s (aT s P i)
 clear hT c0 c1 c2 f2 hbt hUn c0' O1 HS
 generalize Ad s (aT s P i)=U at *
 generalize sV s (aT s P i)=N at *
 generalize Cv s (aT s P i)=O at *
 have HW:Hid (w.heap.size<w2.heap.size):=aC hblk
 go_wp2_with fail
 go_loopw [] (fun wr=>∃k,SQ L wr b s P k∧wr.heap[w.heap.size]? =some (.cells #[.int .i64 0, .string ⟨#[]⟩, .int .i64 0, .int .i64 0] 119 (0,0))∧w.grownBy wr (some b)∧Hid (bZ P N i=bZ P N k)∧k≤P.length) (fun wr=>P.length - vv wr b)
 case atStart=>exact ⟨i,hS,hblk,hg,rfl,by omega⟩
 case round=>
  clear hS hblk hg
  obtain ⟨k,hS,hblk,hg,HE,hk⟩:=hrel
  have HK:=Lib.hid (eH hS)
  by_cases hlk:k<P.length
  · have he:=Lib.hid (fun n=>nV (wr.drewN n) b s P k (hS.heap rfl) false (decide_eq_false (by omega)))
    obtain ⟨a,cap,_,c1,c2,f2,hc⟩:=hS.cells
    obtain ⟨g,rfl,hcc⟩:=hc (by omega)
    have c4:wr.cell? ⟨g,k*3+1,none⟩=some (.int .i64 P[k].at_):=hcc _ _ (by have:=jV P k 1 hlk (by omega);rw [this];rfl)
    have HP:=Lib.hid (List.getElem?_eq_getElem hlk)
    clear hc hcc
    generalize P[k]=p at *
    have q5:(k:Int)<(P.length:Int):=by omega
    have q6:(0:Int)≤(k:Int):=by omega
    cases hq:decide ((p.at_:Int)<N)
    · have HF:Hid (bZ P N i=k):=by show _=_;rw [HE.out];unfold bZ;exact fJ (by rw [HP.out];exact hq)
      go_wp2_with fail
      go_quiet ((go_at_call 79;exact Calls.quiet_of (he.out _)))
      obtain ⟨w3,hw3⟩:∃w3,w3=wr.drewN nq:=⟨_,rfl⟩
      replace hS:=hS.heap (w' :=w3) (by rw [hw3];rfl)
      replace hblk:w3.heap[w.heap.size]? =some (.cells #[.int .i64 0, .string ⟨#[]⟩, .int .i64 0, .int .i64 0] 119 (0,0)):=by rw [hw3];exact hblk
      replace hg:=aK hg (show _ from hw3▸bq _ nq (some b))
      rw [←hw3]
      have t0:w3.cell? ⟨w.heap.size,0,none⟩=some (.int .i64 0):=by rw [aj hblk];rfl
      have t1:w3.cell? ⟨w.heap.size,1,none⟩=some (.string ⟨#[]⟩):=by rw [aj hblk];rfl
      have t2:w3.cell? ⟨w.heap.size,2,none⟩=some (.int .i64 0):=by rw [aj hblk];rfl
      have t3:w3.cell? ⟨w.heap.size,3,none⟩=some (.int .i64 0):=by rw [aj hblk];rfl
      have u0:=ah hblk 0
      have u1:=ah hblk 1
      have u2:=ah hblk 2
      have u3:=ah hblk 3
      clear hw3 c1 c2 f2 c4 q5 q6 hq HP he
      have Mw:=Lib.hid (fun hz=>CV U w3 (HGW.out _ hg) hz)
      cases O
      · go_wp2_with fail
        obtain ⟨r0,r1,r2,r3,nX,hg4⟩:=jG hS hblk hg HL (.int .i64 3) (.string U) (.int .i64 0) (.int .i64 i) _ rfl
        refine bodyPost_ret (v:= .tuple #[.agg #[.int .i64 3, .string U, .int .i64 0, .int .i64 i], .bool false]) (by simp [results,Tryz.results124,go_sem,r0,r1,r2,r3]) rfl ?_
        refine ⟨?_, ?_,hg4⟩
        · rw [HT.out];rfl
        · rw [HT.out]
          show SQ L _ b s P (bZ P N i)
          rw [HF.out];exact nX
      · have HZ:Hid (decide (U.size≤100)=decide ((U.size:Int)≤100)):=by show _=_;rw [decide_eq_decide];omega
        cases hz:decide ((U.size:Int)≤100)
        · have HZ2:=Lib.hid hz
          clear Mw
          go_wp2_with fail
          obtain ⟨r0,r1,r2,r3,nX,hg4⟩:=jG hS hblk hg HL (.int .i64 3) (.string U) (.int .i64 0) (.int .i64 i) _ rfl
          refine bodyPost_ret (v:= .tuple #[.agg #[.int .i64 3, .string U, .int .i64 0, .int .i64 i], .bool false]) (by simp [results,Tryz.results124,go_sem,r0,r1,r2,r3]) rfl ?_
          refine ⟨?_, ?_,hg4⟩
          · rw [HT.out,HZ.out,HZ2.out];rfl
          · rw [HT.out]
            show SQ L _ b s P (bZ P N i)
            rw [HF.out];exact nX
        · have hz2:U.size≤100:=by have:=of_decide_eq_true hz;omega
          go_wp2_with fail
          refine (Mw.out (by omega)).mono ?_;rintro e w4 ⟨rfl,hb4⟩
          replace hS:=hS.below hb4
          replace hg:=aK hg (jB hb4 (some b))
          replace hblk:=bf hblk hb4 (aC hblk)
          clear t0 t1 t2 t3 u0 u1 u2 u3 Mw hb4
          have t0:w4.cell? ⟨w.heap.size,0,none⟩=some (.int .i64 0):=by rw [aj hblk];rfl
          have t1:w4.cell? ⟨w.heap.size,1,none⟩=some (.string ⟨#[]⟩):=by rw [aj hblk];rfl
          have t2:w4.cell? ⟨w.heap.size,2,none⟩=some (.int .i64 0):=by rw [aj hblk];rfl
          have t3:w4.cell? ⟨w.heap.size,3,none⟩=some (.int .i64 0):=by rw [aj hblk];rfl
          have u0:=ah hblk 0
          have u1:=ah hblk 1
          have u2:=ah hblk 2
          have u3:=ah hblk 3
          have HZ2:=Lib.hid hz
          clear hz
          go_wp2_with fail
          obtain ⟨r0,r1,r2,r3,nX,hg4⟩:=jG hS hblk hg HL (.int .i64 3) (.string U) (.int .i64 0) (.int .i64 i) _ rfl
          refine bodyPost_ret (v:= .tuple #[.agg #[.int .i64 3, .string U, .int .i64 0, .int .i64 i], .bool (valid U)]) (by simp [results,Tryz.results124,go_sem,r0,r1,r2,r3]) rfl ?_
          refine ⟨?_, ?_,hg4⟩
          · rw [HT.out,HZ.out,HZ2.out];rfl
          · rw [HT.out]
            show SQ L _ b s P (bZ P N i)
            rw [HF.out];exact nX
    · have HF:Hid (bZ P N i=bZ P N (k+1)):=by show _=_;rw [HE.out];unfold bZ;exact gU hlk (by rw [HP.out];exact hq)
      go_wp2_with fail
      go_quiet ((go_at_call 79;exact Calls.quiet_of (he.out _)))
      go_wp2_with fail
      go_roundw
      case rel=>
       refine ⟨k+1,by have:=(hS.heap (w' :=wr.drewN nq) rfl).set (k+1);push_cast at this;exact this,bN (by exact hblk) _ _ (by show _≠b;omega),aK (aK hg (bq _ nq (some b))) (jd _ _ _ _),HF,by omega⟩
      case measure=>
       have h1:=eH ((hS.heap (w' :=wr.drewN nq) rfl).set (k+1));push_cast at h1
       rw [h1,HK.out];omega
  · have he:=Lib.hid (fun n=>nV (wr.drewN n) b s P k (hS.heap rfl) true (decide_eq_true (by omega)))
    have HF:Hid (bZ P N i=k):=by show _=_;rw [HE.out];unfold bZ;exact sD (by omega)
    go_wp2_with fail
    go_quiet ((go_at_call 79;exact Calls.quiet_of (he.out _)))
    obtain ⟨w3,hw3⟩:∃w3,w3=wr.drewN nq:=⟨_,rfl⟩
    replace hS:=hS.heap (w' :=w3) (by rw [hw3];rfl)
    replace hblk:w3.heap[w.heap.size]? =some (.cells #[.int .i64 0, .string ⟨#[]⟩, .int .i64 0, .int .i64 0] 119 (0,0)):=by rw [hw3];exact hblk
    replace hg:=aK hg (show _ from hw3▸bq _ nq (some b))
    rw [←hw3]
    have t0:w3.cell? ⟨w.heap.size,0,none⟩=some (.int .i64 0):=by rw [aj hblk];rfl
    have t1:w3.cell? ⟨w.heap.size,1,none⟩=some (.string ⟨#[]⟩):=by rw [aj hblk];rfl
    have t2:w3.cell? ⟨w.heap.size,2,none⟩=some (.int .i64 0):=by rw [aj hblk];rfl
    have t3:w3.cell? ⟨w.heap.size,3,none⟩=some (.int .i64 0):=by rw [aj hblk];rfl
    have u0:=ah hblk 0
    have u1:=ah hblk 1
    have u2:=ah hblk 2
    have u3:=ah hblk 3
    clear hw3 he
    have Mw:=Lib.hid (fun hz=>CV U w3 (HGW.out _ hg) hz)
    cases O
    · go_wp2_with fail
      obtain ⟨r0,r1,r2,r3,nX,hg4⟩:=jG hS hblk hg HL (.int .i64 3) (.string U) (.int .i64 0) (.int .i64 i) _ rfl
      refine bodyPost_ret (v:= .tuple #[.agg #[.int .i64 3, .string U, .int .i64 0, .int .i64 i], .bool false]) (by simp [results,Tryz.results124,go_sem,r0,r1,r2,r3]) rfl ?_
      refine ⟨?_, ?_,hg4⟩
      · rw [HT.out];rfl
      · rw [HT.out]
        show SQ L _ b s P (bZ P N i)
        rw [HF.out];exact nX
    · have HZ:Hid (decide (U.size≤100)=decide ((U.size:Int)≤100)):=by show _=_;rw [decide_eq_decide];omega
      cases hz:decide ((U.size:Int)≤100)
      · go_wp2_with fail
        obtain ⟨r0,r1,r2,r3,nX,hg4⟩:=jG hS hblk hg HL (.int .i64 3) (.string U) (.int .i64 0) (.int .i64 i) _ rfl
        refine bodyPost_ret (v:= .tuple #[.agg #[.int .i64 3, .string U, .int .i64 0, .int .i64 i], .bool false]) (by simp [results,Tryz.results124,go_sem,r0,r1,r2,r3]) rfl ?_
        refine ⟨?_, ?_,hg4⟩
        · rw [HT.out,HZ.out,hz];rfl
        · rw [HT.out]
          show SQ L _ b s P (bZ P N i)
          rw [HF.out];exact nX
      · have hz2:U.size≤100:=by have:=of_decide_eq_true hz;omega
        go_wp2_with fail
        refine (Mw.out (by omega)).mono ?_;rintro e w4 ⟨rfl,hb4⟩
        replace hS:=hS.below hb4
        replace hg:=aK hg (jB hb4 (some b))
        replace hblk:=bf hblk hb4 (aC hblk)
        clear t0 t1 t2 t3 u0 u1 u2 u3 Mw hb4
        have t0:w4.cell? ⟨w.heap.size,0,none⟩=some (.int .i64 0):=by rw [aj hblk];rfl
        have t1:w4.cell? ⟨w.heap.size,1,none⟩=some (.string ⟨#[]⟩):=by rw [aj hblk];rfl
        have t2:w4.cell? ⟨w.heap.size,2,none⟩=some (.int .i64 0):=by rw [aj hblk];rfl
        have t3:w4.cell? ⟨w.heap.size,3,none⟩=some (.int .i64 0):=by rw [aj hblk];rfl
        have u0:=ah hblk 0
        have u1:=ah hblk 1
        have u2:=ah hblk 2
        have u3:=ah hblk 3
        have HZ2:=Lib.hid hz
        clear hz
        go_wp2_with fail
        obtain ⟨r0,r1,r2,r3,nX,hg4⟩:=jG hS hblk hg HL (.int .i64 3) (.string U) (.int .i64 0) (.int .i64 i) _ rfl
        refine bodyPost_ret (v:= .tuple #[.agg #[.int .i64 3, .string U, .int .i64 0, .int .i64 i], .bool (valid U)]) (by simp [results,Tryz.results124,go_sem,r0,r1,r2,r3]) rfl ?_
        refine ⟨?_, ?_,hg4⟩
        · rw [HT.out,HZ.out,HZ2.out];rfl
        · rw [HT.out]
          show SQ L _ b s P (bZ P N i)
          rw [HF.out];exact nX
theorem Mx {a w:World}{b k:Nat}(h:a.grownBy w (some b)) (hk:a.heap.size≤k) (s:ByteArray) (p:Nat):a.grownBy (w.iterAt k s p) (some b):=
 ⟨h.os,h.tape,h.output,by rw [Lib.iterAt_size];exact h.size,fun i hi hr=>by rw [Lib.iterAt_other _ _ _ _ _ (by omega)];exact h.block i hi hr⟩
theorem VK {L:Nat}{w:World}{b:Nat}{s:ByteArray}{P:List Pt}{i:Nat}(h:SQ L w b s P i):w.cell? ⟨b,2,none⟩=some (.int .i64 i)∧w.frozen? ⟨b,2,none⟩=false:=by
 obtain ⟨_,_,_,_,c2,f2,_⟩:=h.cells
 exact ⟨c2,f2⟩
theorem isx {L:Nat}{w wi w' :World}{b k g:Nat}{s:ByteArray}{P:List Pt}{i:Nat}{e v:Ending}{o x:Obj}(h:e=v∧∃m,w' =wi.drewN m) (hS:SQ L wi b s P i) (h1:wi.heap[k]? =some o) (h2:wi.heap[g]? =some x) (h3:w.grownBy wi (some b)):
 e=v∧SQ L w' b s P i∧w'.heap[k]? =some o∧w'.heap[g]? =some x∧w.grownBy w' (some b):=by
 obtain ⟨rfl,m,rfl⟩:=h
 exact ⟨rfl,hS.heap rfl,h1,h2,aK h3 (bq _ m _)⟩
theorem Tz (q:Nat) (h:q<6):Utf8.encode (qE q)=⟨#[UInt8.ofNat (qE q)]⟩:=by
 have:q=0∨q=1∨q=2∨q=3∨q=4∨q=5:=by omega
 rcases this with rfl|rfl|rfl|rfl|rfl|rfl<;>rfl
theorem CZ {w:World}{g:Nat}{a b c d:Value}{T:TypeId}(h:w.heap[g]? =some (.cells #[a,b,c,d] T (0,0))):
 w.cell? ⟨g,0,none⟩=some a∧w.cell? ⟨g,1,none⟩=some b∧w.cell? ⟨g,2,none⟩=some c∧w.cell? ⟨g,3,none⟩=some d∧w.frozen? ⟨g,0,none⟩=false∧w.frozen? ⟨g,1,none⟩=false∧w.frozen? ⟨g,2,none⟩=false∧w.frozen? ⟨g,3,none⟩=false:=
 ⟨by rw [aj h];rfl,by rw [aj h];rfl,by rw [aj h];rfl,by rw [aj h];rfl,ah h 0,ah h 1,ah h 2,ah h 3⟩
theorem MB {L:Nat}(ws w:World) (b:Nat) (s:ByteArray) (P:List Pt) (i:Nat) (h:SQ L w b s P i) (hG:Glob ws) (hB:Below ws.heap.size ws w) (hwb:ws.heap.size≤b) (hs:s.size≤100000) (Mt:FX s P) (hi:i<P.length):
 Calls Tryz.prog 80 #[.pointer (some ⟨b,0,none⟩)] w (zI L w b s P (dF s P i)):=by
 have TA:=Lib.hid Mt
 have hPl:=Mt.1
 have HL:=h.le
 have hblt:=h.lt
 have HB:Hid (∀wr,w.grownBy wr (some b)→Below ws.heap.size ws wr):=fun wr hg=>hB.trans (jM hg hwb hB.size)
 have hS:SQ L (w.alloc (.cells #[.int .i64 0, .string ⟨#[]⟩, .int .i64 0, .int .i64 0] 119)) b s P i:=h.below ((Below.refl _ _).alloc (Nat.le_refl _) _)
 have hg:=jB ((Below.refl w.heap.size w).alloc (Nat.le_refl _) (.cells #[.int .i64 0, .string ⟨#[]⟩, .int .i64 0, .int .i64 0] 119)) (some b)
 have hblk:=aB w (.cells #[.int .i64 0, .string ⟨#[]⟩, .int .i64 0, .int .i64 0] 119)
 clear h hB Mt
 go_enter Tryz.func80,Tryz.ntmps80
 go_wp2_with fail
 generalize w.alloc (.cells #[.int .i64 0, .string ⟨#[]⟩, .int .i64 0, .int .i64 0] 119)=w0 at *
 cases hL:dQ P i
 · refine (FZ _ b s P i hS _ hL).mono ?_;rintro e w1 ⟨rfl,m,hm⟩
   replace hS:=hS.heap (w' :=w1) (by rw [hm];rfl)
   replace hg:=aK hg (show _ from hm▸bq _ m (some b))
   replace hblk:w1.heap[w.heap.size]? =some (.cells #[.int .i64 0, .string ⟨#[]⟩, .int .i64 0, .int .i64 0] 119 (0,0)):=by rw [hm];exact hblk
   clear hm
   have YK:=Lib.hid hL
   clear hL
   go_wp2_with fail
   cases hD:dn P i
   · refine (yI _ b s P i hS _ hD).mono ?_;rintro e w1 ⟨rfl,m,hm⟩
     replace hS:=hS.heap (w' :=w1) (by rw [hm];rfl)
     replace hg:=aK hg (show _ from hm▸bq _ m (some b))
     replace hblk:w1.heap[w.heap.size]? =some (.cells #[.int .i64 0, .string ⟨#[]⟩, .int .i64 0, .int .i64 0] 119 (0,0)):=by rw [hm];exact hblk
     clear hm
     have HD:=Lib.hid hD
     clear hD
     go_wp2_with fail
     cases h45:gy P i 45
     · refine (jW _ b s P i 0 45 hS (by omega) (by omega) _ h45).mono ?_;rintro e w1 ⟨rfl,m,hm⟩
       replace hS:=hS.heap (w' :=w1) (by rw [hm];rfl)
       replace hg:=aK hg (show _ from hm▸bq _ m (some b))
       replace hblk:w1.heap[w.heap.size]? =some (.cells #[.int .i64 0, .string ⟨#[]⟩, .int .i64 0, .int .i64 0] 119 (0,0)):=by rw [hm];exact hblk
       clear hm
       have Tp:=Lib.hid h45
       clear h45
       go_wp2_with fail
       cases TB:gy P i 39
       · refine (jW _ b s P i 0 39 hS (by omega) (by omega) _ TB).mono ?_;rintro e w1 ⟨rfl,m,hm⟩
         replace hS:=hS.heap (w' :=w1) (by rw [hm];rfl)
         replace hg:=aK hg (show _ from hm▸bq _ m (some b))
         replace hblk:w1.heap[w.heap.size]? =some (.cells #[.int .i64 0, .string ⟨#[]⟩, .int .i64 0, .int .i64 0] 119 (0,0)):=by rw [hm];exact hblk
         clear hm
         have H39:=Lib.hid TB
         clear TB
         have HN:Hid (dF s P i=if yF (mR P i)then (⟨4,⟨#[UInt8.ofNat (mR P i).toNat]⟩,0,i⟩,true,i+1)else (⟨0,⟨#[]⟩,0,0⟩,false,i)):=by show _=_;unfold dF;rw [YK.out,HD.out,Tp.out,H39.out];rfl
         clear YK HD Tp H39
         have adL:=aC hblk
         go_wp2_with fail
         go_loopw [] (fun wr=>∃(q:Nat),q≤6∧wr.heap[w1.heap.size]? =some (.stringIter Ae q)∧SQ L wr b s P i∧wr.heap[w.heap.size]? =some (.cells #[.int .i64 0, .string ⟨#[]⟩, .int .i64 0, .int .i64 0] 119 (0,0))∧w.grownBy wr (some b)∧Hid (∀k,k<q→gy P i (qE k)=false)) (fun wr=>6 - wr.iterPos w1.heap.size)
         case atStart=>exact ⟨0,by omega,World.iter_heap w1 Ae 0,hS.below ((Below.refl _ _).alloc (Nat.le_refl _) _),au hblk _,aK hg (jB ((Below.refl _ _).alloc (Nat.le_refl _) _) _),fun k hk=>absurd hk (by omega)⟩
         case round=>
          obtain ⟨q,MC,hit,hSr,PE,hgr,HQ⟩:=hrel
          have yx:=iterPos_of hit
          have YL:L≤w1.heap.size:=hS.le
          have hb1:b<w1.heap.size:=hS.lt
          by_cases hq:q<6
          · have hnx:∀ty,(Instr.next (.pointer (some ⟨w1.heap.size,0,none⟩)) true ty).run Tryz.prog wr=_:=fun ty=>Lib.run_next_any_at wr w1.heap.size Ae q ty hit (show q<Ae.size from hq)
            rw [Py q hq]at hnx
            have hit2:=Lib.iterAt_heap wr w1.heap.size Ae q (q+1) hit
            have hS2:SQ L (wr.iterAt w1.heap.size Ae (q+1)) b s P i:=hSr.keep (by rw [Lib.iterAt_size];exact Nat.le_refl _) (fun k hk=>Lib.iterAt_other _ _ _ _ _ (by omega))
            have hblk2:(wr.iterAt w1.heap.size Ae (q+1)).heap[w.heap.size]? =some (.cells #[.int .i64 0, .string ⟨#[]⟩, .int .i64 0, .int .i64 0] 119 (0,0)):=by rw [Lib.iterAt_other _ _ _ _ _ (by omega)];exact PE
            have hg2:w.grownBy (wr.iterAt w1.heap.size Ae (q+1)) (some b):=Mx hgr (by omega) _ _
            generalize wr.iterAt w1.heap.size Ae (q+1)=wi at *
            cases hB:gy P i (qE q)
            · have HQ2:Hid (∀k,k<q+1→gy P i (qE k)=false):=fun k hk=>by
               by_cases e:k=q
               · rw [e];exact hB
               · exact HQ.out k (by omega)
              have hc:=(jW wi b s P i 0 (qE q) hS2 (by omega) (by omega) _ hB).mono (fun e w' h=>isx h hS2 hit2 hblk2 hg2)
              clear hB
              generalize qE q=r at *
              go_wp2_with (go_at_call 119;refine hc.mono ?_;rintro e w2 ⟨rfl,Ej,hit3,hblk3,hg3⟩)
              go_roundw
              case rel=>exact ⟨q+1,by omega,hit3,Ej,hblk3,hg3,HQ2⟩
              case measure=>rw [yx,iterPos_of hit3];omega
            · have hc:=(jW wi b s P i 0 (qE q) hS2 (by omega) (by omega) _ hB).mono (fun e w' h=>isx h hS2 hit2 hblk2 hg2)
              obtain ⟨e1,e2⟩:=Tv hq hB
              rw [e2,e1]at HN
              clear hB
              have hr0:=Tt q hq
              go_wp2_with (go_at_call 119;refine hc.mono ?_;rintro e w2 ⟨rfl,Ej,hit3,hblk3,hg3⟩;obtain ⟨c2,f2⟩:=VK Ej;obtain ⟨t0,t1,t2,t3,u0,u1,u2,u3⟩:=CZ hblk3)
              obtain ⟨r0,r1,r2,r3,nX,hg4⟩:=jG (Ej.set (i+1)) (bN hblk3 _ _ (by show w.heap.size≠b;omega)) (aK hg3 (jd _ _ _ _)) HL (.int .i64 4) (.string (Utf8.encode (qE q))) (.int .i64 0) (.int .i64 i) _ rfl
              rw [show ((i+1:Nat):Int)=(i:Int)+1 from by omega]at r0 r1 r2 r3 nX hg4
              refine bodyPost_ret (v:= .tuple #[.agg #[.int .i64 4, .string (Utf8.encode (qE q)), .int .i64 0, .int .i64 i], .bool true]) (by simp [results,Tryz.results80,go_sem,r0,r1,r2,r3]) rfl ?_
              rw [HN.out];exact ⟨by rw [Tz q hq];rfl,nX,hg4⟩
          · have hnx:∀ty,(Instr.next (.pointer (some ⟨w1.heap.size,0,none⟩)) true ty).run Tryz.prog wr=_:=fun ty=>Lib.run_next_end_at wr w1.heap.size Ae q ty hit hq
            have HF:Hid (yF (mR P i)=false):=Wt fun k hk=>HQ.out k (by omega)
            obtain ⟨t0,t1,t2,t3,u0,u1,u2,u3⟩:=CZ PE
            go_wp2_with fail
            obtain ⟨r0,r1,r2,r3,nX,hg4⟩:=jG hSr PE hgr HL (.int .i64 0) (.string ⟨#[]⟩) (.int .i64 0) (.int .i64 0) _ rfl
            refine bodyPost_ret (v:= .tuple #[.agg #[.int .i64 0, .string ⟨#[]⟩, .int .i64 0, .int .i64 0], .bool false]) (by simp [results,Tryz.results80,go_sem,r0,r1,r2,r3]) rfl ?_
            rw [HN.out,HF.out];exact ⟨rfl,nX,hg4⟩
       · have HT:Hid (dF s P i=jf s P i):=by show _=_;unfold dF;rw [YK.out,HD.out,Tp.out,TB];rfl
         refine (jW _ b s P i 0 39 hS (by omega) (by omega) _ TB).mono ?_;rintro e w1 ⟨rfl,m,hm⟩
         replace hS:=hS.heap (w' :=w1) (by rw [hm];rfl)
         replace hg:=aK hg (show _ from hm▸bq _ m (some b))
         replace hblk:w1.heap[w.heap.size]? =some (.cells #[.int .i64 0, .string ⟨#[]⟩, .int .i64 0, .int .i64 0] 119 (0,0)):=by rw [hm];exact hblk
         clear hm
         clear TB
         go_wp2_with fail
         obtain ⟨X,hX⟩:∃X,X=jf s P i:=⟨_,rfl⟩
         have hc:=PD ws _ b s P i hS hG (HB.out _ hg) hwb hs TA.out hi
         rw [←hX]at hc
         obtain ⟨⟨K,S,N,A⟩,ok,nx⟩:=X
         change Calls _ _ _ _ (fun e w' =>e= .returned (.tuple #[.agg #[.int .i64 K, .string S, .int .i64 N, .int .i64 A], .bool ok])∧SQ L w' b s P nx∧_)at hc
         refine hc.mono ?_;rintro e w2 ⟨rfl,hS2,hg2⟩
         replace hblk:w2.heap[w.heap.size]? =some (.cells #[.int .i64 0, .string ⟨#[]⟩, .int .i64 0, .int .i64 0] 119 (0,0)):=by rw [hg2.block _ (aC hblk) (by intro e;cases e;omega)];exact hblk
         replace hg:=aK hg hg2
         clear hc hg2 hS
         have t0:w2.cell? ⟨w.heap.size,0,none⟩=some (.int .i64 0):=by rw [aj hblk];rfl
         have t1:w2.cell? ⟨w.heap.size,1,none⟩=some (.string ⟨#[]⟩):=by rw [aj hblk];rfl
         have t2:w2.cell? ⟨w.heap.size,2,none⟩=some (.int .i64 0):=by rw [aj hblk];rfl
         have t3:w2.cell? ⟨w.heap.size,3,none⟩=some (.int .i64 0):=by rw [aj hblk];rfl
         have u0:=ah hblk 0
         have u1:=ah hblk 1
         have u2:=ah hblk 2
         have u3:=ah hblk 3
         go_wp2_with fail
         obtain ⟨r0,r1,r2,r3,nX,hg4⟩:=jG hS2 hblk hg HL (.int .i64 K) (.string S) (.int .i64 N) (.int .i64 A) _ rfl
         refine bodyPost_ret (v:= .tuple #[.agg #[.int .i64 K, .string S, .int .i64 N, .int .i64 A], .bool ok]) (by simp [results,Tryz.results80,go_sem,r0,r1,r2,r3]) rfl ?_
         rw [HT.out,←hX];exact ⟨rfl,nX,hg4⟩
     · have HT:Hid (dF s P i=dh P i):=by show _=_;unfold dF;rw [YK.out,HD.out,h45];rfl
       refine (jW _ b s P i 0 45 hS (by omega) (by omega) _ h45).mono ?_;rintro e w1 ⟨rfl,m,hm⟩
       replace hS:=hS.heap (w' :=w1) (by rw [hm];rfl)
       replace hg:=aK hg (show _ from hm▸bq _ m (some b))
       replace hblk:w1.heap[w.heap.size]? =some (.cells #[.int .i64 0, .string ⟨#[]⟩, .int .i64 0, .int .i64 0] 119 (0,0)):=by rw [hm];exact hblk
       clear hm
       clear h45
       go_wp2_with fail
       obtain ⟨X,hX⟩:∃X,X=dh P i:=⟨_,rfl⟩
       have hc:=Ac _ b s P i hS hs TA.out hi
       rw [←hX]at hc
       obtain ⟨⟨K,S,N,A⟩,ok,nx⟩:=X
       change Calls _ _ _ _ (fun e w' =>e= .returned (.tuple #[.agg #[.int .i64 K, .string S, .int .i64 N, .int .i64 A], .bool ok])∧SQ L w' b s P nx∧_)at hc
       refine hc.mono ?_;rintro e w2 ⟨rfl,hS2,hg2⟩
       replace hblk:w2.heap[w.heap.size]? =some (.cells #[.int .i64 0, .string ⟨#[]⟩, .int .i64 0, .int .i64 0] 119 (0,0)):=by rw [hg2.block _ (aC hblk) (by intro e;cases e;omega)];exact hblk
       replace hg:=aK hg hg2
       clear hc hg2 hS
       have t0:w2.cell? ⟨w.heap.size,0,none⟩=some (.int .i64 0):=by rw [aj hblk];rfl
       have t1:w2.cell? ⟨w.heap.size,1,none⟩=some (.string ⟨#[]⟩):=by rw [aj hblk];rfl
       have t2:w2.cell? ⟨w.heap.size,2,none⟩=some (.int .i64 0):=by rw [aj hblk];rfl
       have t3:w2.cell? ⟨w.heap.size,3,none⟩=some (.int .i64 0):=by rw [aj hblk];rfl
       have u0:=ah hblk 0
       have u1:=ah hblk 1
       have u2:=ah hblk 2
       have u3:=ah hblk 3
       go_wp2_with fail
       obtain ⟨r0,r1,r2,r3,nX,hg4⟩:=jG hS2 hblk hg HL (.int .i64 K) (.string S) (.int .i64 N) (.int .i64 A) _ rfl
       refine bodyPost_ret (v:= .tuple #[.agg #[.int .i64 K, .string S, .int .i64 N, .int .i64 A], .bool ok]) (by simp [results,Tryz.results80,go_sem,r0,r1,r2,r3]) rfl ?_
       rw [HT.out,←hX];exact ⟨rfl,nX,hg4⟩
   · have HT:Hid (dF s P i=dh P i):=by show _=_;unfold dF;rw [YK.out,hD];rfl
     refine (yI _ b s P i hS _ hD).mono ?_;rintro e w1 ⟨rfl,m,hm⟩
     replace hS:=hS.heap (w' :=w1) (by rw [hm];rfl)
     replace hg:=aK hg (show _ from hm▸bq _ m (some b))
     replace hblk:w1.heap[w.heap.size]? =some (.cells #[.int .i64 0, .string ⟨#[]⟩, .int .i64 0, .int .i64 0] 119 (0,0)):=by rw [hm];exact hblk
     clear hm
     clear hD
     go_wp2_with fail
     obtain ⟨X,hX⟩:∃X,X=dh P i:=⟨_,rfl⟩
     have hc:=Ac _ b s P i hS hs TA.out hi
     rw [←hX]at hc
     obtain ⟨⟨K,S,N,A⟩,ok,nx⟩:=X
     change Calls _ _ _ _ (fun e w' =>e= .returned (.tuple #[.agg #[.int .i64 K, .string S, .int .i64 N, .int .i64 A], .bool ok])∧SQ L w' b s P nx∧_)at hc
     refine hc.mono ?_;rintro e w2 ⟨rfl,hS2,hg2⟩
     replace hblk:w2.heap[w.heap.size]? =some (.cells #[.int .i64 0, .string ⟨#[]⟩, .int .i64 0, .int .i64 0] 119 (0,0)):=by rw [hg2.block _ (aC hblk) (by intro e;cases e;omega)];exact hblk
     replace hg:=aK hg hg2
     clear hc hg2 hS
     have t0:w2.cell? ⟨w.heap.size,0,none⟩=some (.int .i64 0):=by rw [aj hblk];rfl
     have t1:w2.cell? ⟨w.heap.size,1,none⟩=some (.string ⟨#[]⟩):=by rw [aj hblk];rfl
     have t2:w2.cell? ⟨w.heap.size,2,none⟩=some (.int .i64 0):=by rw [aj hblk];rfl
     have t3:w2.cell? ⟨w.heap.size,3,none⟩=some (.int .i64 0):=by rw [aj hblk];rfl
     have u0:=ah hblk 0
     have u1:=ah hblk 1
     have u2:=ah hblk 2
     have u3:=ah hblk 3
     go_wp2_with fail
     obtain ⟨r0,r1,r2,r3,nX,hg4⟩:=jG hS2 hblk hg HL (.int .i64 K) (.string S) (.int .i64 N) (.int .i64 A) _ rfl
     refine bodyPost_ret (v:= .tuple #[.agg #[.int .i64 K, .string S, .int .i64 N, .int .i64 A], .bool ok]) (by simp [results,Tryz.results80,go_sem,r0,r1,r2,r3]) rfl ?_
     rw [HT.out,←hX];exact ⟨rfl,nX,hg4⟩
 · have HT:Hid (dF s P i=jL s P i):=by show _=_;unfold dF;rw [hL];rfl
   refine (FZ _ b s P i hS _ hL).mono ?_;rintro e w1 ⟨rfl,m,hm⟩
   replace hS:=hS.heap (w' :=w1) (by rw [hm];rfl)
   replace hg:=aK hg (show _ from hm▸bq _ m (some b))
   replace hblk:w1.heap[w.heap.size]? =some (.cells #[.int .i64 0, .string ⟨#[]⟩, .int .i64 0, .int .i64 0] 119 (0,0)):=by rw [hm];exact hblk
   clear hm
   clear hL
   go_wp2_with fail
   obtain ⟨X,hX⟩:∃X,X=jL s P i:=⟨_,rfl⟩
   have hc:=Pn _ b s P i hS hs TA.out hi
   rw [←hX]at hc
   obtain ⟨⟨K,S,N,A⟩,ok,nx⟩:=X
   change Calls _ _ _ _ (fun e w' =>e= .returned (.tuple #[.agg #[.int .i64 K, .string S, .int .i64 N, .int .i64 A], .bool ok])∧SQ L w' b s P nx∧_)at hc
   refine hc.mono ?_;rintro e w2 ⟨rfl,hS2,hg2⟩
   replace hblk:w2.heap[w.heap.size]? =some (.cells #[.int .i64 0, .string ⟨#[]⟩, .int .i64 0, .int .i64 0] 119 (0,0)):=by rw [hg2.block _ (aC hblk) (by intro e;cases e;omega)];exact hblk
   replace hg:=aK hg hg2
   clear hc hg2 hS
   have t0:w2.cell? ⟨w.heap.size,0,none⟩=some (.int .i64 0):=by rw [aj hblk];rfl
   have t1:w2.cell? ⟨w.heap.size,1,none⟩=some (.string ⟨#[]⟩):=by rw [aj hblk];rfl
   have t2:w2.cell? ⟨w.heap.size,2,none⟩=some (.int .i64 0):=by rw [aj hblk];rfl
   have t3:w2.cell? ⟨w.heap.size,3,none⟩=some (.int .i64 0):=by rw [aj hblk];rfl
   have u0:=ah hblk 0
   have u1:=ah hblk 1
   have u2:=ah hblk 2
   have u3:=ah hblk 3
   go_wp2_with fail
   obtain ⟨r0,r1,r2,r3,nX,hg4⟩:=jG hS2 hblk hg HL (.int .i64 K) (.string S) (.int .i64 N) (.int .i64 A) _ rfl
   refine bodyPost_ret (v:= .tuple #[.agg #[.int .i64 K, .string S, .int .i64 N, .int .i64 A], .bool ok]) (by simp [results,Tryz.results80,go_sem,r0,r1,r2,r3]) rfl ?_
   rw [HT.out,←hX];exact ⟨rfl,nX,hg4⟩
namespace aH
theorem F3 {f:Nat→Bool}{len i:Nat}(h:i<len) (hf:f i=true):i<dD f len i:=by
 rw [gU h hf];exact kZ f len (i+1)
theorem vw {P:List Pt}{i:Nat}(h:dQ P i=true):i<eZ P i∧eZ P i≤P.length:=by
 have hl:=zG h
 exact ⟨F3 hl (by simp [h]),(Aa _ P.length i (by omega)).2⟩
theorem KW (P:List Pt):∀n i v,(nU P n i v false).2.1=false:=by
 intro n
 induction n with
 |zero=>intro i v;rfl
 |succ n ih=>intro i v;rw [nU];split<;>simp [ih]
theorem KX {P:List Pt}{i:Nat}(_hi:i<P.length) (h:(iA P i).2.1=true):i<(iA P i).2.2∧(iA P i).2.2≤P.length:=by
 unfold iA at h⊢
 cases hd:dn P (bK P i)with
 |false=>rw [hd]at h;unfold num at h;rw [KW]at h;cases h
 |true=>
  have hl:=zF hd
  have h1:i≤bK P i:=by unfold bK;split<;>omega
  rw [oW hd]
  have:=zH P (P.length - (bK P i+1)) (bK P i+1) (min (0*10+(mR P (bK P i) - 48)) 1099511627776) (true&&decide (0*10+(mR P (bK P i) - 48)≤1099511627776))
  unfold num
  omega
theorem TD (s:ByteArray) (n:Nat) (h:Cv s n=true):(n:Int)<sV s n:=by
 unfold Cv at h
 unfold sV
 unfold dz at h⊢
 split at h
 · rename_i hc
   rw [if_pos hc]
   cases hu:lQ (s.data.toList.drop ((n:Int).toNat+1))with
   |none=>rw [hu]at h;cases h
   |some x=>simp only [Option.map_some];omega
 · cases h
theorem zK {s:ByteArray}{P:List Pt}{i:Nat}(hi:i<P.length) (h:(dF s P i).2.1=true):i<(dF s P i).2.2∧(dF s P i).2.2≤P.length:=by
 unfold dF at h⊢
 split
 · rename_i hl;exact vw hl
 · rename_i hl
   rw [if_neg hl]at h
   split
   · rename_i hd
     rw [if_pos hd]at h
     have:(iA P i).2.1=true:=by
      have h' :((iA P i).2.1&& !dQ P (iA P i).2.2)=true:=h
      rw [Bool.and_eq_true]at h';exact h'.1
     exact KX hi this
   · rename_i hd
     rw [if_neg hd]at h
     split
     · rename_i hq
       rw [if_pos hq]at h
       rw [qO]at h⊢
       simp only [Bool.and_eq_true]at h
       have hg:=TD s (aT s P i) h.1
       unfold bZ
       refine ⟨F3 hi ?_,(Aa _ P.length i (by omega)).2⟩
       have hb:aT s P i=P[i].at_:=by unfold aT;rw [List.getElem?_eq_getElem hi]
       simp only [List.getElem?_eq_getElem hi]
       exact decide_eq_true (by rw [←hb];exact hg)
     · rename_i hq
       rw [if_neg hq]at h
       split
       · show i<i+1∧i+1≤P.length;omega
       · rename_i hs
         rw [if_neg hs]at h;cases h
theorem vB {s:ByteArray}{P:List Pt}{n j:Nat}(h:P.length≤skip P j):dS s P (n+1) j= .ok []:=by rw [dS,if_pos h]
theorem F4 {s:ByteArray}{P:List Pt}{n j:Nat}(h:skip P j<P.length) (hb:(dF s P (skip P j)).2.1=false):dS s P (n+1) j= .error (skip P j):=by
 rw [dS,if_neg (by omega),if_neg (by rw [hb];decide)]
theorem En {s:ByteArray}{P:List Pt}{n j:Nat}(h:skip P j<P.length) (hb:(dF s P (skip P j)).2.1=true):dS s P (n+1) j=(dS s P n (dF s P (skip P j)).2.2).map ((dF s P (skip P j)).1:: ·):=by
 rw [dS,if_neg (by omega),if_pos hb]
theorem yJ (P:List Pt):∀n i,i≤P.length→iL P n i≤P.length:=by
 intro n
 induction n with
 |zero=>intro i h;exact h
 |succ n ih=>
  intro i h
  rw [iL]
  split
  · exact h
  · split
    · exact ih (i+1) (by omega)
    · split
      · rename_i hd;exact ih _ (iV hd).2
      · exact h
theorem Jd {s:ByteArray}{P:List Pt}{n m j:Nat}{done:List Tk}{R:Except Nat (List Tk)}(h:R=(dS s P (n+1) j).map (done++ ·)) (h1:skip P j<P.length) (hb:(dF s P (skip P j)).2.1=true) (hm:m=(dF s P (skip P j)).2.2):
 R=(dS s P n m).map ((done++ [(dF s P (skip P j)).1])++ ·):=by
 rw [h,En h1 hb,hm]
 cases dS s P n (dF s P (skip P j)).2.2 with
 |error a=>rfl
 |ok l=>simp [Except.map]
theorem PG (s:ByteArray) (P:List Pt):∀n i l,dS s P n i= .ok l→l.length≤n:=by
 intro n
 induction n with
 |zero=>intro i l h;rw [dS]at h;cases h;exact Nat.le_refl _
 |succ n ih=>
  intro i l h
  rw [dS]at h
  split at h
  · cases h;exact Nat.zero_le _
  · split at h
    · cases hx:dS s P n (dF s P (skip P i)).2.2 with
      |error a=>rw [hx]at h;cases h
      |ok m=>
       rw [hx]at h
       have:=ih _ _ hx
       have e:l=(dF s P (skip P i)).1::m:=by cases h;rfl
       rw [e,List.length_cons];omega
    · cases h
theorem PI (s:ByteArray):(aX s).1.length≤s.size+1:=by
 unfold aX
 split
 · exact Nat.zero_le _
 · have hp:=(CY s).1
   split
   · rename_i l h
     have:=PG s (pts s) _ _ _ h
     show l.length≤_;omega
   · exact Nat.zero_le _
end aH
end Go.Proofs.YtfbgdjcnlnfoaaaGreatDoor
