/- Parts of the proof, joined: PlainPL AwkA WrapZ. -/
import Derived.Lib.LaidTab
import Derived.Test.YtfbgdjcnlnfoaaaGreatDoorB01
import Derived.Test.YtfbgdjcnlnfoaaaGreatDoorB11
import Derived.Test.YtfbgdjcnlnfoaaaGreatDoorB13d
set_option maxHeartbeats 8000000
set_option maxRecDepth 100000
namespace Go.Proofs.YtfbgdjcnlnfoaaaGreatDoor
namespace aH
def OJ:Nat→List UInt8→List Pt
 |_, []=> []
 |a,c::l=>⟨c.toNat,a,1⟩::OJ (a+1) l
theorem DN (d:Nat):∀(l:List UInt8) (a:Nat),(OJ a l).map (Pt.shift d)=OJ (a+d) l
 | [],_=>rfl
 |c::l,a=>by
  rw [OJ,OJ,List.map_cons,DN d l,show a+d+1=a+1+d by omega];rfl
theorem L6:∀(l:List UInt8) (a:Nat),(OJ a l).length=l.length
 | [],_=>rfl
 |c::l,a=>by rw [OJ,List.length_cons,List.length_cons,L6 l]
theorem L8:∀(l:List UInt8) (a k:Nat) (h:k<l.length),(OJ a l)[k]? =some ⟨l[k].toNat,a+k,1⟩
 | [],_,k,h=>absurd h (by simp)
 |c::l,a,0,_=>rfl
 |c::l,a,k+1,h=>by
  rw [OJ,List.getElem?_cons_succ,L8 l (a+1) k (by simpa using h),List.getElem_cons_succ,show a+1+k=a+(k+1)by omega]
theorem zT:∀(l:List UInt8),(∀c∈l,c.toNat<128)→pts ⟨l.toArray⟩=OJ 0 l
 | [],_=>rfl
 |c::l,h=>by
  have hc:=h c (List.mem_cons_self ..)
  rw [rR,zD _ _ (kL c hc),vV c hc,zT l fun x hx=>h x (List.mem_cons_of_mem _ hx)]
  rw [DN,OJ];rfl
theorem yg {l:List UInt8}(h:∀c∈l,c.toNat<128):(pts ⟨l.toArray⟩).length=l.length:=by
 rw [zT l h,L6]
theorem IL {l:List UInt8}(h:∀c∈l,97≤c.toNat∧c.toNat≤122) (k:Nat) (hk:k<l.length):dQ (pts ⟨l.toArray⟩) k=true:=by
 have h1:∀c∈l,c.toNat<128:=fun c hc=>by have:=h c hc;omega
 have h2:=h l[k] (List.getElem_mem hk)
 unfold dQ
 rw [zT l h1,L8 l 0 k hk]
 simp only [Pt.ok,kT,Bool.and_eq_true,Bool.or_eq_true,bne_iff_ne,ne_eq,beq_iff_eq,decide_eq_true_eq]
 omega
theorem OL {l:List UInt8}(h:∀c∈l,c.toNat<128):valid ⟨l.toArray⟩=true:=by
 unfold valid
 rw [zT l h]
 have:∀(l:List UInt8),(∀c∈l,c.toNat<128)→∀a,(OJ a l).all Pt.ok=true:=by
  intro l
  induction l with
  |nil=>intro _ _;rfl
  |cons c l ih=>
   intro h a
   rw [OJ,List.all_cons,ih (fun x hx=>h x (List.mem_cons_of_mem _ hx)),Bool.and_true]
   have:=h c (List.mem_cons_self ..)
   simp only [Pt.ok,Bool.or_eq_true,bne_iff_ne,ne_eq,decide_eq_true_eq]
   omega
 exact this l h 0
theorem OM {l:List UInt8}(h:∀c∈l,97≤c.toNat∧c.toNat≤122) (hne:l≠ []):jQ ⟨l.toArray⟩=true:=by
 have h1:∀c∈l,c.toNat<128:=fun c hc=>by have:=h c hc;omega
 unfold jQ
 rw [IL h 0 (List.length_pos_iff.2 hne),OL h1,Bool.true_and,Bool.and_true,List.all_eq_true]
 intro k hk
 rw [List.mem_range,yg h1]at hk
 rw [IL h k hk,Bool.true_or]
theorem Sg {l:List UInt8}(h:∀c∈l,97≤c.toNat∧c.toNat≤122):fold ⟨l.toArray⟩=⟨l.toArray⟩:=by
 unfold fold
 apply ByteArray.ext
 apply Array.ext'
 rw [Array.toList_map]
 refine (List.map_congr_left fun c hc=> ?_).trans (List.map_id _)
 have h1:=h c hc
 show qC c=c
 unfold qC
 rw [if_neg]
 intro h2
 have:c.toNat≤90:=h2.2
 omega
def rare:List UInt8:= [113,120,122,106,118,119,121,107]
theorem IQ {c:UInt8}(h:c∈rare):97≤c.toNat∧c.toNat≤122:=by
 have:rare.all (fun c=>decide (97≤c.toNat∧c.toNat≤122))=true:=by decide
 exact of_decide_eq_true (List.all_eq_true.1 this c h)
theorem Si:Af.all (fun w=>w.data.toList.any fun c=> !rare.contains c)=true:=by decide+kernel
theorem OO {l:List UInt8}(h:∀c∈l,c∈rare) (hne:l≠ []) (hl:l.length≤100):bH ⟨l.toArray⟩:=by
 have h1:∀c∈l,97≤c.toNat∧c.toNat≤122:=fun c hc=>IQ (h c hc)
 refine ⟨OM h1 hne,Sg h1,hl, ?_⟩
 rw [Bool.eq_false_iff]
 intro hr
 have h2:=List.all_eq_true.1 Si _ (jI.1 hr)
 obtain ⟨c,hc,h3⟩:=List.any_eq_true.1 h2
 rw [Bool.not_eq_true',←Bool.not_eq_true,List.contains_iff_mem]at h3
 exact h3 (h c hc)
theorem Vp {X:Tx}(n:Nat) {σ:Ps}{nm:ByteArray}{R:List To}(h:gL X σ (aR (⟨#[100,114,111,112]⟩:ByteArray)::dW nm::R)) (hn:bH nm):gL X (X.iq (n+1) σ).2 R:=by
 have hs:∀s,X.sees σ s=iW (⟨#[100,114,111,112]⟩:ByteArray) s:=fun s=>by rw [h.sees,aQ]
 rw [Tx.iq,hs,hs,hs,hs,hs,hs]
 rw [if_neg (by decide),if_neg (by decide),if_neg (by decide),if_neg (by decide),if_neg (by decide),if_pos (by decide)]
 exact (gX h.step hn).2
theorem IU {X:Tx}{nm:ByteArray}{t:To}(hF:X.F= [aR (⟨#[100,114,111,112]⟩:ByteArray),dW nm,t]) (hn:bH nm) (_ht:t.1=1) (ht2:jQ t.2.1=true) {A:List Tk}{u:Tk}(hT:X.T=A++ [u]):(iX X).2.bad=some u.at_:=by
 have h0:gL X ⟨0,none⟩ (aR (⟨#[100,114,111,112]⟩:ByteArray)::dW nm:: [t]):=⟨rfl,by rw [List.drop_zero];exact hF⟩
 have h1:=Vp (X.T.length+1) h0 hn
 unfold iX
 simp only
 obtain ⟨σ,hσ⟩:∃r,(X.iq (X.T.length+2) ⟨0,none⟩).2=r:=⟨_,rfl⟩
 rw [show X.T.length+1+1=X.T.length+2 from rfl]at h1
 rw [hσ]at h1⊢
 have hmay:X.may σ (⟨#[59]⟩:ByteArray)=σ:=by
  refine if_neg ?_
  rw [h1.sees,Bool.not_eq_true]
  unfold jD
  simp only
  rw [Bool.and_eq_false_iff]
  right
  rw [Bool.eq_false_iff]
  intro hb
  have:=uD ht2
  rw [dY.1 hb]at this
  exact absurd this (by decide)
 rw [hmay]
 have hl:σ.i<X.T.length:=by
  have:=h1.2
  have hlen:(X.F.drop σ.i).length=1:=by rw [this];rfl
  rw [List.length_drop]at hlen
  unfold Tx.F at hlen
  rw [List.length_map]at hlen
  omega
 rw [if_pos hl]
 unfold Tx.fail Ps.wrong
 rw [h1.1]
 simp only
 rw [h1.here hT rfl]
theorem YD {l:List UInt8}{w:ByteArray}(h:∀c∈l,c∈rare) (hne:l≠ []) (hl:l.length≤100) (hw:jQ w=true) (hs:w.size≤100):
 bB ((⟨#[68,82,79,80,32]⟩:ByteArray)++⟨l.toArray⟩++(⟨#[32]⟩:ByteArray)++w)=(jT.zero,((6+l.length:Nat):Int),3):=by
 have hn:=OO h hne hl
 have hlow:∀c∈l,c.toNat<128:=fun c hc=>by have:=IQ (h c hc);omega
 have e:(⟨#[68,82,79,80,32]⟩:ByteArray)++⟨l.toArray⟩++(⟨#[32]⟩:ByteArray)++w=aG [.wd (⟨#[68,82,79,80]⟩:ByteArray), .bl, .wd ⟨l.toArray⟩, .bl, .wd w]:=by
  apply ByteArray.ext
  apply Array.ext'
  simp [aG,Pc.text]
 have hok:∀p∈ [Pc.wd (⟨#[68,82,79,80]⟩:ByteArray), .bl, .wd ⟨l.toArray⟩, .bl, .wd w],p.ok:=av Lj (av bL (av (fQ hn) (av bL (av (gF hw hs) dX))))
 have hx:=LH _ false hok rfl
 have hsz:(aG [.wd (⟨#[68,82,79,80]⟩:ByteArray), .bl, .wd ⟨l.toArray⟩, .bl, .wd w]).size≤1000:=by
  rw [←e]
  simp only [ByteArray.size_append]
  show 5+l.length+1+w.size≤1000
  omega
 rw [e]
 unfold bB
 rw [hx.aX hsz]
 simp only
 rw [if_neg (by decide)]
 have hp:=IU (X:=⟨lM [.wd (⟨#[68,82,79,80]⟩:ByteArray), .bl, .wd ⟨l.toArray⟩, .bl, .wd w] 0,(pts (aG [.wd (⟨#[68,82,79,80]⟩:ByteArray), .bl, .wd ⟨l.toArray⟩, .bl, .wd w])).length⟩) (nm:=⟨l.toArray⟩) (t:=(1,fold w,0))
  (by
   show (lM _ 0).map Tk.fo=_
   rw [Iy,aZ,aZ,aZ,aZ,aZ,Ld,dI hn]
   rfl) hn rfl (by rw [Bz];exact hw) (A:= [⟨1,fold (⟨#[68,82,79,80]⟩:ByteArray),0,0⟩,⟨1,fold ⟨l.toArray⟩,0,5⟩]) (u:=⟨1,fold w,0,5+(pts ⟨l.toArray⟩).length+1⟩)
  (by
   have hd:(pts (⟨#[68,82,79,80]⟩:ByteArray)).length=4:=yg (l:= [68,82,79,80]) (by decide)
   show _::_::_::_=_::_::_::_
   simp only [Pc.wid,hd]
   rfl)
 rw [hp]
 simp only
 rw [yg hlow,show 5+l.length+1=6+l.length by omega]
def L9:List ByteArray:= [(⟨#[115,101,108,101,99,116]⟩:ByteArray),(⟨#[70,82,79,77]⟩:ByteArray),(⟨#[84,97,98,108,101]⟩:ByteArray),(⟨#[105,110,116]⟩:ByteArray),(⟨#[116,101,120,116]⟩:ByteArray),(⟨#[116,116,108]⟩:ByteArray),(⟨#[98,97,116,99,104]⟩:ByteArray),(⟨#[97,112,112,108,121]⟩:ByteArray),(⟨#[107,101,121]⟩:ByteArray),(⟨#[97,110,100]⟩:ByteArray),(⟨#[105,115]⟩:ByteArray),(⟨#[110,111,116]⟩:ByteArray)]
theorem YE:L9.all (fun w=>decide ((bB ((⟨#[68,82,79,80,32]⟩:ByteArray)++w)).2=(5,3)))=true:=by decide+kernel
theorem aae:L9.all (fun w=>jQ w&&decide (w.size≤100))=true:=by decide+kernel
end aH
open Go.RowKit
open aH
def Sp (w0 w:World):Prop:=Below w0.heap.size w0 w∧Gp w
theorem Sp.refl {w:World}(h:Gp w):Sp w w:=⟨Below.refl _ _,h⟩
theorem Sp.step {w0 w w' :World}(h:Sp w0 w) (hb:Below w.heap.size w w'):Sp w0 w' :=⟨h.1.trans (hb.mono h.1.size),h.2.below hb⟩
theorem Sp.alloc {w0 w:World}(h:Sp w0 w) (o:Obj):Sp w0 (w.alloc o):=h.step ((Below.refl _ _).alloc (Nat.le_refl _) o)
theorem Sp.trans {w0 w w' :World}(h:Sp w0 w) (hb:Sp w w'):Sp w0 w' :=⟨h.1.trans (hb.1.mono h.1.size),hb.2⟩
def Kw:ByteArray:=(⟨#[67,82,69,65,84,69,32,84,65,66,76,69,32,116,32,40,112,32,84,69,88,84,44,32,107,32,73,78,84,44,32,97,32,84,69,88,84,44,32,80,82,73,77,65,82,89,32,75,69,89,32,40,112,44,32,107,41,41]⟩:ByteArray)
theorem Vq:(bB Kw).2.1=0∧(bB Kw).2.2=0∧(bB Kw).1.x.part.name=(⟨#[112]⟩:ByteArray)∧(bB Kw).1.x.aN.length=1:=by decide+kernel
theorem Vr:(bB (⟨#[100,114,111,112,32,118]⟩:ByteArray)).2.1=0∧(bB (⟨#[100,114,111,112,32,118]⟩:ByteArray)).2.2=0∧(bB (⟨#[100,114,111,112,32,118]⟩:ByteArray)).1.x.kind=4∧(bB (⟨#[100,114,111,112,32,118]⟩:ByteArray)).1.x.name=(⟨#[118]⟩:ByteArray):=by decide+kernel
theorem wV {w:World}{s:ByteArray}{z:jT}{a e:Int}(hG:Gp w) (h1:(bB s).1=z) (h2:(bB s).2.1=a) (h3:(bB s).2.2=e):
 Calls Tryz.prog 18 #[.string s] w fun en w' =>∃(x:Sx) (tc c s wv pv:Value) (L:List Pw),en= .returned (.tuple #[.agg (aF x tc c s wv pv), .int .i64 a, .int .i64 e])∧Below w.heap.size w w' ∧nQ w' w.heap.size ⟨x,tc,c,s,wv,pv⟩ L z:=by
 subst h1 h2 h3
 refine (DL s w hG).mono ?_
 rintro en w' ⟨⟨x,tc,c,s,wv,pv⟩,L,rfl,hb,hS⟩
 exact ⟨x,tc,c,s,wv,pv,L,rfl,hb,hS⟩
theorem Sj {s:ByteArray}(h:(bB s).2.2=0):May (bB s).1:=uM (a:=(bB s).2.1) (by
 rw [←h])
theorem Wd {w:World}(hG:Gp w):Calls Tryz.prog 15 #[] w fun e w' =>e= .returned (.bool true)∧Sp w w' :=by
 obtain ⟨r1,r2,r3,r4⟩:=Vr
 obtain ⟨s1,s2,s3,s4⟩:=Vq
 have hm:=Lib.hid (Sj s2)
 obtain ⟨z,hz⟩:∃z,(bB (⟨#[100,114,111,112,32,118]⟩:ByteArray)).1=z:=⟨_,rfl⟩
 obtain ⟨y,hy⟩:∃y,(bB Kw).1=y:=⟨_,rfl⟩
 have hp1:=wV hG hz r1 r2
 have Sd:Hid (∀w',Gp w' →Calls Tryz.prog 18 #[.string Kw] w' fun en w'' =>∃(x:Sx) (tc c s wv pv:Value) (L:List Pw),en= .returned (.tuple #[.agg (aF x tc c s wv pv), .int .i64 0, .int .i64 0])∧Below w'.heap.size w' w'' ∧nQ w'' w'.heap.size ⟨x,tc,c,s,wv,pv⟩ L y):=fun w' hG' =>wV hG' hy s1 s2
 rw [hz]at r3 r4
 rw [hy]at s3 s4 hm
 have R3:=Lib.hid r3
 have R4:=Lib.hid r4
 have S3:=Lib.hid s3
 have S4:=Lib.hid s4
 have HG:=Lib.hid hG
 unfold Kw at Sd
 clear r1 r2 r3 r4 s1 s2 s3 s4 hz hy hG
 go_enter Tryz.func15,Tryz.ntmps15
 go_wp2_with fail
 refine hp1.mono ?_;rintro en w1 ⟨x,tc,c,s,wv,pv,L,rfl,hb1,hS1⟩
 have hS:Sp w w1:=(Sp.refl HG.out).step hb1
 have hq1:=hS1.wd.one
 have hx:x=z.x:=hS1.x
 have hS2:=hS.alloc (.cells (aF x tc c s wv pv) 31)
 have hp2:=Sd.out _ hS2.2
 have hk:x.kind=4:=by rw [hx];exact R3.out
 have hn:x.name=(⟨#[118]⟩:ByteArray):=by rw [hx];exact R4.out
 have hbl:=aB w1 (.cells (aF x tc c s wv pv) 31)
 have HK:=Lib.hid hk
 have HN:=Lib.hid hn
 clear hx hS1 hk hn
 go_wp2_with (refine fZ rfl _ _ rfl rfl rfl rfl rfl hq1 ?_)
 refine hp2.mono ?_;rintro en w2 ⟨x2,OP,c2,s2,wv2,O8,M,rfl,hb2,hT1⟩
 have Ej:=hS2.step hb2
 have hq2:=hT1.wd.one
 have hx2:x2=y.x:=hT1.x
 have hpn:x2.part.name=(⟨#[112]⟩:ByteArray):=by rw [hx2];exact S3.out
 have htl:x2.aN.length=1:=by rw [hx2];exact S4.out
 have hM:May ⟨x2,M.map Pw.x⟩:=by rw [show (⟨x2,M.map Pw.x⟩:jT)=y from hT1.z];exact hm.out
 have nX:=Ej.alloc (.cells (aF x2 OP c2 s2 wv2 O8) 31)
 have hc:=yc (w:=w2.alloc (.cells (aF x2 OP c2 s2 wv2 O8) 31)) (p:=⟨x2,OP,c2,s2,wv2,O8⟩) (L:=M) nX.2 (hT1.wd.below ((Below.refl _ _).alloc (Nat.le_refl _) _)) (FB hM)
 have hbx:=sP (aD hb2 hbl) (.cells (aF x2 OP c2 s2 wv2 O8) 31)
 have hby:=aB w2 (.cells (aF x2 OP c2 s2 wv2 O8) 31)
 obtain ⟨atc,ktc,htc,_⟩:=hT1.wd.st.tc
 rw [htl]at htc
 have Vo:OP= .slice atc 1 ktc:=htc
 have aci:=Lib.hid hM
 clear hM htc htl hT1 hx2 hb2 hb1
 subst Vo
 obtain ⟨c0,c1,c2',c3,c4,c5,c6,c7,c8,c9,c10,c11,c12,c13,c14,c15,c16,c17⟩:=aM hbx
 obtain ⟨d0,d1,d2,d3,d4,d5,d6,d7,d8,d9,fF,gJ,gI,fO,fU,fV,gQ,gP⟩:=aM hby
 rw [HK.out]at c0
 rw [HN.out]at c1
 rw [hpn]at d6
 clear hpn hp1 hp2 hbl c2' c3 c4 c5 c6 c7 c8 c9 c10 c11 c12 c13 c14 c15 c16 c17 d0 d1 d2 d3 d4 d5 d7 d8 d9 gJ gI fO fU fV gQ gP
 go_wp2_with (first|refine fZ rfl _ _ rfl rfl rfl rfl rfl hq2 ?_|refine ko (by go_simp) _ rfl rfl rfl hby ?_)
 refine hc.mono ?_;rintro en w5 ⟨b,rfl,hb,hb5⟩
 have hbt:=hb.2 aci.out
 subst hbt
 clear hb
 go_wp2_with fail
 go_ret
 exact ⟨rfl,nX.step hb5⟩
open Go.ChangeShapes Go.WideShapes Go.ChangeAt Go.RowKit Go.Shelf
def DR:List (String×DataW Unit):= [("math/bits.deBruijn32tab",Rows.laid_math_bits_deBruijn32tab),("math/bits.deBruijn64tab",Rows.laid_math_bits_deBruijn64tab),("internal/strconv.uint64pow10",Rows.laid_internal_strconv_uint64pow10),("unicode/utf8.acceptRanges",Rows.laid_unicode_utf8_acceptRanges),("unicode.White_Space",Rows.laid_unicode_White_Space),("strings.asciiSpace",Rows.laid_strings_asciiSpace),("unicode/utf8.first",Rows.laid_unicode_utf8_first)]
def Ma:DataW Unit→List Value
 | .agg l=>l.map fun| .lit (.int k z)=> .int k z|_=>undef
 |_=> []
noncomputable def Ca (os:Os):World:=
 let N:=(World.settled Tryz.prog os).heap.size
 let w0:=World.holding Tryz.prog os ⟨#[.cells (Lib.whiteT.map fun (z:Nat)=>Value.int .u16 (z:Int)).toArray 222, .cells #[.slice (some ⟨N,0,none⟩) 7 7, .slice none 0 0, .int .i64 2] 219], #[], []⟩
 let put (h:Array Obj) (g:Nat) (cs:Array Value):Array Obj:=h.modify g fun
  | .cells _ t frozen=> .cells cs t frozen
  |o=>o
 let h1:=put w0.heap 0 (Lib.firstTab.map fun z=>Value.int .u8 z).toArray
 let h2:=put h1 1 ((List.range 16).flatMap fun i=> [Value.int .u8 (Lib.accLo i),Value.int .u8 (Lib.accHi i)]).toArray
 let h3:=put h2 2 (Ma Rows.laid_strings_asciiSpace).toArray
 let h4:=put h3 3 (Ma Rows.laid_internal_strconv_uint64pow10).toArray
 let h5:=put h4 6 (Ma Rows.laid_math_bits_deBruijn32tab).toArray
 let h6:=put h5 7 (Ma Rows.laid_math_bits_deBruijn64tab).toArray
 let h7:=put h6 4 #[.pointer (some ⟨N+1,0,none⟩)]
 {w0 with heap:=h7}
theorem OQ (os:Os) (args:Array Value):laidMetH Tryz.prog DR ((Ca os).forCall (fun _ _=>0) ⟨#[],args, []⟩).memory:=by
 rw [MakeChecks.laidMetH_plain _ _ _ (by kernel_rfl)]
 exact (LaidIn.of_run (l:=DR) [6,7,3,1,4,2,0,(World.settled Tryz.prog default).heap.size,(World.settled Tryz.prog default).heap.size+1] 10 (by kernel_rfl) (by kernel_rfl) (by kernel_rfl) (by kernel_rfl)).met
theorem Ky:(Rows.laid_strings_asciiSpace:DataW Unit)=Lib.tabData .u8 Lib.asciiSpaceTab:=by kernel_rfl
theorem Kz:(Rows.laid_internal_strconv_uint64pow10:DataW Unit)=Lib.tabData .u64 Lib.pow10Tab:=by kernel_rfl
theorem su {P:Program}{W:World}{name:String}{k:IntKind}{zs:List Int}{g:Nat}{t e:TypeId}{n:Nat}
 (hg:P.globalNamed name=some g) (hty:(P.globals[g]?).map (·.type)=some t) (ht:P.underlying t=some (.array n e)) (he:P.underlying e=some (.int k)) (hce:P.cellsOf e=1) (hct:P.cellsOf t=n)
 (h:Lib.VarReads P W name (Lib.tabData k zs)):Lib.TabIs P W name k zs:=by
 obtain ⟨g',t',cs,fuel,p,hg',ht',hvar,hd⟩:=h
 obtain rfl:=Option.some.inj (hg.symm.trans hg')
 obtain rfl:=Option.some.inj (hty.symm.trans ht')
 unfold Lib.TabIs
 rw [hvar,←Lib.cells_of_tab ht he hce hct hd]
theorem aaf {W:World}(hL:laidMetH Tryz.prog DR W) (hsh:W.ShapedOpen Tryz.prog):Gp W:=by
 rw [MakeChecks.laidMetH_plain _ _ _ (by kernel_rfl)]at hL
 have h1:=Lib.laidMet.reads hL (.tail _ (.tail _ (.tail _ (.head _))))
 have h2:=Lib.laidMet.reads hL (.tail _ (.tail _ (.tail _ (.tail _ (.tail _ (.tail _ (.head _)))))))
 have h3:=Lib.laidMet.reads hL (.tail _ (.tail _ (.tail _ (.tail _ (.tail _ (.head _))))))
 have h4:=Lib.laidMet.reads hL (.tail _ (.tail _ (.head _)))
 rw [I8]at h2
 rw [FV]at h1
 rw [Ky]at h3
 rw [Kz]at h4
 have L:={Tryz.KP with:Lays.n260 Tryz.prog Tryz.yE}
 refine ⟨⟨utf8Tabs_of_readsT (U8Types.of260 L) ⟨by kernel_rfl,by kernel_rfl,by kernel_rfl,by kernel_rfl,by kernel_rfl,by kernel_rfl,by kernel_rfl⟩ h2 h1, ?_⟩, ?_, ?_⟩
 · first|exact trivial|exact cell_of_shapedOpen_int (zero:= #[.int .i64 0]) (t:=3) hsh (of_decide_eq_true (by kernel_rfl)) (by kernel_rfl) rfl (by kernel_rfl) (by kernel_rfl) Tryz.underlying3
 · exact su (n:=256) (e:=5) Tryz.KY rfl (by kernel_rfl) (by kernel_rfl) (by kernel_rfl) (by kernel_rfl) h3
 · exact su (n:=20) (e:=185) Tryz.KZ rfl (by kernel_rfl) (by kernel_rfl) (by kernel_rfl) (by kernel_rfl) h4
end Go.Proofs.YtfbgdjcnlnfoaaaGreatDoor
