/- Parts of a proof. -/
import Derived.Lib.LaidTab
import Derived.Test.YtcgadodckoalnaaGreatDoorB06
import Derived.Test.YtcgadodckoalnaaGreatDoorB09
import Derived.Test.YtcgadodckoalnaaGreatDoorB38
set_option maxHeartbeats 8000000
set_option maxRecDepth 100000
namespace Go.Proofs.YtcgadodckoalnaaGreatDoor
open Go.Proofs.Tryz
open Go.RowKit
open aN
theorem OM {w:World}{p:Pw}{L:List Pw}(h:zQ w p L) (hl:rC ⟨p.x,L.map Pw.x⟩=false):
 Calls prog 7 #[.agg p.arr] w fun e w' =>e= .returned (.bool false)∧Below w.heap.size w w' :=by
 have hB1:=(Below.refl w.heap.size w).alloc (Nat.le_refl _) (.cells p.arr 31);have hbl:(w.alloc (.cells p.arr 31)).heap[w.heap.size]? =some (.cells p.arr 31 (0,0)):=aA w _;have hc:=Io (h.below hB1);rw [hl]at hc;clear h hl;obtain ⟨x,tc,c,s,wv,pv⟩:=p;go_enter func7,ntmps7;go_wp2_with (refine aT rfl _ rfl rfl rfl hbl ?_);refine hc.mono ?_;rintro e w2 ⟨rfl,hb2⟩;go_wp2_with fail;go_ret;exact ⟨rfl,hB1.trans (hb2.mono hB1.size)⟩
theorem OO {w:World}{p:Pw}{L:List Pw}(hG:Gp w) (h:zQ w p L) (hs:Wx p L) (hl:rC ⟨p.x,L.map Pw.x⟩=true):
 Calls prog 7 #[.agg p.arr] w fun e w' =>∃b:Bool,e= .returned (.bool b)∧(b=true ↔ May ⟨p.x,L.map Pw.x⟩)∧Below w.heap.size w w' :=by
 have hB1:=(Below.refl w.heap.size w).alloc (Nat.le_refl _) (.cells p.arr 31);have hbl:(w.alloc (.cells p.arr 31)).heap[w.heap.size]? =some (.cells p.arr 31 (0,0)):=aA w _;have hc:=Io (h.below hB1);rw [hl]at hc;have hLg:=yJ hl;have Zp:L.length≤100:=by have:=hLg.2.1;simp at this;omega
 have HT:Hid (∀w',Below w.heap.size w w' →Calls prog 14 #[.agg p.arr] w' fun e w'' =>e= .returned (.string (eO ⟨p.x,L.map Pw.x⟩))∧Below w'.heap.size w' w''):=fun w' hb=>Kt (hG.below hb) (h.below hb) hs Zp
 have HP:Hid (∀w',Below w.heap.size w w' →Calls prog 12 #[.string (eO ⟨p.x,L.map Pw.x⟩)] w' (pU w' (eO ⟨p.x,L.map Pw.x⟩))):=fun w' hb=>Ky _ w' (hG.below hb)
 have HM:=Lib.hid (aaL (z:=⟨p.x,L.map Pw.x⟩));have HS:Hid (∀w',Below w.heap.size w w' →zQ w' p L):=fun w' hb=>h.below hb
 obtain ⟨t,ht⟩:∃t,eO ⟨p.x,L.map Pw.x⟩=t:=⟨_,rfl⟩;rw [ht]at HT HP HM;clear h hl hs ht hG Zp;have HG2:=Lib.hid hLg;clear hLg;unfold pU at HP;obtain ⟨⟨pz,pa,pe⟩,hp⟩:∃r,bE t=r:=⟨_,rfl⟩;rw [hp]at HP HM
 have HZ:Hid (pe=0→May pz):=fun he=>by
  have he' :pe=0:=he;subst he';exact rA hp
 clear hp;obtain ⟨x,tc,c,s,wv,pv⟩:=p;go_enter func7,ntmps7;go_wp2_with (refine aT rfl _ rfl rfl rfl hbl ?_);refine hc.mono ?_;rintro e w2 ⟨rfl,hb2⟩;have hB2:=hB1.trans (hb2.mono hB1.size);have qb:=bL hb2 hbl;have h2:=HT.out w2 hB2;go_wp2_with (refine aT rfl _ rfl rfl rfl qb ?_);refine h2.mono ?_;rintro e w3 ⟨rfl,hb3⟩;have hB3:=hB2.trans (hb3.mono hB2.size);have aex:=bL hb3 qb;have h3:=HP.out w3 hB3;go_wp2_with fail;refine h3.mono ?_;rintro e w4 ⟨⟨qx,wW,qc,qs,wX,wT⟩,M,rfl,hb4,hS⟩;have hB4:=hB3.trans (hb4.mono hB3.size);have aey:=bL hb4 aex;have hq1:=hS.wd.one;have AA:=hB4.alloc hB4.size (.cells (aG qx wW qc qs wX wT) 31);have UF:=uY aey (.cells (aG qx wW qc qs wX wT) 31);have hbq:(w4.alloc (.cells (aG qx wW qc qs wX wT) 31)).heap[w4.heap.size]? =some (.cells (aG qx wW qc qs wX wT) 31 (0,0)):=aA w4 _;have HSz:=Lib.hid hS.z;cases hz:(pe==0)with
 |false=>
  have HE:Hid (¬pe=0):=by
   intro h;have h' :pe=0:=h;rw [h']at hz;exact absurd hz (by decide)
  clear hS hc h2 h3;go_wp2_with (refine fA rfl _ _ rfl rfl rfl rfl rfl hq1 ?_);go_ret;exact ⟨false,rfl,⟨fun h=>absurd h (by decide),fun h=>absurd (HM.out.1 h).1 HE.out⟩,AA⟩
 |true=>
  have HE:Hid (pe=0):=eq_of_beq hz;have h5:=Ri (w:=w4.alloc (.cells (aG qx wW qc qs wX wT) 31)) (HS.out _ AA) (hS.wd.below ((Below.refl w4.heap.size w4).alloc (Nat.le_refl _) _)) (OB HG2.out) (by rw [hS.z];exact Zd (HZ.out HE.out));clear hS hc h2 h3;go_wp2_with (first|refine fA rfl _ _ rfl rfl rfl rfl rfl hq1 ?_|refine rR (by go_simp) _ rfl rfl rfl UF ?_|refine rR (by go_simp) _ rfl rfl rfl hbq ?_);refine h5.mono ?_;rintro e w6 ⟨b,rfl,hb,hb6⟩;go_wp2_with fail;go_ret;refine ⟨b,rfl, ?_,AA.trans (hb6.mono AA.size)⟩;rw [hb,HSz.out];exact ⟨fun h=>HM.out.2 ⟨HE.out,h⟩,fun h=>(HM.out.1 h).2⟩
theorem uZ {w:World}{p:Pw}{L:List Pw}(hG:Gp w) (h:zQ w p L) (hs:Wx p L):
 Calls prog 7 #[.agg p.arr] w fun e w' =>∃b:Bool,e= .returned (.bool b)∧(b=true ↔ May ⟨p.x,L.map Pw.x⟩)∧Below w.heap.size w w' :=by
 cases hl:rC ⟨p.x,L.map Pw.x⟩with
 |true=>exact OO hG h hs hl
 |false=>
  refine (OM h hl).mono ?_;rintro e w' ⟨rfl,hb⟩;refine ⟨false,rfl,⟨fun h=>absurd h (by decide),fun h=> ?_⟩,hb⟩;have:=Ag h;rw [hl]at this;exact absurd this (by decide)
theorem Kz {w:World}{p:Pw}{L:List Pw}(hG:Gp w) (h:zQ w p L) (hs:Wx p L) (hm:May ⟨p.x,L.map Pw.x⟩):
 Calls prog 10 #[.agg p.arr] w fun e w' =>e= .returned (.string (eO ⟨p.x,L.map Pw.x⟩))∧Below w.heap.size w w' :=by
 have hB1:=(Below.refl w.heap.size w).alloc (Nat.le_refl _) (.cells p.arr 31);have hbl:(w.alloc (.cells p.arr 31)).heap[w.heap.size]? =some (.cells p.arr 31 (0,0)):=aA w _;have hc:=uZ (hG.below hB1) (h.below hB1) hs;have Zp:L.length≤100:=by have:=(yJ (Ag hm)).2.1;simp at this;omega
 have HT:Hid (∀w',Below w.heap.size w w' →Calls prog 14 #[.agg p.arr] w' fun e w'' =>e= .returned (.string (eO ⟨p.x,L.map Pw.x⟩))∧Below w'.heap.size w' w''):=fun w' hb=>Kt (hG.below hb) (h.below hb) hs Zp
 have HM:=Lib.hid hm;clear hm h hs Zp;obtain ⟨x,tc,c,s,wv,pv⟩:=p;go_enter func10,ntmps10;go_wp2_with (refine aT rfl _ rfl rfl rfl hbl ?_);refine hc.mono ?_;rintro e w2 ⟨b,rfl,hb,hb2⟩;have hbt:=hb.2 HM.out;subst hbt;have hB2:=hB1.trans (hb2.mono hB1.size);have qb:=bL hb2 hbl;have h2:=HT.out w2 hB2;clear hb hc;go_wp2_with (refine aT rfl _ rfl rfl rfl qb ?_);refine h2.mono ?_;rintro e w3 ⟨rfl,hb3⟩;go_wp2_with fail;go_ret;exact ⟨rfl,hB2.trans (hb3.mono hB2.size)⟩
theorem Zq {w:World}{p:Pw}{L:List Pw}(hG:Gp w) (h:zQ w p L) (hs:Wx p L) (hm:¬May ⟨p.x,L.map Pw.x⟩):
 Calls prog 10 #[.agg p.arr] w fun e w' =>e= .returned (.string ⟨#[]⟩)∧Below w.heap.size w w' :=by
 have hB1:=(Below.refl w.heap.size w).alloc (Nat.le_refl _) (.cells p.arr 31);have hbl:(w.alloc (.cells p.arr 31)).heap[w.heap.size]? =some (.cells p.arr 31 (0,0)):=aA w _;have hc:=uZ (hG.below hB1) (h.below hB1) hs;have HM:=Lib.hid hm;clear hm h hs;obtain ⟨x,tc,c,s,wv,pv⟩:=p;go_enter func10,ntmps10;go_wp2_with (refine aT rfl _ rfl rfl rfl hbl ?_);refine hc.mono ?_;rintro e w2 ⟨b,rfl,hb,hb2⟩
 have hbt:b=false:=by
  cases b with
  |false=>rfl
  |true=>exact absurd (hb.1 rfl) HM.out
 subst hbt;clear hb hc;go_wp2_with fail;go_ret;exact ⟨rfl,hB1.trans (hb2.mono hB1.size)⟩
def Sp (w0 w:World):Prop:=Below w0.heap.size w0 w∧Gp w
theorem Sp.refl {w:World}(h:Gp w):Sp w w:=⟨Below.refl _ _,h⟩
theorem Sp.step {w0 w w' :World}(h:Sp w0 w) (hb:Below w.heap.size w w'):Sp w0 w' :=⟨h.1.trans (hb.mono h.1.size),h.2.below hb⟩
theorem Sp.alloc {w0 w:World}(h:Sp w0 w) (o:Obj):Sp w0 (w.alloc o):=h.step ((Below.refl _ _).alloc (Nat.le_refl _) o)
theorem Sp.trans {w0 w w' :World}(h:Sp w0 w) (hb:Sp w w'):Sp w0 w' :=⟨h.1.trans (hb.1.mono h.1.size),hb.2⟩
def Rj:ByteArray:=(⟨#[67,82,69,65,84,69,32,84,65,66,76,69,32,116,32,40,112,32,84,69,88,84,44,32,107,32,73,78,84,44,32,97,32,84,69,88,84,44,32,80,82,73,77,65,82,89,32,75,69,89,32,40,112,44,32,107,41,41]⟩:ah)
theorem abK:(bE Rj).2.1=0∧(bE Rj).2.2=0∧(bE Rj).1.x.part.name=(⟨#[112]⟩:ah)∧(bE Rj).1.x.aB.length=1:=by decide+kernel
theorem abL:(bE (⟨#[100,114,111,112,32,118]⟩:ah)).2.1=0∧(bE (⟨#[100,114,111,112,32,118]⟩:ah)).2.2=0∧(bE (⟨#[100,114,111,112,32,118]⟩:ah)).1.x.kind=4∧(bE (⟨#[100,114,111,112,32,118]⟩:ah)).1.x.name=(⟨#[118]⟩:ah):=by decide+kernel
theorem abM:(bE (⟨#[100,114,111,112,32,32,32,86,32,59]⟩:ah)).2.1=0∧(bE (⟨#[100,114,111,112,32,32,32,86,32,59]⟩:ah)).2.2=0∧eO (bE (⟨#[100,114,111,112,32,32,32,86,32,59]⟩:ah)).1=(⟨#[68,82,79,80,32,118]⟩:ah):=by decide+kernel
theorem IB {w:World}{s:ByteArray}{z:kD}{a e:Int}(hG:Gp w) (h1:(bE s).1=z) (h2:(bE s).2.1=a) (h3:(bE s).2.2=e):
 Calls prog 12 #[.string s] w fun en w' =>∃(x:Sx) (tc c s wv pv:Value) (L:List Pw),en= .returned (.tuple #[.agg (aG x tc c s wv pv), .int .i64 a, .int .i64 e])∧Below w.heap.size w w' ∧oq w' w.heap.size ⟨x,tc,c,s,wv,pv⟩ L z:=by
 subst h1 h2 h3;refine (Ky s w hG).mono ?_;rintro en w' ⟨⟨x,tc,c,s,wv,pv⟩,L,rfl,hb,hS⟩;exact ⟨x,tc,c,s,wv,pv,L,rfl,hb,hS⟩
theorem Zr {s:ByteArray}(h:(bE s).2.2=0):May (bE s).1:=rA (a:=(bE s).2.1) (by
 rw [←h])
theorem OP {w:World}(hG:Gp w):Calls prog 6 #[] w fun e w' =>e= .returned (.bool true)∧Sp w w' :=by
 obtain ⟨r1,r2,r3,r4⟩:=abL;obtain ⟨s1,s2,s3,s4⟩:=abK;have hm:=Lib.hid (Zr s2);obtain ⟨z,hz⟩:∃z,(bE (⟨#[100,114,111,112,32,118]⟩:ah)).1=z:=⟨_,rfl⟩;obtain ⟨y,hy⟩:∃y,(bE Rj).1=y:=⟨_,rfl⟩;have hp1:=IB hG hz r1 r2;have Zn:Hid (∀w',Gp w' →Calls prog 12 #[.string Rj] w' fun en w'' =>∃(x:Sx) (tc c s wv pv:Value) (L:List Pw),en= .returned (.tuple #[.agg (aG x tc c s wv pv), .int .i64 0, .int .i64 0])∧Below w'.heap.size w' w'' ∧oq w'' w'.heap.size ⟨x,tc,c,s,wv,pv⟩ L y):=fun w' hG' =>IB hG' hy s1 s2
 rw [hz]at r3 r4;rw [hy]at s3 s4 hm;have R3:=Lib.hid r3;have R4:=Lib.hid r4;have S3:=Lib.hid s3;have S4:=Lib.hid s4;have HG:=Lib.hid hG;unfold Rj at Zn;clear r1 r2 r3 r4 s1 s2 s3 s4 hz hy hG;go_enter func6,ntmps6;go_wp2_with fail;refine hp1.mono ?_;rintro en w1 ⟨x,tc,c,s,wv,pv,L,rfl,hb1,hS1⟩;have hS:Sp w w1:=(Sp.refl HG.out).step hb1;have hq1:=hS1.wd.one;have hx:x=z.x:=hS1.x;have hS2:=hS.alloc (.cells (aG x tc c s wv pv) 31);have hp2:=Zn.out _ hS2.2;have hk:x.kind=4:=by rw [hx];exact R3.out
 have hn:x.name=(⟨#[118]⟩:ah):=by rw [hx];exact R4.out
 have hbl:=aA w1 (.cells (aG x tc c s wv pv) 31);have HK:=Lib.hid hk;have HN:=Lib.hid hn;clear hx hS1 hk hn;go_wp2_with (refine fA rfl _ _ rfl rfl rfl rfl rfl hq1 ?_);refine hp2.mono ?_;rintro en w2 ⟨x2,VX,c2,s2,wv2,Z5,M,rfl,hb2,hT1⟩;have Fy:=hS2.step hb2;have hq2:=hT1.wd.one;have hx2:x2=y.x:=hT1.x;have hpn:x2.part.name=(⟨#[112]⟩:ah):=by rw [hx2];exact S3.out
 have htl:x2.aB.length=1:=by rw [hx2];exact S4.out
 have hM:May ⟨x2,M.map Pw.x⟩:=by rw [show (⟨x2,M.map Pw.x⟩:kD)=y from hT1.z];exact hm.out
 have qJ:=Fy.alloc (.cells (aG x2 VX c2 s2 wv2 Z5) 31);have hc:=uZ (w:=w2.alloc (.cells (aG x2 VX c2 s2 wv2 Z5) 31)) (p:=⟨x2,VX,c2,s2,wv2,Z5⟩) (L:=M) qJ.2 (hT1.wd.below ((Below.refl _ _).alloc (Nat.le_refl _) _)) (Ze hM);have hbx:=uY (bL hb2 hbl) (.cells (aG x2 VX c2 s2 wv2 Z5) 31);have hby:=aA w2 (.cells (aG x2 VX c2 s2 wv2 Z5) 31);obtain ⟨atc,ktc,htc,_⟩:=hT1.wd.st.tc;rw [htl]at htc;have aiJ:VX= .slice atc 1 ktc:=htc;have aiK:=Lib.hid hM;clear hM htc htl hT1 hx2 hb2 hb1;subst aiJ;obtain ⟨c0,c1,c2',c3,c4,c5,c6,c7,c8,c9,c10,c11,c12,c13,c14,c15,c16,c17⟩:=aK hbx;obtain ⟨d0,d1,d2,d3,d4,d5,d6,d7,d8,d9,zm,uV,uU,qE,sS,sU,zR,yK⟩:=aK hby;rw [HK.out]at c0;rw [HN.out]at c1;rw [hpn]at d6;clear hpn hp1 hp2 hbl c2' c3 c4 c5 c6 c7 c8 c9 c10 c11 c12 c13 c14 c15 c16 c17 d0 d1 d2 d3 d4 d5 d7 d8 d9 uV uU qE sS sU zR yK;go_wp2_with (first|refine fA rfl _ _ rfl rfl rfl rfl rfl hq2 ?_|refine rR (by go_simp) _ rfl rfl rfl hby ?_);refine hc.mono ?_;rintro en w5 ⟨b,rfl,hb,hb5⟩;have hbt:=hb.2 aiK.out;subst hbt;clear hb;go_wp2_with fail;go_ret;exact ⟨rfl,qJ.step hb5⟩
theorem OQ {w:World}(hG:Gp w):Calls prog 9 #[] w fun e w' =>e= .returned (.bool true)∧Sp w w' :=by
 obtain ⟨r1,r2,r3⟩:=abM;have hm:=Lib.hid (Zr r2);obtain ⟨z,hz⟩:∃z,(bE (⟨#[100,114,111,112,32,32,32,86,32,59]⟩:ah)).1=z:=⟨_,rfl⟩;have hp1:=IB hG hz r1 r2;rw [hz]at r3 hm;have R3:=Lib.hid r3;have HG:=Lib.hid hG;clear r1 r2 r3 hz hG;go_enter func9,ntmps9;go_wp2_with fail;refine hp1.mono ?_;rintro en w1 ⟨x,tc,c,s,wv,pv,L,rfl,hb1,hS1⟩;have hS:Sp w w1:=(Sp.refl HG.out).step hb1;have hq1:=hS1.wd.one;have hS2:=hS.alloc (.cells (aG x tc c s wv pv) 31);have hM:May ⟨x,L.map Pw.x⟩:=by rw [show (⟨x,L.map Pw.x⟩:kD)=z from hS1.z];exact hm.out
 have ht:=Kz (w:=w1.alloc (.cells (aG x tc c s wv pv) 31)) (p:=⟨x,tc,c,s,wv,pv⟩) (L:=L) hS2.2 (hS1.wd.below ((Below.refl _ _).alloc (Nat.le_refl _) _)) (Ze hM) hM;rw [show (⟨x,L.map Pw.x⟩:kD)=z from hS1.z,R3.out]at ht;have hbl:=aA w1 (.cells (aG x tc c s wv pv) 31);clear hS1 hM hb1 hp1;go_wp2_with (first|refine fA rfl _ _ rfl rfl rfl rfl rfl hq1 ?_|refine rR (by go_simp) _ rfl rfl rfl hbl ?_);refine ht.mono ?_;rintro en w5 ⟨rfl,hb5⟩;go_wp2_with fail;go_ret;exact ⟨rfl,hS2.step hb5⟩
open Go.ChangeShapes Go.WideShapes Go.ChangeAt Go.RowKit Go.Shelf
def OT:List (String×DataW Unit):= [("math/bits.deBruijn32tab",Rows.laid_math_bits_deBruijn32tab),("math/bits.deBruijn64tab",Rows.laid_math_bits_deBruijn64tab),("internal/strconv.uint64pow10",Rows.laid_internal_strconv_uint64pow10),("unicode/utf8.acceptRanges",Rows.laid_unicode_utf8_acceptRanges),("unicode.White_Space",Rows.laid_unicode_White_Space),("strings.asciiSpace",Rows.laid_strings_asciiSpace),("unicode/utf8.first",Rows.laid_unicode_utf8_first)]
def SX:DataW Unit→List Value
 | .agg l=>l.map fun| .lit (.int k z)=> .int k z|_=>undef
 |_=> []
noncomputable def rV (os:Os):World:=
 let N:=(World.settled prog os).heap.size
 let w0:=World.holding prog os ⟨#[.cells (Lib.whiteT.map fun (z:Nat)=>Value.int .u16 (z:Int)).toArray 206, .cells #[.slice (some ⟨N,0,none⟩) 7 7, .slice none 0 0, .int .i64 2] 203], #[], []⟩
 let put (h:Array Obj) (g:Nat) (cs:Array Value):Array Obj:=h.modify g fun
  | .cells _ t frozen=> .cells cs t frozen
  |o=>o
 let h1:=put w0.heap 0 (Lib.firstTab.map fun z=>Value.int .u8 z).toArray
 let h2:=put h1 1 ((List.range 16).flatMap fun i=> [Value.int .u8 (Lib.accLo i),Value.int .u8 (Lib.accHi i)]).toArray
 let h3:=put h2 2 (SX Rows.laid_strings_asciiSpace).toArray
 let h4:=put h3 3 (SX Rows.laid_internal_strconv_uint64pow10).toArray
 let h5:=put h4 6 (SX Rows.laid_math_bits_deBruijn32tab).toArray
 let h6:=put h5 7 (SX Rows.laid_math_bits_deBruijn64tab).toArray
 let h7:=put h6 4 #[.pointer (some ⟨N+1,0,none⟩)]
 {w0 with heap:=h7}
theorem KA (os:Os) (args:Array Value):laidMetH prog OT ((rV os).forCall (fun _ _=>0) ⟨#[],args, []⟩).memory:=by
 rw [MakeChecks.laidMetH_plain _ _ _ (by kernel_rfl)];exact (LaidIn.of_run (l:=OT) [6,7,3,1,4,2,0,(World.settled prog default).heap.size,(World.settled prog default).heap.size+1] 10 (by kernel_rfl) (by kernel_rfl) (by kernel_rfl) (by kernel_rfl)).met
theorem Rk:(Rows.laid_strings_asciiSpace:DataW Unit)=Lib.tabData .u8 Lib.asciiSpaceTab:=by kernel_rfl
theorem Rl:(Rows.laid_internal_strconv_uint64pow10:DataW Unit)=Lib.tabData .u64 Lib.pow10Tab:=by kernel_rfl
theorem yM {P:Program}{W:World}{name:String}{k:IntKind}{zs:List Int}{g:Nat}{t e:TypeId}{n:Nat}
 (hg:P.globalNamed name=some g) (hty:(P.globals[g]?).map (·.type)=some t) (ht:P.underlying t=some (.array n e)) (he:P.underlying e=some (.int k)) (hce:P.cellsOf e=1) (hct:P.cellsOf t=n)
 (h:Lib.VarReads P W name (Lib.tabData k zs)):Lib.TabIs P W name k zs:=by
 obtain ⟨g',t',cs,fuel,p,hg',ht',hvar,hd⟩:=h;obtain rfl:=Option.some.inj (hg.symm.trans hg');obtain rfl:=Option.some.inj (hty.symm.trans ht');unfold Lib.TabIs;rw [hvar,←Lib.cells_of_tab ht he hce hct hd]
theorem acn {W:World}(hL:laidMetH prog OT W) (hsh:W.ShapedOpen prog):Gp W:=by
 rw [MakeChecks.laidMetH_plain _ _ _ (by kernel_rfl)]at hL;have h1:=Lib.laidMet.reads hL (.tail _ (.tail _ (.tail _ (.head _))));have h2:=Lib.laidMet.reads hL (.tail _ (.tail _ (.tail _ (.tail _ (.tail _ (.tail _ (.head _)))))));have h3:=Lib.laidMet.reads hL (.tail _ (.tail _ (.tail _ (.tail _ (.tail _ (.head _))))));have h4:=Lib.laidMet.reads hL (.tail _ (.tail _ (.head _)));rw [Qm]at h2;rw [NI]at h1;rw [Rk]at h3;rw [Rl]at h4;have L:={Tryz.Sn with:Lays.n260 prog Tryz.Ez};refine ⟨⟨utf8Tabs_of_readsT (U8Types.of260 L) ⟨by kernel_rfl,by kernel_rfl,by kernel_rfl,by kernel_rfl,by kernel_rfl,by kernel_rfl,by kernel_rfl⟩ h2 h1, ?_⟩, ?_, ?_⟩
 · first|exact trivial|exact cell_of_shapedOpen_int (zero:= #[.int .i64 0]) (t:=3) hsh (of_decide_eq_true (by kernel_rfl)) (by kernel_rfl) rfl (by kernel_rfl) (by kernel_rfl) underlying3
 · exact yM (n:=256) (e:=5) Tryz.Sz rfl (by kernel_rfl) (by kernel_rfl) (by kernel_rfl) (by kernel_rfl) h3
 · exact yM (n:=20) (e:=166) Tryz.SA rfl (by kernel_rfl) (by kernel_rfl) (by kernel_rfl) (by kernel_rfl) h4
end Go.Proofs.YtcgadodckoalnaaGreatDoor
