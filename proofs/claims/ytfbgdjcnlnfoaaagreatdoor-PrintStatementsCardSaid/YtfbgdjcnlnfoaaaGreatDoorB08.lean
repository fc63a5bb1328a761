/- Parts of the proof, joined: PlainPE PlainPF PlainPG PlainV PlainW. -/
import Derived.Test.YtfbgdjcnlnfoaaaGreatDoorB07
namespace Go.Proofs.YtfbgdjcnlnfoaaaGreatDoor
namespace aH
inductive Pc where
 |wd (s:ByteArray)
 |sg (c:UInt8)
 |tx (v:ByteArray)
 |nm (v:Int)
 |bl
def Pc.text:Pc→ByteArray
 | .wd s=>s
 | .sg c=>⟨#[c]⟩
 | .tx v=>quote v
 | .nm v=>j4 v
 | .bl=>⟨#[32]⟩
def Pc.toks:Pc→List To
 | .wd s=> [(1,fold s,0)]
 | .sg c=> [(4,⟨#[c]⟩,0)]
 | .tx v=> [(3,v,0)]
 | .nm v=> [(2,⟨#[]⟩,v)]
 | .bl=> []
def Pc.ok:Pc→Prop
 | .wd s=>jQ s=true∧s.size≤100
 | .sg c=>c=40∨c=41∨c=44∨c=59∨c=61∨c=42
 | .tx v=>valid v=true∧v.size≤100
 | .nm v=> -1099511627776≤v∧v≤1099511627776
 | .bl=>True
def Pc.hard:Pc→Bool
 | .wd _=>true
 | .sg _=>false
 | .tx _=>true
 | .nm _=>true
 | .bl=>false
def aG:List Pc→ByteArray
 | []=>⟨#[]⟩
 |p::l=>p.text++aG l
def dU (l:List Pc):List To:=l.flatMap Pc.toks
def nb:Bool→List Pc→Bool
 |_, []=>true
 |h,p::l=> !(h&&p.hard)&&nb p.hard l
theorem bP (a b:List Pc):aG (a++b)=aG a++aG b:=by
 induction a with
 |nil=>show aG b=_;apply ByteArray.ext;simp [aG]
 |cons p a ih=>simp only [List.cons_append,aG,ih];rw [lZ]
theorem fM (a b:List Pc):dU (a++b)=dU a++dU b:=by simp [dU]
theorem aZ (p:Pc) (l:List Pc):dU (p::l)=p.toks++dU l:=by simp [dU]
def LxF (t:ByteArray) (L:List To):Prop:=∃T,Lx t T∧T.map Tk.fo=L
theorem GX (m:Nat) (T:List Tk):(T.map (Tk.on m)).map Tk.fo=T.map Tk.fo:=by
 rw [List.map_map];rfl
theorem l6 {l:List Pc}(hok:∀p∈l,p.ok) (h:nb true l=true):Stop (aG l)∧Xt (aG l):=by
 cases l with
 |nil=>exact ⟨QE,by unfold Xt;simp [aG]⟩
 |cons p l=>
  unfold nb at h
  cases p with
  |wd s=>exact absurd h (by simp [Pc.hard])
  |tx v=>exact absurd h (by simp [Pc.hard])
  |nm v=>exact absurd h (by simp [Pc.hard])
  |bl=>exact ⟨rF 32 (by decide) _,K9 32 (by decide) _⟩
  |sg c=>
   have hc:=hok (.sg c) (List.mem_cons_self ..)
   unfold Pc.ok at hc
   simp only at hc
   refine ⟨rF c ?_ _,K9 c ?_ _⟩
   · rcases hc with rfl|rfl|rfl|rfl|rfl|rfl<;>decide
   · rcases hc with rfl|rfl|rfl|rfl|rfl|rfl<;>decide
theorem zQ (h:Bool) (l:List Pc) (hn:nb h l=true):nb false l=true:=by
 cases l with
 |nil=>rfl
 |cons p l=>unfold nb at hn⊢;simp at hn⊢;exact hn.2
theorem Lb:∀(l:List Pc) (h:Bool),(∀p∈l,p.ok)→nb h l=true→LxF (aG l) (dU l)
 | [],_,_,_=>⟨[],Lx.nil,rfl⟩
 |p::l,h,hok,hn=>by
  have hok2:∀p∈l,p.ok:=fun q hq=>hok q (List.mem_cons_of_mem _ hq)
  have hp:=hok p (List.mem_cons_self ..)
  have hn2:nb p.hard l=true:=by unfold nb at hn;simp at hn;exact hn.2
  obtain ⟨T,hT,hF⟩:=Lb l p.hard hok2 hn2
  rw [aZ,←hF]
  cases p with
  |bl=>exact ⟨_,Lx.blank 32 (by decide) hT,by rw [GX];rfl⟩
  |sg c=>exact ⟨_,Lx.sign c hp hT,by rw [List.map_cons,GX];rfl⟩
  |wd s=>
   obtain ⟨h1,h2⟩:=l6 hok2 hn2
   exact ⟨_,Lx.word hp.1 h1 hp.2 hT,by rw [List.map_cons,GX];rfl⟩
  |tx v=>
   obtain ⟨h1,h2⟩:=l6 hok2 hn2
   exact ⟨_,Lx.text hp.1 hp.2 h2 hT,by rw [List.map_cons,GX];rfl⟩
  |nm v=>
   obtain ⟨h1,h2⟩:=l6 hok2 hn2
   obtain ⟨g1,g2⟩:=La v.natAbs
   unfold Pc.ok at hp
   simp only at hp
   have hv:=GV v.natAbs (by omega)
   have:=Lx.number (decide (v<0)) _ g1 g2 h1 _ hv hT
   refine ⟨_,this, ?_⟩
   rw [List.map_cons,GX]
   show ((_::_:List To))= [((2:Int),(⟨#[]⟩:ByteArray),v)]++_
   rw [List.singleton_append]
   congr 1
   unfold Tk.fo
   simp only [Prod.mk.injEq,true_and]
   by_cases hneg:v<0
   · simp [hneg];omega
   · simp [hneg];omega
def iQ (sep:List Pc):List (List Pc)→List Pc
 | []=> []
 |a::l=>a++l.flatMap fun b=>sep++b
theorem JW (h:Bool) (a b:List Pc) (ha:nb h a=true) (hb:nb true b=true):nb h (a++b)=true:=by
 induction a generalizing h with
 |nil=>
  cases h with
  |true=>exact hb
  |false=>exact zQ true b hb
 |cons p a ih=>
  unfold nb at ha⊢
  rw [List.cons_append]
  simp only [Bool.and_eq_true]at ha⊢
  exact ⟨ha.1,ih p.hard ha.2⟩
theorem Lc (sep:List Pc) (hs:∀b,nb false b=true→nb true (sep++b)=true):∀(l:List (List Pc)) (r:List Pc),(∀a∈l,nb false a=true)→nb true r=true→nb true ((l.flatMap fun b=>sep++b)++r)=true
 | [],_,_,hr=>hr
 |a::l,r,hl,hr=>by
  rw [List.flatMap_cons,List.append_assoc,List.append_assoc]
  exact hs _ (JW _ _ _ (hl a (List.mem_cons_self ..)) (Lc sep hs l r (fun x hx=>hl x (List.mem_cons_of_mem _ hx)) hr))
theorem Bc (sep:List Pc) (hs:∀b,nb false b=true→nb true (sep++b)=true) (l:List (List Pc)) (r:List Pc) (hl:∀a∈l,nb false a=true) (hr:nb true r=true):nb false (iQ sep l++r)=true:=by
 cases l with
 |nil=>exact zQ true r hr
 |cons a l=>
  unfold iQ
  rw [List.append_assoc]
  exact JW _ _ _ (hl a (List.mem_cons_self ..)) (Lc sep hs l r (fun x hx=>hl x (List.mem_cons_of_mem _ hx)) hr)
theorem Bd {sep:List Pc}(hs:∀p∈sep,p.ok) {l:List (List Pc)}(hl:∀a∈l,∀p∈a,p.ok):∀p∈iQ sep l,p.ok:=by
 intro p hp
 cases l with
 |nil=>exact absurd hp (by simp [iQ])
 |cons a l=>
  unfold iQ at hp
  rcases List.mem_append.1 hp with hp|hp
  · exact hl a (List.mem_cons_self ..) p hp
  · obtain ⟨b,hb,hp⟩:=List.mem_flatMap.1 hp
    rcases List.mem_append.1 hp with hp|hp
    · exact hs p hp
    · exact hl b (List.mem_cons_of_mem _ hb) p hp
def fH (t:Tm):Pc:=if t.ty=1 then .tx t.s else .nm t.n
def dw:List Pc:= [.sg 44, .bl]
def EN:List Pc:= [.bl, .wd (⟨#[65,78,68]⟩:ByteArray), .bl]
def gZ (c:Cl):List Pc:= [.wd c.name, .bl, .wd (if c.ty=1 then (⟨#[84,69,88,84]⟩:ByteArray)else (⟨#[73,78,84]⟩:ByteArray))]
def dL (p:Pr):List Pc:= [.wd p.name, .bl, .sg 61, .bl,fH p.t]
def gM (l:List ByteArray):List Pc:=if l= []then [.sg 42]else iQ dw (l.map fun s=> [.wd s])
def dP (l:List Pr):List Pc:= [.bl, .wd (⟨#[87,72,69,82,69]⟩:ByteArray), .bl]++iQ EN (l.map dL)
def dG (stamp ttl:Int):List Pc:=
 if stamp=0 then (if ttl=0 then []else [.bl, .wd (⟨#[85,83,73,78,71]⟩:ByteArray), .bl, .wd (⟨#[84,84,76]⟩:ByteArray), .bl, .nm ttl])
 else if ttl=0 then [.bl, .wd (⟨#[85,83,73,78,71]⟩:ByteArray), .bl, .wd (⟨#[84,73,77,69,83,84,65,77,80]⟩:ByteArray), .bl, .nm stamp]
 else [.bl, .wd (⟨#[85,83,73,78,71]⟩:ByteArray), .bl, .wd (⟨#[84,73,77,69,83,84,65,77,80]⟩:ByteArray), .bl, .nm stamp, .bl, .wd (⟨#[65,78,68]⟩:ByteArray), .bl, .wd (⟨#[84,84,76]⟩:ByteArray), .bl, .nm ttl]
def xM (x:Sx):List Pc:= [.wd (⟨#[67,82,69,65,84,69]⟩:ByteArray), .bl, .wd (⟨#[84,65,66,76,69]⟩:ByteArray), .bl, .wd x.name, .bl, .sg 40]++iQ dw ((x.part::x.aI::x.aN).map gZ)++ [.sg 44, .bl, .wd (⟨#[80,82,73,77,65,82,89]⟩:ByteArray), .bl, .wd (⟨#[75,69,89]⟩:ByteArray), .bl, .sg 40, .wd x.part.name, .sg 44, .bl, .wd x.aI.name, .sg 41, .sg 41]
def yX (x:Sx):List Pc:= [.wd (⟨#[67,82,69,65,84,69]⟩:ByteArray), .bl, .wd (⟨#[77,65,84,69,82,73,65,76,73,90,69,68]⟩:ByteArray), .bl, .wd (⟨#[86,73,69,87]⟩:ByteArray), .bl, .wd x.name, .bl, .wd (⟨#[65,83]⟩:ByteArray), .bl, .wd (⟨#[83,69,76,69,67,84]⟩:ByteArray), .bl]++gM x.aO++ [.bl, .wd (⟨#[70,82,79,77]⟩:ByteArray), .bl, .wd x.bM, .bl, .wd (⟨#[87,72,69,82,69]⟩:ByteArray), .bl, .wd x.on, .bl, .wd (⟨#[73,83]⟩:ByteArray), .bl, .wd (⟨#[78,79,84]⟩:ByteArray), .bl, .wd (⟨#[78,85,76,76]⟩:ByteArray), .bl, .wd (⟨#[80,82,73,77,65,82,89]⟩:ByteArray), .bl, .wd (⟨#[75,69,89]⟩:ByteArray), .bl, .sg 40]++iQ dw ((x.on::x.aP.map Pr.name).map fun s=> [.wd s])++ [.sg 41]
def xO (x:Sx):List Pc:= [.wd (⟨#[67,82,69,65,84,69]⟩:ByteArray), .bl, .wd (⟨#[73,78,68,69,88]⟩:ByteArray), .bl, .wd x.name, .bl, .wd (⟨#[79,78]⟩:ByteArray), .bl, .wd x.bM, .bl, .sg 40, .wd x.on, .sg 41]
def Dm (x:Sx):List Pc:= [.wd (⟨#[68,82,79,80]⟩:ByteArray), .bl, .wd x.name]
def nA (x:Sx):List Pc:= [.wd (⟨#[73,78,83,69,82,84]⟩:ByteArray), .bl, .wd (⟨#[73,78,84,79]⟩:ByteArray), .bl, .wd x.bM, .bl, .sg 40]++iQ dw (x.sets.map fun p=> [.wd p.name])++ [.sg 41, .bl, .wd (⟨#[86,65,76,85,69,83]⟩:ByteArray), .bl, .sg 40]++iQ dw (x.sets.map fun p=> [fH p.t])++ [.sg 41]++dG x.stamp x.ttl
def nC (x:Sx):List Pc:= [.wd (⟨#[85,80,68,65,84,69]⟩:ByteArray), .bl, .wd x.bM]++dG x.stamp x.ttl++ [.bl, .wd (⟨#[83,69,84]⟩:ByteArray), .bl]++iQ dw (x.sets.map dL)++dP x.aP
def j5 (x:Sx):List Pc:= [.wd (⟨#[68,69,76,69,84,69]⟩:ByteArray), .bl]++(if x.aO= []then []else gM x.aO++ [.bl])++ [.wd (⟨#[70,82,79,77]⟩:ByteArray), .bl, .wd x.bM]++dG x.stamp x.ttl++dP x.aP
def Bf (x:Sx):List Pc:= [.wd (⟨#[83,69,76,69,67,84]⟩:ByteArray), .bl]++gM x.aO++ [.bl, .wd (⟨#[70,82,79,77]⟩:ByteArray), .bl, .wd x.bM]++dP x.aP++(if x.limit=0 then []else [.bl, .wd (⟨#[76,73,77,73,84]⟩:ByteArray), .bl, .nm x.limit])
def rT (l:List (List Pc)):List Pc:= [.wd (⟨#[66,69,71,73,78]⟩:ByteArray), .bl, .wd (⟨#[66,65,84,67,72]⟩:ByteArray), .bl]++(l.flatMap fun a=>a++ [.sg 59, .bl])++ [.wd (⟨#[65,80,80,76,89]⟩:ByteArray), .bl, .wd (⟨#[66,65,84,67,72]⟩:ByteArray)]
def stP (x:Sx):List Pc:=
 if x.kind=1 then xM x else if x.kind=2 then yX x else if x.kind=3 then xO x else if x.kind=4 then Dm x
 else if x.kind=5 then nA x else if x.kind=6 then nC x else if x.kind=7 then j5 x else if x.kind=8 then Bf x
 else if x.kind=9 then rT []else []
structure jT where
 x:Sx
 parts:List Sx
def GY (z:jT):List Pc:=if z.x.kind=9 then rT (z.parts.map stP)else stP z.x
def fq (z:jT):ByteArray:=aG (GY z)
theorem jl {α β:Type}{f g:α→List β}:∀(l:List α),(∀a∈l,f a=g a)→l.flatMap f=l.flatMap g
 | [],_=>rfl
 |a::l,h=>by rw [List.flatMap_cons,List.flatMap_cons,h a (List.mem_cons_self ..),jl l fun x hx=>h x (List.mem_cons_of_mem _ hx)]
theorem tQ {u l:ByteArray}(h:fold u=l) (h2:qI l vW=false):(Pc.wd u).toks= [aR l]:=by
 show [((1:Int),fold u,(0:Int))]=_
 rw [h];unfold aR;rw [h2];rfl
theorem xP:(Pc.wd (⟨#[67,82,69,65,84,69]⟩:ByteArray)).toks= [aR (⟨#[99,114,101,97,116,101]⟩:ByteArray)]:=tQ (by decide+kernel) (by decide+kernel)
theorem QY:(Pc.wd (⟨#[84,65,66,76,69]⟩:ByteArray)).toks= [aR (⟨#[116,97,98,108,101]⟩:ByteArray)]:=tQ (by decide+kernel) (by decide+kernel)
theorem Bg:(Pc.wd (⟨#[80,82,73,77,65,82,89]⟩:ByteArray)).toks= [aR (⟨#[112,114,105,109,97,114,121]⟩:ByteArray)]:=tQ (by decide+kernel) (by decide+kernel)
theorem QZ:(Pc.wd (⟨#[75,69,89]⟩:ByteArray)).toks= [aR (⟨#[107,101,121]⟩:ByteArray)]:=tQ (by decide+kernel) (by decide+kernel)
theorem zn:(Pc.wd (⟨#[77,65,84,69,82,73,65,76,73,90,69,68]⟩:ByteArray)).toks= [aR (⟨#[109,97,116,101,114,105,97,108,105,122,101,100]⟩:ByteArray)]:=tQ (by decide+kernel) (by decide+kernel)
theorem Ur:(Pc.wd (⟨#[86,73,69,87]⟩:ByteArray)).toks= [aR (⟨#[118,105,101,119]⟩:ByteArray)]:=tQ (by decide+kernel) (by decide+kernel)
theorem Zx:(Pc.wd (⟨#[65,83]⟩:ByteArray)).toks= [aR (⟨#[97,115]⟩:ByteArray)]:=tQ (by decide+kernel) (by decide+kernel)
theorem Dn:(Pc.wd (⟨#[83,69,76,69,67,84]⟩:ByteArray)).toks= [aR (⟨#[115,101,108,101,99,116]⟩:ByteArray)]:=tQ (by decide+kernel) (by decide+kernel)
theorem EO:(Pc.wd (⟨#[70,82,79,77]⟩:ByteArray)).toks= [aR (⟨#[102,114,111,109]⟩:ByteArray)]:=tQ (by decide+kernel) (by decide+kernel)
theorem Q0:(Pc.wd (⟨#[87,72,69,82,69]⟩:ByteArray)).toks= [aR (⟨#[119,104,101,114,101]⟩:ByteArray)]:=tQ (by decide+kernel) (by decide+kernel)
theorem Zy:(Pc.wd (⟨#[73,83]⟩:ByteArray)).toks= [aR (⟨#[105,115]⟩:ByteArray)]:=tQ (by decide+kernel) (by decide+kernel)
theorem Xv:(Pc.wd (⟨#[78,79,84]⟩:ByteArray)).toks= [aR (⟨#[110,111,116]⟩:ByteArray)]:=tQ (by decide+kernel) (by decide+kernel)
theorem Us:(Pc.wd (⟨#[78,85,76,76]⟩:ByteArray)).toks= [aR (⟨#[110,117,108,108]⟩:ByteArray)]:=tQ (by decide+kernel) (by decide+kernel)
theorem Q5:(Pc.wd (⟨#[73,78,68,69,88]⟩:ByteArray)).toks= [aR (⟨#[105,110,100,101,120]⟩:ByteArray)]:=tQ (by decide+kernel) (by decide+kernel)
theorem Zz:(Pc.wd (⟨#[79,78]⟩:ByteArray)).toks= [aR (⟨#[111,110]⟩:ByteArray)]:=tQ (by decide+kernel) (by decide+kernel)
theorem Ld:(Pc.wd (⟨#[68,82,79,80]⟩:ByteArray)).toks= [aR (⟨#[100,114,111,112]⟩:ByteArray)]:=tQ (by decide+kernel) (by decide+kernel)
theorem Nf:(Pc.wd (⟨#[73,78,83,69,82,84]⟩:ByteArray)).toks= [aR (⟨#[105,110,115,101,114,116]⟩:ByteArray)]:=tQ (by decide+kernel) (by decide+kernel)
theorem Ut:(Pc.wd (⟨#[73,78,84,79]⟩:ByteArray)).toks= [aR (⟨#[105,110,116,111]⟩:ByteArray)]:=tQ (by decide+kernel) (by decide+kernel)
theorem Ng:(Pc.wd (⟨#[86,65,76,85,69,83]⟩:ByteArray)).toks= [aR (⟨#[118,97,108,117,101,115]⟩:ByteArray)]:=tQ (by decide+kernel) (by decide+kernel)
theorem Bh:(Pc.wd (⟨#[85,83,73,78,71]⟩:ByteArray)).toks= [aR (⟨#[117,115,105,110,103]⟩:ByteArray)]:=tQ (by decide+kernel) (by decide+kernel)
theorem Nh:(Pc.wd (⟨#[85,80,68,65,84,69]⟩:ByteArray)).toks= [aR (⟨#[117,112,100,97,116,101]⟩:ByteArray)]:=tQ (by decide+kernel) (by decide+kernel)
theorem Xw:(Pc.wd (⟨#[83,69,84]⟩:ByteArray)).toks= [aR (⟨#[115,101,116]⟩:ByteArray)]:=tQ (by decide+kernel) (by decide+kernel)
theorem Xx:(Pc.wd (⟨#[65,78,68]⟩:ByteArray)).toks= [aR (⟨#[97,110,100]⟩:ByteArray)]:=tQ (by decide+kernel) (by decide+kernel)
theorem Ni:(Pc.wd (⟨#[68,69,76,69,84,69]⟩:ByteArray)).toks= [aR (⟨#[100,101,108,101,116,101]⟩:ByteArray)]:=tQ (by decide+kernel) (by decide+kernel)
theorem wu:(Pc.wd (⟨#[84,73,77,69,83,84,65,77,80]⟩:ByteArray)).toks= [aR (⟨#[116,105,109,101,115,116,97,109,112]⟩:ByteArray)]:=tQ (by decide+kernel) (by decide+kernel)
theorem Q6:(Pc.wd (⟨#[76,73,77,73,84]⟩:ByteArray)).toks= [aR (⟨#[108,105,109,105,116]⟩:ByteArray)]:=tQ (by decide+kernel) (by decide+kernel)
theorem Q7:(Pc.wd (⟨#[66,69,71,73,78]⟩:ByteArray)).toks= [aR (⟨#[98,101,103,105,110]⟩:ByteArray)]:=tQ (by decide+kernel) (by decide+kernel)
theorem GZ:(Pc.wd (⟨#[66,65,84,67,72]⟩:ByteArray)).toks= [aR (⟨#[98,97,116,99,104]⟩:ByteArray)]:=tQ (by decide+kernel) (by decide+kernel)
theorem Q8:(Pc.wd (⟨#[65,80,80,76,89]⟩:ByteArray)).toks= [aR (⟨#[97,112,112,108,121]⟩:ByteArray)]:=tQ (by decide+kernel) (by decide+kernel)
theorem Q9:(Pc.wd (⟨#[84,84,76]⟩:ByteArray)).toks= [aR (⟨#[116,116,108]⟩:ByteArray)]:=tQ (by decide+kernel) (by decide+kernel)
theorem Uu:(Pc.wd (⟨#[84,69,88,84]⟩:ByteArray)).toks= [aR (⟨#[116,101,120,116]⟩:ByteArray)]:=tQ (by decide+kernel) (by decide+kernel)
theorem Xy:(Pc.wd (⟨#[73,78,84]⟩:ByteArray)).toks= [aR (⟨#[105,110,116]⟩:ByteArray)]:=tQ (by decide+kernel) (by decide+kernel)
theorem Lf:(Pc.sg 40).toks= [aR (⟨#[40]⟩:ByteArray)]:=by decide+kernel
theorem Lg:(Pc.sg 41).toks= [aR (⟨#[41]⟩:ByteArray)]:=by decide+kernel
theorem VZ:(Pc.sg 44).toks= [aR (⟨#[44]⟩:ByteArray)]:=by decide+kernel
theorem ZA:(Pc.sg 59).toks= [aR (⟨#[59]⟩:ByteArray)]:=by decide+kernel
theorem ade:(Pc.sg 61).toks= [aR (⟨#[61]⟩:ByteArray)]:=by decide+kernel
theorem adf:(Pc.sg 42).toks= [aR (⟨#[42]⟩:ByteArray)]:=by decide+kernel
theorem lJ:Pc.bl.toks= []:=rfl
theorem Lh (n:Int):(Pc.nm n).toks= [xH n]:=rfl
theorem fC:dU []= []:=rfl
theorem wD (b:List Pc) (h:nb false b=true):nb true (dw++b)=true:=by
 unfold dw;simp only [List.cons_append,List.nil_append,nb,Pc.hard];simpa using h
theorem Xz (b:List Pc) (h:nb false b=true):nb true (EN++b)=true:=by
 unfold EN;simp only [List.cons_append,List.nil_append,nb,Pc.hard];simpa using h
theorem wE:∀p∈dw,p.ok:=by
 intro p hp
 unfold dw at hp
 simp only [List.mem_cons,List.not_mem_nil,or_false]at hp
 rcases hp with rfl|rfl
 · show (44:UInt8)=40∨_;decide
 · trivial
theorem gF {s:ByteArray}(h:jQ s=true) (h2:s.size≤100):(Pc.wd s).ok:=⟨h,h2⟩
theorem XA:∀p∈EN,p.ok:=by
 intro p hp
 unfold EN at hp
 simp only [List.mem_cons,List.not_mem_nil,or_false]at hp
 rcases hp with rfl|rfl|rfl
 · trivial
 · exact gF (by decide+kernel) (by decide)
 · trivial
theorem fQ {s:ByteArray}(h:bH s):(Pc.wd s).ok:=⟨h.1,h.2.2.1⟩
theorem Li {t:Tm}(h:nN t):(fH t).ok:=by
 unfold fH
 rcases h with ⟨h1,h2,h3,_⟩|⟨h1,_,h3,h4⟩
 · rw [if_pos h1];exact ⟨h2,h3⟩
 · rw [if_neg (by rw [h1];decide)];exact ⟨h3,h4⟩
theorem wF {n:Int}(h:jK n):(Pc.nm n).ok:=⟨by have:=h.1;omega,h.2⟩
theorem Dp (t:Tm):(fH t).toks= [oz t]:=by
 unfold fH oz
 by_cases h:t.ty=1<;>simp [h,Pc.toks]
theorem dI {s:ByteArray}(h:bH s):(Pc.wd s).toks= [dW s]:=by
 show [((1:Int),fold s,(0:Int))]=_
 rw [h.2.1];rfl
theorem rU (sep:List Pc):∀(l:List (List Pc)),dU (iQ sep l)=match l with| []=> []|a::l=>dU a++l.flatMap fun b=>dU sep++dU b
 | []=>rfl
 |a::l=>by
  unfold iQ
  rw [fM]
  congr 1
  induction l with
  |nil=>rfl
  |cons b l ih=>rw [List.flatMap_cons,fM,fM,ih,List.flatMap_cons]
theorem nD:dU dw= [aR (⟨#[44]⟩:ByteArray)]:=by decide+kernel
theorem Nj:dU EN= [aR (⟨#[97,110,100]⟩:ByteArray)]:=by decide+kernel
theorem Dq {l:List ByteArray}(h:∀s∈l,bH s):dU (iQ dw (l.map fun s=> [.wd s]))=oF l:=by
 rw [rU]
 cases l with
 |nil=>rfl
 |cons a l=>
  simp only [List.map_cons,oF]
  have h1:dU [Pc.wd a]= [dW a]:=by rw [aZ,dI (h a (List.mem_cons_self ..))];rfl
  rw [h1,nD,List.flatMap_map,List.singleton_append]
  congr 1
  unfold mI
  refine jl _ fun s hs=> ?_
  rw [aZ,dI (h s (List.mem_cons_of_mem _ hs))];rfl
theorem Nk (l:List Tm):dU (iQ dw (l.map fun s=> [fH s]))=GA l:=by
 rw [rU]
 cases l with
 |nil=>rfl
 |cons a l=>
  simp only [List.map_cons,GA]
  have h1:∀a:Tm,dU [fH a]= [oz a]:=fun a=>by rw [aZ,Dp];rfl
  rw [h1,nD,List.flatMap_map,List.singleton_append]
  congr 1
  unfold nO
  refine jl _ fun s _=> ?_
  rw [h1];rfl
theorem qh {p:Pr}(h:j3 p):dU (dL p)=pairT p:=by
 unfold dL pairT
 rw [aZ,dI h.1,aZ,aZ,aZ,aZ,Dp]
 rfl
theorem Nl {l:List Pr}(h:∀p∈l,j3 p):dU (iQ dw (l.map dL))=oH l:=by
 rw [rU]
 cases l with
 |nil=>rfl
 |cons a l=>
  simp only [List.map_cons,oH]
  rw [qh (h a (List.mem_cons_self ..)),nD,List.flatMap_map]
  congr 1
  refine jl _ fun s hs=> ?_
  rw [qh (h s (List.mem_cons_of_mem _ hs))];rfl
theorem uJ {l:List Pr}(h:∀p∈l,j3 p):dU (dP l)=iI l:=by
 unfold dP iI
 rw [fM,rU]
 rw [show dU [.bl, .wd (⟨#[87,72,69,82,69]⟩:ByteArray), .bl]= [aR (⟨#[119,104,101,114,101]⟩:ByteArray)]by decide+kernel,List.singleton_append]
 congr 1
 cases l with
 |nil=>rfl
 |cons a l=>
  simp only [List.map_cons]
  rw [qh (h a (List.mem_cons_self ..)),Nj,List.flatMap_map]
  congr 1
  refine jl _ fun s hs=> ?_
  rw [qh (h s (List.mem_cons_of_mem _ hs))];rfl
theorem xQ {l:List ByteArray}(h:∀s∈l,bH s):dU (gM l)=qz l:=by
 unfold gM qz
 by_cases hl:l= []
 · rw [if_pos hl,if_pos hl];rfl
 · rw [if_neg hl,if_neg hl,Dq h]
theorem uK (stamp ttl:Int):dU (dG stamp ttl)=jA stamp ttl:=by
 unfold dG jA
 by_cases h1:stamp=0
 · by_cases h2:ttl=0
   · rw [if_pos h1,if_pos h2,if_pos h1,if_pos h2];rfl
   · rw [if_pos h1,if_neg h2,if_pos h1,if_neg h2];simp only [Bh,Q9,lJ,Lh,fC,aZ,List.nil_append,List.cons_append]
 · by_cases h2:ttl=0
   · rw [if_neg h1,if_pos h2,if_neg h1,if_pos h2];simp only [Bh,wu,lJ,Lh,fC,aZ,List.nil_append,List.cons_append]
   · rw [if_neg h1,if_neg h2,if_neg h1,if_neg h2];simp only [Bh,Xx,wu,Q9,lJ,Lh,fC,aZ,List.nil_append,List.cons_append]
theorem bJ {a b:List Pc}(ha:∀p∈a,p.ok) (hb:∀p∈b,p.ok):∀p∈a++b,p.ok:=by
 intro p hp
 rcases List.mem_append.1 hp with h|h
 · exact ha p h
 · exact hb p h
theorem dX:∀p∈([]:List Pc),p.ok:=by simp
theorem av {q:Pc}{l:List Pc}(hq:q.ok) (hl:∀p∈l,p.ok):∀p∈q::l,p.ok:=by
 intro p hp
 rcases List.mem_cons.1 hp with rfl|h
 · exact hq
 · exact hl p h
theorem bL:Pc.bl.ok:=trivial
theorem j6 {c:UInt8}(h:c=40∨c=41∨c=44∨c=59∨c=61∨c=42):(Pc.sg c).ok:=h
theorem xR:(Pc.wd (⟨#[67,82,69,65,84,69]⟩:ByteArray)).ok:=gF (by decide+kernel) (by decide)
theorem Ra:(Pc.wd (⟨#[84,65,66,76,69]⟩:ByteArray)).ok:=gF (by decide+kernel) (by decide)
theorem Bj:(Pc.wd (⟨#[80,82,73,77,65,82,89]⟩:ByteArray)).ok:=gF (by decide+kernel) (by decide)
theorem Rb:(Pc.wd (⟨#[75,69,89]⟩:ByteArray)).ok:=gF (by decide+kernel) (by decide)
theorem zo:(Pc.wd (⟨#[77,65,84,69,82,73,65,76,73,90,69,68]⟩:ByteArray)).ok:=gF (by decide+kernel) (by decide)
theorem Uv:(Pc.wd (⟨#[86,73,69,87]⟩:ByteArray)).ok:=gF (by decide+kernel) (by decide)
theorem ZB:(Pc.wd (⟨#[65,83]⟩:ByteArray)).ok:=gF (by decide+kernel) (by decide)
theorem Dr:(Pc.wd (⟨#[83,69,76,69,67,84]⟩:ByteArray)).ok:=gF (by decide+kernel) (by decide)
theorem EP:(Pc.wd (⟨#[70,82,79,77]⟩:ByteArray)).ok:=gF (by decide+kernel) (by decide)
theorem G5:(Pc.wd (⟨#[87,72,69,82,69]⟩:ByteArray)).ok:=gF (by decide+kernel) (by decide)
theorem ZC:(Pc.wd (⟨#[73,83]⟩:ByteArray)).ok:=gF (by decide+kernel) (by decide)
theorem XB:(Pc.wd (⟨#[78,79,84]⟩:ByteArray)).ok:=gF (by decide+kernel) (by decide)
theorem Uw:(Pc.wd (⟨#[78,85,76,76]⟩:ByteArray)).ok:=gF (by decide+kernel) (by decide)
theorem Rc:(Pc.wd (⟨#[73,78,68,69,88]⟩:ByteArray)).ok:=gF (by decide+kernel) (by decide)
theorem ZE:(Pc.wd (⟨#[79,78]⟩:ByteArray)).ok:=gF (by decide+kernel) (by decide)
theorem Lj:(Pc.wd (⟨#[68,82,79,80]⟩:ByteArray)).ok:=gF (by decide+kernel) (by decide)
theorem Nn:(Pc.wd (⟨#[73,78,83,69,82,84]⟩:ByteArray)).ok:=gF (by decide+kernel) (by decide)
theorem Ux:(Pc.wd (⟨#[73,78,84,79]⟩:ByteArray)).ok:=gF (by decide+kernel) (by decide)
theorem Np:(Pc.wd (⟨#[86,65,76,85,69,83]⟩:ByteArray)).ok:=gF (by decide+kernel) (by decide)
theorem Bl:(Pc.wd (⟨#[85,83,73,78,71]⟩:ByteArray)).ok:=gF (by decide+kernel) (by decide)
theorem Nq:(Pc.wd (⟨#[85,80,68,65,84,69]⟩:ByteArray)).ok:=gF (by decide+kernel) (by decide)
theorem XC:(Pc.wd (⟨#[83,69,84]⟩:ByteArray)).ok:=gF (by decide+kernel) (by decide)
theorem XD:(Pc.wd (⟨#[65,78,68]⟩:ByteArray)).ok:=gF (by decide+kernel) (by decide)
theorem Nr:(Pc.wd (⟨#[68,69,76,69,84,69]⟩:ByteArray)).ok:=gF (by decide+kernel) (by decide)
theorem wG:(Pc.wd (⟨#[84,73,77,69,83,84,65,77,80]⟩:ByteArray)).ok:=gF (by decide+kernel) (by decide)
theorem Rf:(Pc.wd (⟨#[76,73,77,73,84]⟩:ByteArray)).ok:=gF (by decide+kernel) (by decide)
theorem Rh:(Pc.wd (⟨#[66,69,71,73,78]⟩:ByteArray)).ok:=gF (by decide+kernel) (by decide)
theorem G6:(Pc.wd (⟨#[66,65,84,67,72]⟩:ByteArray)).ok:=gF (by decide+kernel) (by decide)
theorem Ri:(Pc.wd (⟨#[65,80,80,76,89]⟩:ByteArray)).ok:=gF (by decide+kernel) (by decide)
theorem Rj:(Pc.wd (⟨#[84,84,76]⟩:ByteArray)).ok:=gF (by decide+kernel) (by decide)
theorem Uy:(Pc.wd (⟨#[84,69,88,84]⟩:ByteArray)).ok:=gF (by decide+kernel) (by decide)
theorem XE:(Pc.wd (⟨#[73,78,84]⟩:ByteArray)).ok:=gF (by decide+kernel) (by decide)
theorem Rk {c:Cl}(h:AQ c):∀p∈gZ c,p.ok:=by
 unfold gZ
 refine av (fQ h.1) (av bL (av ?_ dX))
 split
 · exact Uy
 · exact XE
theorem G7 {q:Pr}(h:j3 q):∀p∈dL q,p.ok:=by
 unfold dL
 exact av (fQ h.1) (av bL (av (j6 (by decide)) (av bL (av (Li h.2) dX))))
theorem Ll {l:List ByteArray}(h:∀s∈l,bH s):∀p∈iQ dw (l.map fun s=> [Pc.wd s]),p.ok:=by
 refine Bd wE fun a ha=> ?_
 obtain ⟨s,hs,rfl⟩:=List.mem_map.1 ha
 exact av (fQ (h s hs)) dX
theorem ER {l:List ByteArray}(h:∀s∈l,bH s):∀p∈gM l,p.ok:=by
 unfold gM
 split
 · exact av (j6 (by decide)) dX
 · exact Ll h
theorem Bn {l:List Pr}(h:∀p∈l,j3 p):∀p∈dP l,p.ok:=by
 unfold dP
 refine bJ (av bL (av G5 (av bL dX))) (Bd XA fun a ha=> ?_)
 obtain ⟨s,hs,rfl⟩:=List.mem_map.1 ha
 exact G7 (h s hs)
theorem Uz {l:List Pr}(h:∀p∈l,j3 p):∀p∈iQ dw (l.map dL),p.ok:=by
 refine Bd wE fun a ha=> ?_
 obtain ⟨s,hs,rfl⟩:=List.mem_map.1 ha
 exact G7 (h s hs)
theorem Bp {b:Bool}{stamp ttl:Int}(h:nu b stamp ttl):∀p∈dG stamp ttl,p.ok:=by
 obtain ⟨h1,h2⟩:=h
 unfold dG
 by_cases e1:stamp=0
 · by_cases e2:ttl=0
   · rw [if_pos e1,if_pos e2];exact dX
   · have:=wF (h2.resolve_left e2).2
     rw [if_pos e1,if_neg e2]
     exact av bL (av Bl (av bL (av Rj (av bL (av this dX)))))
 · have g1:=wF (h1.resolve_left e1)
   by_cases e2:ttl=0
   · rw [if_neg e1,if_pos e2]
     exact av bL (av Bl (av bL (av wG (av bL (av g1 dX)))))
   · have:=wF (h2.resolve_left e2).2
     rw [if_neg e1,if_neg e2]
     exact av bL (av Bl (av bL (av wG (av bL (av g1 (av bL (av XD (av bL (av Rj (av bL (av this dX)))))))))))
theorem Rl (c:Cl):nb false (gZ c)=true:=rfl
theorem G8 (p:Pr):nb false (dL p)=true:=by
 unfold dL
 simp only [nb,Pc.hard,Bool.and_false,Bool.and_true,Bool.false_and,Bool.not_false]
theorem Lm (l:List ByteArray) (r:List Pc) (hr:nb true r=true):nb false (iQ dw (l.map fun s=> [Pc.wd s])++r)=true:=
 Bc _ wD _ _ (fun a ha=>by obtain ⟨s,_,rfl⟩:=List.mem_map.1 ha;rfl) hr
theorem Rm (l:List Pr) (r:List Pc) (hr:nb true r=true):nb false (iQ dw (l.map fun p=> [fH p.t])++r)=true:=
 Bc _ wD _ _ (fun a ha=>by obtain ⟨s,_,rfl⟩:=List.mem_map.1 ha;simp [nb]) hr
theorem ES (l:List ByteArray) (r:List Pc) (hr:nb true r=true):nb false (gM l++r)=true:=by
 unfold gM
 split
 · show nb false (Pc.sg 42::r)=true
   simp only [nb,Pc.hard,Bool.false_and,Bool.not_false,Bool.true_and]
   exact zQ true r hr
 · exact Lm l r hr
theorem UA (l:List Pr) (r:List Pc) (hr:nb true r=true):nb false (iQ dw (l.map dL)++r)=true:=
 Bc _ wD _ _ (fun a ha=>by obtain ⟨s,_,rfl⟩:=List.mem_map.1 ha;exact G8 s) hr
theorem Bq (l:List Pr) (r:List Pc) (hr:nb true r=true):nb true (dP l++r)=true:=by
 unfold dP
 rw [List.append_assoc]
 show nb true (Pc.bl::Pc.wd (⟨#[87,72,69,82,69]⟩:ByteArray)::Pc.bl::_)=true
 simp only [nb,Pc.hard,Bool.and_false,Bool.false_and,Bool.not_false,Bool.true_and]
 exact Bc _ Xz _ _ (fun a ha=>by obtain ⟨s,_,rfl⟩:=List.mem_map.1 ha;exact G8 s) hr
theorem Br (stamp ttl:Int) (r:List Pc) (hr:nb true r=true):nb true (dG stamp ttl++r)=true:=by
 unfold dG
 split
 · split
   · exact hr
   · simpa [nb,Pc.hard]using hr
 · split
   · simpa [nb,Pc.hard]using hr
   · simpa [nb,Pc.hard]using hr
structure oL (l:List Pc):Prop where
 ok:∀p∈l,p.ok
 nb:aH.nb false l=true
theorem oL.lex {l:List Pc}(h:oL l):LxF (aG l) (dU l):=Lb l false h.ok h.nb
theorem uL (pk ck:ByteArray) (hpc:ck≠pk):∀(C:List Cl) (x:Sx),
 (C.foldl (fun x c=>Tx.place x pk ck c) x)={x with
  part:=((C.filter fun c=>iW c.name pk).getLast?).getD x.part,
  aI:=((C.filter fun c=>iW c.name ck).getLast?).getD x.aI,
  aN:=x.aN++C.filter fun c=> !iW c.name pk&& !iW c.name ck}
 | [],x=>by simp
 |c::C,x=>by
  rw [List.foldl_cons,uL pk ck hpc C]
  unfold Tx.place
  cases h1:iW c.name pk with
  |true=>
   have e:=dY.1 h1
   have h2:iW c.name ck=false:=by
    cases h2:iW c.name ck with
    |false=>rfl
    |true=>exact absurd ((dY.1 h2).symm.trans e) hpc
   simp [h1,h2,List.getLast?_cons]
  |false=>
   cases h2:iW c.name ck with
   |true=>
    simp [h1,h2,List.getLast?_cons]
   |false=>simp [h1,h2]
theorem oM:∀(r l:List ByteArray),nk l r ↔ (∀a∈r,a ∉ l)∧r.Nodup
 | [],l=>by simp [nk]
 |a::r,l=>by
  unfold nk
  rw [oM r (l++ [a]),List.nodup_cons]
  constructor
  · rintro ⟨h1,h2,h3⟩
    have ha:a ∉ l:=fun h=>by rw [jI.2 h]at h1;exact absurd h1 (by decide)
    refine ⟨fun x hx=> ?_,fun h=>h2 a h (by simp),h3⟩
    rcases List.mem_cons.1 hx with rfl|hx
    · exact ha
    · exact fun h=>h2 x hx (by simp [h])
  · rintro ⟨h1,h2,h3⟩
    refine ⟨?_,fun x hx h=> ?_,h3⟩
    · cases hb:qI a l with
      |false=>rfl
      |true=>exact absurd (jI.1 hb) (h1 a (List.mem_cons_self ..))
    · rcases List.mem_append.1 h with h|h
      · exact h1 x (List.mem_cons_of_mem _ hx) h
      · simp at h;subst h;exact h2 hx
theorem rV (pk:ByteArray):∀(C:List Cl),pk∈C.map Cl.name→(C.filter fun c=> !iW c.name pk).length+1≤C.length
 | [],h=>absurd h (by simp)
 |c::C,h=>by
  cases hb:iW c.name pk with
  |true=>
   simp only [List.filter_cons,hb,Bool.not_true,Bool.false_eq_true,if_false,List.length_cons]
   have:=List.length_filter_le (fun c:Cl=> !iW c.name pk) C
   omega
  |false=>
   rw [List.map_cons,List.mem_cons]at h
   have h2:=h.resolve_left fun e=>by rw [e]at hb;rw [dY.2 rfl]at hb;exact absurd hb (by decide)
   have:=rV pk C h2
   simp only [List.filter_cons,hb,Bool.not_false,if_true,List.length_cons]
   omega
theorem rW {a b:ByteArray}(h:a≠b):iW a b=false:=by
 cases hb:iW a b with
 |false=>rfl
 |true=>exact absurd (dY.1 hb) h
theorem nE {nm:ByteArray}{C:List Cl}{pk ck:ByteArray}(h:pW nm C pk ck):
 ∃p c D,p.name=pk∧c.name=ck∧kP nm C pk ck={Sx.zero with kind:=1,name:=nm,aW:=nm,part:=p,aI:=c,aN:=D}∧kP nm (p::c::D) pk ck=kP nm C pk ck∧pW nm (p::c::D) pk ck:=by
 obtain ⟨h1,h2,h3,h4,h5,h6,h7⟩:=h
 have key:∀k,k∈C.map Cl.name→∃p,(C.filter fun c=>iW c.name k).getLast? =some p∧p.name=k∧p∈C:=by
  intro k hk
  obtain ⟨c,hc,rfl⟩:=List.mem_map.1 hk
  have hm:c∈C.filter fun d=>iW d.name c.name:=List.mem_filter.2 ⟨hc,dY.2 rfl⟩
  have hne:(C.filter fun d=>iW d.name c.name)≠ []:=fun e=>by rw [e]at hm;exact absurd hm (by simp)
  have hl:=List.getLast_mem hne
  obtain ⟨hl1,hl2⟩:=List.mem_filter.1 hl
  exact ⟨_,List.getLast?_eq_some_getLast hne,dY.1 hl2,hl1⟩
 obtain ⟨p,p1,p2,p3⟩:=key pk h5
 obtain ⟨c,c1,c2,c3⟩:=key ck h6
 have e0:kP nm C pk ck={Sx.zero with kind:=1,name:=nm,aW:=nm,part:=p,aI:=c,aN:=C.filter fun c=> !iW c.name pk&& !iW c.name ck}:=by
  unfold kP
  rw [uL pk ck h7,p1,c1];rfl
 have hD:∀d∈C.filter (fun c=> !iW c.name pk&& !iW c.name ck),d∈C∧iW d.name pk=false∧iW d.name ck=false:=by
  intro d hd
  obtain ⟨hd1,hd2⟩:=List.mem_filter.1 hd
  simp only [Bool.and_eq_true,Bool.not_eq_true']at hd2
  exact ⟨hd1,hd2⟩
 refine ⟨p,c,C.filter fun c=> !iW c.name pk&& !iW c.name ck,p2,c2,e0, ?_,h1, ?_, ?_, ?_,by simp [p2],by simp [c2],h7⟩
 · rw [e0]
   have f1:(C.filter fun c=> !iW c.name pk&& !iW c.name ck).filter (fun c=>iW c.name pk)= []:=List.filter_eq_nil_iff.2 fun d hd=>by rw [(hD d hd).2.1];decide
   have f2:(C.filter fun c=> !iW c.name pk&& !iW c.name ck).filter (fun c=>iW c.name ck)= []:=List.filter_eq_nil_iff.2 fun d hd=>by rw [(hD d hd).2.2];decide
   have f3:(C.filter fun c=> !iW c.name pk&& !iW c.name ck).filter (fun c=> !iW c.name pk&& !iW c.name ck)=C.filter fun c=> !iW c.name pk&& !iW c.name ck:=List.filter_eq_self.2 fun d hd=>by rw [(hD d hd).2.1,(hD d hd).2.2];decide
   have g1:iW p.name pk=true:=dY.2 p2
   have g2:iW c.name ck=true:=dY.2 c2
   have g3:iW c.name pk=false:=rW (by rw [c2];exact h7)
   have g4:iW p.name ck=false:=rW (by rw [p2];exact h7.symm)
   unfold kP
   rw [uL pk ck h7]
   simp only [List.filter_cons,g1,g2,g3,g4,f1,f2,f3,if_true,Bool.false_eq_true,if_false,Bool.not_true,Bool.not_false,Bool.false_and,Bool.and_false]
   rfl
 · intro d hd
   rcases List.mem_cons.1 hd with rfl|hd
   · exact h2 _ p3
   · rcases List.mem_cons.1 hd with rfl|hd
     · exact h2 _ c3
     · exact h2 _ (hD d hd).1
 · have hn:=((oM _ _).1 h3).2
   refine (oM _ _).2 ⟨by simp, ?_⟩
   rw [List.map_cons,List.map_cons,List.nodup_cons,List.nodup_cons,p2,c2]
   refine ⟨?_, ?_, ?_⟩
   · intro hm
     rcases List.mem_cons.1 hm with hm|hm
     · exact h7 hm.symm
     · obtain ⟨d,hd,he⟩:=List.mem_map.1 hm
       have:=(hD d hd).2.1
       rw [dY.2 he]at this;exact absurd this (by decide)
   · intro hm
     obtain ⟨d,hd,he⟩:=List.mem_map.1 hm
     have:=(hD d hd).2.2
     rw [dY.2 he]at this;exact absurd this (by decide)
   · exact List.Nodup.sublist (List.Sublist.map _ List.filter_sublist) hn
 · have l1:=rV pk C h5
   have m2:ck∈(C.filter fun c=> !iW c.name pk).map Cl.name:=by
    refine List.mem_map.2 ⟨c,List.mem_filter.2 ⟨c3, ?_⟩,c2⟩
    rw [rW (by rw [c2];exact h7)];rfl
   have l2:=rV ck _ m2
   rw [List.filter_filter]at l2
   have e:(C.filter fun a=>(!iW a.name ck)&& !iW a.name pk)=C.filter fun c=> !iW c.name pk&& !iW c.name ck:=List.filter_congr fun d _=>Bool.and_comm _ _
   rw [e]at l2
   simp only [List.length_cons]
   omega
theorem G9:∀(c:List ByteArray) (v:List Tm),v.length=c.length→(List.zipWith Pr.mk c v).map Pr.name=c∧(List.zipWith Pr.mk c v).map Pr.t=v
 | [], [],_=>⟨rfl,rfl⟩
 | [],_::_,h=>absurd h (by simp)
 |_::_, [],h=>absurd h (by simp)
 |a::c,b::v,h=>by
  obtain ⟨h1,h2⟩:=G9 c v (by simpa using h)
  simp [h1,h2]
theorem kC (h:Bool) (l:List Pc):nb h (Pc.bl::l)=nb false l:=by simp [nb,Pc.hard]
theorem yY (h:Bool) (c:UInt8) (l:List Pc):nb h (Pc.sg c::l)=nb false l:=by simp [nb,Pc.hard]
theorem lK (s:ByteArray) (l:List Pc):nb false (Pc.wd s::l)=nb true l:=by simp [nb,Pc.hard]
theorem Bt (h:Bool):nb h []=true:=rfl
theorem He {o:ByteArray}{c:List ByteArray}{v:List Tm}{stamp ttl:Int}(h:rH o c v stamp ttl):
 dU (stP (ny o c v stamp ttl))=aR (⟨#[105,110,115,101,114,116]⟩:ByteArray)::pX o c v stamp ttl∧oL (stP (ny o c v stamp ttl)):=by
 obtain ⟨o1,o2,o3,o4,o5,o6⟩:=h
 obtain ⟨z1,z2⟩:=G9 c v o4
 have e1:(List.zipWith Pr.mk c v).map (fun p=> [Pc.wd p.name])=c.map fun s=> [Pc.wd s]:=by
  conv=>rhs;rw [←z1,List.map_map]
  rfl
 have e2:(List.zipWith Pr.mk c v).map (fun p=> [fH p.t])=v.map fun s=> [fH s]:=by
  conv=>rhs;rw [←z2,List.map_map]
  rfl
 have e:stP (ny o c v stamp ttl)= [.wd (⟨#[73,78,83,69,82,84]⟩:ByteArray), .bl, .wd (⟨#[73,78,84,79]⟩:ByteArray), .bl, .wd o, .bl, .sg 40]++iQ dw (c.map fun s=> [.wd s])++ [.sg 41, .bl, .wd (⟨#[86,65,76,85,69,83]⟩:ByteArray), .bl, .sg 40]++iQ dw (v.map fun p=> [fH p])++ [.sg 41]++dG stamp ttl:=by
  rw [←e1,←e2];rfl
 rw [e]
 refine ⟨?_, ?_, ?_⟩
 · simp only [fM,Dq o3.1,Nk,uK]
   unfold pX
   simp only [Nf,Ut,Ng,Lf,Lg,lJ,fC,aZ,List.nil_append,List.cons_append]
   rw [dI o1]
   simp
 · refine bJ (bJ (bJ (bJ (bJ ?_ (Ll o3.1)) ?_) ?_) ?_) (Bp o6)
   · exact av Nn (av bL (av Ux (av bL (av (fQ o1) (av bL (av (j6 (by decide)) dX))))))
   · exact av (j6 (by decide)) (av bL (av Np (av bL (av (j6 (by decide)) dX))))
   · refine Bd wE fun a ha=> ?_
     obtain ⟨s,hs,rfl⟩:=List.mem_map.1 ha
     exact av (Li (o5 s hs)) dX
   · exact av (j6 (by decide)) dX
 · have hu:=Br stamp ttl [] rfl
   rw [List.append_nil]at hu
   have ht:nb false (iQ dw (v.map fun p=> [fH p])++([.sg 41]++dG stamp ttl))=true:=by
    have:=Rm (List.zipWith Pr.mk c v) ([.sg 41]++dG stamp ttl) (by rw [List.cons_append,List.nil_append,yY];exact zQ true _ hu)
    rw [e2]at this;exact this
   have hc:=Lm c ([.sg 41, .bl, .wd (⟨#[86,65,76,85,69,83]⟩:ByteArray), .bl, .sg 40]++(iQ dw (v.map fun p=> [fH p])++([.sg 41]++dG stamp ttl))) (by
    simp only [List.cons_append,List.nil_append,yY,kC,lK]
    simpa using ht)
   simp only [List.append_assoc]
   simp only [List.cons_append,List.nil_append,yY,kC,lK]at hc⊢
   exact hc
theorem Hf {o:ByteArray}{stamp ttl:Int}{sets aP:List Pr}(h:rJ o stamp ttl sets aP):
 dU (stP (p8 o stamp ttl sets aP))=aR (⟨#[117,112,100,97,116,101]⟩:ByteArray)::pY o stamp ttl sets aP∧oL (stP (p8 o stamp ttl sets aP)):=by
 obtain ⟨o1,o2,⟨o3,o4,o5,o6⟩,o7,_⟩:=h
 have e:stP (p8 o stamp ttl sets aP)= [.wd (⟨#[85,80,68,65,84,69]⟩:ByteArray), .bl, .wd o]++dG stamp ttl++ [.bl, .wd (⟨#[83,69,84]⟩:ByteArray), .bl]++iQ dw (sets.map dL)++dP aP:=rfl
 rw [e]
 refine ⟨?_, ?_, ?_⟩
 · simp only [fM,uK,Nl o4,uJ o7]
   unfold pY
   simp only [Nh,Xw,lJ,fC,aZ,List.nil_append,List.cons_append]
   rw [dI o1]
   simp
 · refine bJ (bJ (bJ (bJ ?_ (Bp o2)) ?_) (Uz o4)) (Bn o7)
   · exact av Nq (av bL (av (fQ o1) dX))
   · exact av bL (av XC (av bL dX))
 · have hw:=Bq aP [] rfl
   rw [List.append_nil]at hw
   have hs:=UA sets _ hw
   have hu:=Br stamp ttl ([.bl, .wd (⟨#[83,69,84]⟩:ByteArray), .bl]++(iQ dw (sets.map dL)++dP aP)) (by
    simp only [List.cons_append,List.nil_append,kC,lK];exact hs)
   simp only [List.append_assoc]
   simp only [List.cons_append,List.nil_append,kC,lK]at hu⊢
   exact hu
theorem Hg {aO:List ByteArray}{o:ByteArray}{stamp:Int}{aP:List Pr}(h:rM aO o stamp aP):
 dU (stP (qd aO o stamp aP))=aR (⟨#[100,101,108,101,116,101]⟩:ByteArray)::qb aO o stamp aP∧oL (stP (qd aO o stamp aP)):=by
 obtain ⟨o1,o2,o3,o4,_⟩:=h
 have e:stP (qd aO o stamp aP)= [.wd (⟨#[68,69,76,69,84,69]⟩:ByteArray), .bl]++(if aO= []then []else gM aO++ [.bl])++ [.wd (⟨#[70,82,79,77]⟩:ByteArray), .bl, .wd o]++dG stamp 0++dP aP:=rfl
 rw [e]
 have hc:dU (if aO= []then []else gM aO++ [.bl])=oF aO:=by
  by_cases hn:aO= []
  · subst hn;rfl
  · rw [if_neg hn,fM,xQ o1.1]
    unfold qz
    rw [if_neg hn]
    simp only [lJ,fC,aZ,List.nil_append]
    simp
 refine ⟨?_, ?_, ?_⟩
 · simp only [fM,uK,hc,uJ o4]
   unfold qb
   simp only [EO,Ni,lJ,fC,aZ,List.nil_append,List.cons_append]
   rw [dI o2]
   simp
 · refine bJ (bJ (bJ (bJ ?_ ?_) ?_) (Bp o3)) (Bn o4)
   · exact av Nr (av bL dX)
   · split
     · exact dX
     · exact bJ (ER o1.1) (av bL dX)
   · exact av EP (av bL (av (fQ o2) dX))
 · have hw:=Bq aP [] rfl
   rw [List.append_nil]at hw
   have hu:=Br stamp 0 _ hw
   have hf:nb false ([.wd (⟨#[70,82,79,77]⟩:ByteArray), .bl, .wd o]++(dG stamp 0++dP aP))=true:=by
    simp only [List.cons_append,List.nil_append,kC,lK];exact hu
   have hcn:nb false ((if aO= []then []else gM aO++ [.bl])++([.wd (⟨#[70,82,79,77]⟩:ByteArray), .bl, .wd o]++(dG stamp 0++dP aP)))=true:=by
    split
    · exact hf
    · rw [List.append_assoc]
      refine ES aO _ ?_
      rw [List.cons_append,List.nil_append,kC]
      exact hf
   simp only [List.append_assoc]
   simp only [List.cons_append,List.nil_append,kC,lK]at hcn⊢
   exact hcn
theorem Rn {aO:List ByteArray}{o:ByteArray}{aP:List Pr}{limit:Int}(h:GH aO o aP limit):
 dU (stP (JN aO o aP limit))=aR (⟨#[115,101,108,101,99,116]⟩:ByteArray)::GD aO o aP limit∧oL (stP (JN aO o aP limit)):=by
 obtain ⟨o1,o2,⟨o3,_⟩,o4⟩:=h
 have e:stP (JN aO o aP limit)= [.wd (⟨#[83,69,76,69,67,84]⟩:ByteArray), .bl]++gM aO++ [.bl, .wd (⟨#[70,82,79,77]⟩:ByteArray), .bl, .wd o]++dP aP++(if limit=0 then []else [.bl, .wd (⟨#[76,73,77,73,84]⟩:ByteArray), .bl, .nm limit]):=rfl
 rw [e]
 have hc:dU (if limit=0 then []else [.bl, .wd (⟨#[76,73,77,73,84]⟩:ByteArray), .bl, .nm limit])=uG limit:=by
  unfold uG
  split
  · rfl
  · simp only [Q6,lJ,Lh,fC,aZ,List.nil_append,List.cons_append]
 refine ⟨?_, ?_, ?_⟩
 · simp only [fM,hc,uJ o3,xQ o1.1]
   unfold GD
   simp only [Dn,EO,lJ,fC,aZ,List.nil_append,List.cons_append]
   rw [dI o2]
   simp
 · refine bJ (bJ (bJ (bJ ?_ (ER o1.1)) ?_) (Bn o3)) ?_
   · exact av Dr (av bL dX)
   · exact av bL (av EP (av bL (av (fQ o2) dX)))
   · split
     · exact dX
     · rename_i hl
       exact av bL (av Rf (av bL (av (wF (o4.resolve_left hl)) dX)))
 · have hl:nb true (if limit=0 then []else [.bl, .wd (⟨#[76,73,77,73,84]⟩:ByteArray), .bl, .nm limit])=true:=by
    split<;>rfl
   have hw:=Bq aP _ hl
   have hs:=ES aO ([.bl, .wd (⟨#[70,82,79,77]⟩:ByteArray), .bl, .wd o]++(dP aP++(if limit=0 then []else [.bl, .wd (⟨#[76,73,77,73,84]⟩:ByteArray), .bl, .nm limit]))) (by
    simp only [List.cons_append,List.nil_append,kC,lK];exact hw)
   simp only [List.append_assoc]
   simp only [List.cons_append,List.nil_append,kC,lK]at hs⊢
   exact hs
theorem Ns {nm:ByteArray}{aO:List ByteArray}{o on p q:ByteArray}(h:EJ nm aO o on p q):
 dU (stP (tO nm aO o on p q))=aR (⟨#[99,114,101,97,116,101]⟩:ByteArray)::aR (⟨#[109,97,116,101,114,105,97,108,105,122,101,100]⟩:ByteArray)::AX nm aO o on p q∧oL (stP (tO nm aO o on p q)):=by
 obtain ⟨o1,o2,o3,o4,o5,o6⟩:=h
 have e:stP (tO nm aO o on p q)= [.wd (⟨#[67,82,69,65,84,69]⟩:ByteArray), .bl, .wd (⟨#[77,65,84,69,82,73,65,76,73,90,69,68]⟩:ByteArray), .bl, .wd (⟨#[86,73,69,87]⟩:ByteArray), .bl, .wd nm, .bl, .wd (⟨#[65,83]⟩:ByteArray), .bl, .wd (⟨#[83,69,76,69,67,84]⟩:ByteArray), .bl]++gM aO++ [.bl, .wd (⟨#[70,82,79,77]⟩:ByteArray), .bl, .wd o, .bl, .wd (⟨#[87,72,69,82,69]⟩:ByteArray), .bl, .wd on, .bl, .wd (⟨#[73,83]⟩:ByteArray), .bl, .wd (⟨#[78,79,84]⟩:ByteArray), .bl, .wd (⟨#[78,85,76,76]⟩:ByteArray), .bl, .wd (⟨#[80,82,73,77,65,82,89]⟩:ByteArray), .bl, .wd (⟨#[75,69,89]⟩:ByteArray), .bl, .sg 40, .wd on, .sg 44, .bl, .wd p, .sg 44, .bl, .wd q, .sg 41]:=by
  rw [show stP (tO nm aO o on p q)=yX (tO nm aO o on p q)from rfl]
  unfold yX
  simp [tO,iQ,dw]
 rw [e]
 refine ⟨?_, ?_, ?_⟩
 · simp only [fM,xQ o2.1]
   unfold AX
   simp only [xP,Bg,QZ,zn,Ur,Zx,Dn,EO,Q0,Zy,Xv,Us,Lf,Lg,VZ,lJ,fC,aZ,List.nil_append,List.cons_append]
   rw [dI o1,dI o3,dI o4,dI o5,dI o6]
   simp
 · refine bJ (bJ ?_ (ER o2.1)) ?_
   · exact av xR (av bL (av zo (av bL (av Uv (av bL (av (fQ o1) (av bL (av ZB (av bL (av Dr (av bL dX)))))))))))
   · exact av bL (av EP (av bL (av (fQ o3) (av bL (av G5 (av bL (av (fQ o4) (av bL (av ZC (av bL (av XB (av bL (av Uw (av bL (av Bj (av bL (av Rb (av bL (av (j6 (by decide)) (av (fQ o4) (av (j6 (by decide)) (av bL (av (fQ o5) (av (j6 (by decide)) (av bL (av (fQ o6) (av (j6 (by decide)) dX)))))))))))))))))))))))))))
 · have hs:=ES aO [.bl, .wd (⟨#[70,82,79,77]⟩:ByteArray), .bl, .wd o, .bl, .wd (⟨#[87,72,69,82,69]⟩:ByteArray), .bl, .wd on, .bl, .wd (⟨#[73,83]⟩:ByteArray), .bl, .wd (⟨#[78,79,84]⟩:ByteArray), .bl, .wd (⟨#[78,85,76,76]⟩:ByteArray), .bl, .wd (⟨#[80,82,73,77,65,82,89]⟩:ByteArray), .bl, .wd (⟨#[75,69,89]⟩:ByteArray), .bl, .sg 40, .wd on, .sg 44, .bl, .wd p, .sg 44, .bl, .wd q, .sg 41] (by
    simp only [yY,kC,lK,Bt])
   simp only [List.append_assoc]
   simp only [List.cons_append,List.nil_append,kC,lK]at hs⊢
   exact hs
theorem JX {nm o on:ByteArray}(h:bH nm∧bH o∧bH on):
 dU (stP (xL nm o on))=aR (⟨#[99,114,101,97,116,101]⟩:ByteArray)::xK nm o on∧oL (stP (xL nm o on)):=by
 obtain ⟨o1,o2,o3⟩:=h
 have e:stP (xL nm o on)= [.wd (⟨#[67,82,69,65,84,69]⟩:ByteArray), .bl, .wd (⟨#[73,78,68,69,88]⟩:ByteArray), .bl, .wd nm, .bl, .wd (⟨#[79,78]⟩:ByteArray), .bl, .wd o, .bl, .sg 40, .wd on, .sg 41]:=rfl
 rw [e]
 refine ⟨?_, ?_, ?_⟩
 · unfold xK
   simp only [xP,Q5,Zz,Lf,Lg,lJ,fC,aZ,List.nil_append,List.cons_append]
   rw [dI o1,dI o2,dI o3]
   simp
 · exact av xR (av bL (av Rc (av bL (av (fQ o1) (av bL (av ZE (av bL (av (fQ o2) (av bL (av (j6 (by decide)) (av (fQ o3) (av (j6 (by decide)) dX))))))))))))
 · simp only [yY,kC,lK,Bt]
theorem Nt {nm:ByteArray}(h:bH nm):
 dU (stP {Sx.zero with kind:=4,name:=nm})= [aR (⟨#[100,114,111,112]⟩:ByteArray),dW nm]∧oL (stP {Sx.zero with kind:=4,name:=nm}):=by
 have e:stP {Sx.zero with kind:=4,name:=nm}= [.wd (⟨#[68,82,79,80]⟩:ByteArray), .bl, .wd nm]:=rfl
 rw [e]
 refine ⟨?_, ?_, ?_⟩
 · simp only [Ld,lJ,fC,aZ,List.nil_append,List.cons_append]
   rw [dI h]
   simp
 · exact av Lj (av bL (av (fQ h) dX))
 · simp only [kC,lK,Bt]
theorem Nu {ty:Int}:(Pc.wd (if ty=1 then (⟨#[84,69,88,84]⟩:ByteArray)else (⟨#[73,78,84]⟩:ByteArray))).toks= [yS ty]:=by
 unfold yS
 split
 · exact Uu
 · exact Xy
theorem Bu {c:Cl}(h:AQ c):dU (gZ c)= [dW c.name,yS c.ty]:=by
 unfold gZ
 rw [aZ,dI h.1,aZ,aZ,Nu];rfl
theorem Ho:∀(l:List Cl),(∀c∈l,AQ c)→l≠ []→dU (iQ dw (l.map gZ))++ [aR (⟨#[44]⟩:ByteArray)]=l.flatMap AP:=by
 intro l h hne
 rw [rU]
 cases l with
 |nil=>exact absurd rfl hne
 |cons a l=>
  simp only [List.map_cons]
  rw [Bu (h a (List.mem_cons_self ..)),nD,List.flatMap_map]
  have h2:∀c∈l,AQ c:=fun c hc=>h c (List.mem_cons_of_mem _ hc)
  clear h hne
  induction l generalizing a with
  |nil=>rfl
  |cons b l ih=>
   have:=ih b (fun c hc=>h2 c (List.mem_cons_of_mem _ hc))
   simp only [List.flatMap_cons,Bu (h2 b (List.mem_cons_self ..))]at this⊢
   rw [←this]
   simp [AP]
theorem JY {nm:ByteArray}{C:List Cl}{pk ck:ByteArray}(h:pW nm C pk ck):
 ∃C',pW nm C' pk ck∧kP nm C' pk ck=kP nm C pk ck∧dU (stP (kP nm C pk ck))=aR (⟨#[99,114,101,97,116,101]⟩:ByteArray)::aR (⟨#[116,97,98,108,101]⟩:ByteArray)::uE nm C' pk ck∧oL (stP (kP nm C pk ck)):=by
 obtain ⟨p,c,D,hp,hc,e0,e1,ok⟩:=nE h
 refine ⟨p::c::D,ok,e1, ?_⟩
 rw [e0]
 obtain ⟨o1,o2,_⟩:=ok
 have e:stP {Sx.zero with kind:=1,name:=nm,aW:=nm,part:=p,aI:=c,aN:=D}= [.wd (⟨#[67,82,69,65,84,69]⟩:ByteArray), .bl, .wd (⟨#[84,65,66,76,69]⟩:ByteArray), .bl, .wd nm, .bl, .sg 40]++iQ dw ((p::c::D).map gZ)++ [.sg 44, .bl, .wd (⟨#[80,82,73,77,65,82,89]⟩:ByteArray), .bl, .wd (⟨#[75,69,89]⟩:ByteArray), .bl, .sg 40, .wd pk, .sg 44, .bl, .wd ck, .sg 41, .sg 41]:=by
  rw [←hp,←hc];rfl
 rw [e]
 have np:bH pk:=hp▸(o2 p (List.mem_cons_self ..)).1
 have nc:bH ck:=hc▸(o2 c (List.mem_cons_of_mem _ (List.mem_cons_self ..))).1
 refine ⟨?_, ?_, ?_⟩
 · have ht:=Ho (p::c::D) o2 (by simp)
   unfold uE
   rw [←ht]
   simp only [fM]
   simp only [xP,QY,Bg,QZ,Lf,Lg,VZ,lJ,fC,aZ,List.nil_append,List.cons_append]
   rw [dI o1,dI np,dI nc]
   simp
 · refine bJ (bJ ?_ (Bd wE fun a ha=> ?_)) ?_
   · exact av xR (av bL (av Ra (av bL (av (fQ o1) (av bL (av (j6 (by decide)) dX))))))
   · obtain ⟨s,hs,rfl⟩:=List.mem_map.1 ha
     exact Rk (o2 s hs)
   · exact av (j6 (by decide)) (av bL (av Bj (av bL (av Rb (av bL (av (j6 (by decide)) (av (fQ np) (av (j6 (by decide)) (av bL (av (fQ nc) (av (j6 (by decide)) (av (j6 (by decide)) dX))))))))))))
 · have hs:=Bc dw wD ((p::c::D).map gZ) [.sg 44, .bl, .wd (⟨#[80,82,73,77,65,82,89]⟩:ByteArray), .bl, .wd (⟨#[75,69,89]⟩:ByteArray), .bl, .sg 40, .wd pk, .sg 44, .bl, .wd ck, .sg 41, .sg 41] (fun a ha=>by obtain ⟨s,_,rfl⟩:=List.mem_map.1 ha;exact Rl s) (by simp only [yY,kC,lK,Bt])
   simp only [List.append_assoc]
   simp only [List.cons_append,List.nil_append,yY,kC,lK]at hs⊢
   exact hs
theorem GC.text {x:Sx}{L:List To}(h:GC x L):dU (stP x)=L∧oL (stP x):=by
 cases h with
 |insert o c v a b h=>exact He h
 |update o a b c v h=>exact Hf h
 |remove o a b c h=>exact Hg h
theorem GP.text {x:Sx}{L:List To}(h:GP x L):GP x (dU (stP x))∧oL (stP x):=by
 cases h with
 |ask o c v a h=>obtain ⟨h1,h2⟩:=Rn h;exact ⟨h1▸ .ask o c v a h,h2⟩
 |view o c v a p q h=>obtain ⟨h1,h2⟩:=Ns h;exact ⟨h1▸ .view o c v a p q h,h2⟩
 |index o c v h=>obtain ⟨h1,h2⟩:=JX h;exact ⟨h1▸ .index o c v h,h2⟩
 |drop o h=>obtain ⟨h1,h2⟩:=Nt h;exact ⟨h1▸ .drop o h,h2⟩
 |table o c v a h=>
  obtain ⟨C',h1,h2,h3,h4⟩:=JY h
  refine ⟨?_,h4⟩
  rw [h3,←h2]
  exact .table o C' v a h1
def jE:Tx.Nd→jT
 | .plain x=>⟨x, []⟩
 | .change x=>⟨x, []⟩
 | .batch l=>⟨{Sx.zero with kind:=9},l⟩
theorem GB.text {l:List Sx}{L:List To}(h:GB l L):dU ((l.map stP).flatMap fun a=>a++ [.sg 59, .bl])=L∧(∀p∈(l.map stP).flatMap fun a=>a++ [.sg 59, .bl],p.ok)∧∀r,nb false r=true→nb false (((l.map stP).flatMap fun a=>a++ [.sg 59, .bl])++r)=true:=by
 induction h with
 |nil=>exact ⟨rfl,by simp,fun r hr=>hr⟩
 | @cons x L l M hx hl ih=>
  obtain ⟨i1,i2,i3⟩:=ih
  obtain ⟨g1,g2⟩:=hx.text
  rw [List.map_cons,List.flatMap_cons]
  refine ⟨?_, ?_,fun r hr=> ?_⟩
  · rw [fM,i1,fM,g1]
    simp only [ZA,lJ,fC,aZ,List.nil_append,List.cons_append]
    simp
  · exact bJ (bJ g2.ok (av (j6 (by decide)) (av bL dX))) i2
  · simp only [List.append_assoc]
    refine JW _ _ _ g2.nb ?_
    simp only [List.cons_append,List.nil_append,yY,kC]
    exact i3 r hr
theorem k_ne {k:Int}(h:k≠9) {x:Sx}(hx:x.kind=k):x.kind≠9:=by rw [hx];exact h
theorem UC {x:Sx}{L:List To}(h:GC x L):x.kind≠9:=by
 cases h with
 |insert=>exact k_ne (k:=5) (by decide) rfl
 |update=>exact k_ne (k:=6) (by decide) rfl
 |remove=>exact k_ne (k:=7) (by decide) rfl
theorem UD {x:Sx}{L:List To}(h:GP x L):x.kind≠9:=by
 cases h with
 |table nm C pk ck h=>
  obtain ⟨p,c,D,_,_,e0,_⟩:=nE h
  rw [e0];exact k_ne (k:=1) (by decide) rfl
 |view=>exact k_ne (k:=2) (by decide) rfl
 |index=>exact k_ne (k:=3) (by decide) rfl
 |drop=>exact k_ne (k:=4) (by decide) rfl
 |ask=>exact k_ne (k:=8) (by decide) rfl
theorem GN.text {nd:Tx.Nd}{L:List To}(h:GN nd L):GN nd (dU (GY (jE nd)))∧oL (GY (jE nd)):=by
 cases h with
 |plain h=>
  obtain ⟨h1,h2⟩:=h.text
  have e:GY (jE (.plain _))=stP _:=if_neg (UD h)
  rw [e]
  exact ⟨.plain h1,h2⟩
 |change h=>
  obtain ⟨h1,h2⟩:=h.text
  have e:GY (jE (.change _))=stP _:=if_neg (UC h)
  rw [e]
  exact ⟨.change (by have h' :=h;rw [←h1]at h';exact h'),h2⟩
 | @batch l L h h1 h2=>
  obtain ⟨g1,g2,g3⟩:=h.text
  have e:GY (jE (.batch l))= [.wd (⟨#[66,69,71,73,78]⟩:ByteArray), .bl, .wd (⟨#[66,65,84,67,72]⟩:ByteArray), .bl]++((l.map stP).flatMap fun a=>a++ [.sg 59, .bl])++ [.wd (⟨#[65,80,80,76,89]⟩:ByteArray), .bl, .wd (⟨#[66,65,84,67,72]⟩:ByteArray)]:=rfl
  rw [e]
  refine ⟨?_, ?_, ?_⟩
  · rw [fM,fM,g1]
    have e1:dU [.wd (⟨#[66,69,71,73,78]⟩:ByteArray), .bl, .wd (⟨#[66,65,84,67,72]⟩:ByteArray), .bl]= [aR (⟨#[98,101,103,105,110]⟩:ByteArray),aR (⟨#[98,97,116,99,104]⟩:ByteArray)]:=by simp only [Q7,GZ,lJ,fC,aZ,List.nil_append,List.cons_append]
    have e2:dU [.wd (⟨#[65,80,80,76,89]⟩:ByteArray), .bl, .wd (⟨#[66,65,84,67,72]⟩:ByteArray)]= [aR (⟨#[97,112,112,108,121]⟩:ByteArray),aR (⟨#[98,97,116,99,104]⟩:ByteArray)]:=by simp only [GZ,Q8,lJ,fC,aZ,List.nil_append,List.cons_append]
    rw [e1,e2]
    exact .batch h h1 h2
  · refine bJ (bJ (av Rh (av bL (av G6 (av bL dX)))) g2) (av Ri (av bL (av G6 dX)))
  · rw [List.append_assoc]
    simp only [List.cons_append,List.nil_append,kC,lK]
    exact g3 _ (by simp only [kC,lK,Bt])
theorem Nv (n n' b0 b1 b2 b3 c1 c2 c3 g:Nat) (hn:1≤n) (hg:1≤g) (h1:1<g→c1=b1) (h2:2<g→c2=b2) (h3:3<g→c3=b3) (hgn:g≤n) (aep:g<n')
 (e1:g=1→c1 / 64≠2) (e2:g=2→c2 / 64≠2) (e3:g=3→c3 / 64≠2) (hw:(Lib.decodeN n b0 b1 b2 b3).2≤g):
 Lib.decodeN n' b0 c1 c2 c3=Lib.decodeN n b0 b1 b2 b3:=by
 by_cases hok:(Lib.decodeN n b0 b1 b2 b3).1≠65533∨1<(Lib.decodeN n b0 b1 b2 b3).2
 · obtain ⟨w,hwd⟩:∃w,(Lib.decodeN n b0 b1 b2 b3).2=w:=⟨_,rfl⟩
   rw [hwd]at hw
   have hw1:1≤w:=by
    rcases iG n b0 b1 b2 b3 hn with ⟨h,_⟩|⟨_,h,_⟩<;>omega
   have hc:=rP n b0 b1 b2 b3 c1 c2 c3 w hwd (fun h=>h1 (by omega)) (fun h=>h2 (by omega)) (fun h=>h3 (by omega)) hok
   rw [←hc]
   exact vg w n' b0 c1 c2 c3 c1 c2 c3 hw1 (by omega) (fun _=>rfl) (fun _=>rfl) (fun _=>rfl) (by rw [hc];exact hok)
 · have hok' :¬((Lib.decodeN n' b0 c1 c2 c3).1≠65533∨1<(Lib.decodeN n' b0 c1 c2 c3).2):=by
    intro hk
    apply hok
    obtain ⟨w,hwd⟩:∃w,(Lib.decodeN n' b0 c1 c2 c3).2=w:=⟨_,rfl⟩
    have hwg:1≤w∧w≤g:=by
     rcases iG n' b0 c1 c2 c3 (by omega)with ⟨h,_⟩|⟨_,ha,_,hb,hc1,hc2,hc3⟩
     · omega
     · rw [hwd]at ha hb hc2 hc3
       refine ⟨by omega, ?_⟩
       refine Decidable.byContradiction fun hlt=> ?_
       have hlt' :g<w:=by omega
       have:g=1∨g=2∨g=3:=by omega
       rcases this with h|h|h
       · exact e1 h hc1
       · exact e2 h (hc2 (by omega))
       · exact e3 h (hc3 (by omega))
    have hc:=rP n' b0 c1 c2 c3 b1 b2 b3 w hwd (fun h=>(h1 (by omega)).symm) (fun h=>(h2 (by omega)).symm) (fun h=>(h3 (by omega)).symm) hk
    have:=vg w n b0 b1 b2 b3 b1 b2 b3 hwg.1 (by omega) (fun _=>rfl) (fun _=>rfl) (fun _=>rfl) (by rw [hc];exact hk)
    rw [this,hc];exact hk
   have bad:∀x:Nat×Nat,¬(x.1≠65533∨1<x.2)→1≤x.2→x=(65533,1):=by
    intro x h hx
    have h1:x.1=65533:=Decidable.byContradiction fun e=>h (.inl e)
    have h2:¬1<x.2:=fun e=>h (.inr e)
    exact Prod.ext h1 (by show x.2=1;omega)
   have p1:1≤(Lib.decodeN n b0 b1 b2 b3).2:=by rcases iG n b0 b1 b2 b3 hn with ⟨h,_⟩|⟨_,h,_⟩<;>omega
   have p2:1≤(Lib.decodeN n' b0 c1 c2 c3).2:=by rcases iG n' b0 c1 c2 c3 (by omega)with ⟨h,_⟩|⟨_,h,_⟩<;>omega
   rw [bad _ hok p1,bad _ hok' p2]
theorem Nw (s u:ByteArray) (d:Nat) (hb:∀k,k<d→bY u k=bY s k) (hd:d≤s.size) (hu:d<u.size) (hc:bY u d<128) (p:Nat) (hp:p<d) (hw:p+(Utf8.decode s p).2≤d):
 Utf8.decode u p=Utf8.decode s p:=by
 rw [iN]at hw
 rw [iN,iN s p,hb p hp]
 refine Nv (s.size - p) (u.size - p) (bY s p) (bY s (p+1)) (bY s (p+2)) (bY s (p+3)) _ _ _ (d - p) (by omega) (by omega) (fun h=>hb _ (by omega)) (fun h=>hb _ (by omega)) (fun h=>hb _ (by omega)) (by omega) (by omega) (fun h=> ?_) (fun h=> ?_) (fun h=> ?_) (by omega)
 · rw [show p+1=d by omega];omega
 · rw [show p+2=d by omega];omega
 · rw [show p+3=d by omega];omega
theorem drop_at (s:ByteArray):∀a pos,pos≤s.size→a≤(dK s pos).length→(dK s pos).drop a=dK s (aT s (dK s pos) a):=by
 intro a
 induction a with
 |zero=>intro pos h _;rw [List.drop_zero,jh s pos h]
 |succ a ih=>
  intro pos h hl
  by_cases hp:pos<s.size
  · have hw:=width_le s pos hp
    rw [bD s pos hp]at hl⊢
    rw [List.drop_succ_cons,ih _ hw (by simpa using hl)];rfl
  · rw [bI s pos hp]at hl;simp at hl
theorem JZ (s u:ByteArray) (d:Nat) (hb:∀k,k<d→bY u k=bY s k) (hd:d≤s.size) (hu:d<u.size) (hc:bY u d<128):
 ∀a pos,pos≤s.size→a≤(dK s pos).length→aT s (dK s pos) a=d→dK u pos=(dK s pos).take a++dK u d:=by
 intro a
 induction a with
 |zero=>intro pos h _ he;rw [jh s pos h]at he;rw [he];rfl
 |succ a ih=>
  intro pos h hl he
  by_cases hp:pos<s.size
  · have hw:=width_le s pos hp
    have hw0:=width_pos s pos hp
    rw [bD s pos hp]at hl he
    have he' :aT s (dK s (pos+(Utf8.decode s pos).2)) a=d:=he
    have hge:=(nW s a (pos+(Utf8.decode s pos).2) hw).1
    rw [he']at hge
    have hda:=Nw s u d hb hd hu hc pos (by omega) hge
    rw [bD s pos hp,List.take_succ_cons,List.cons_append]
    rw [bD u pos (by omega),hda,ih _ hw (by simpa using hl) he']
  · rw [bI s pos hp]at hl;simp at hl
structure Ins (s u r B:ByteArray) (a d:Nat):Prop where
 cs:Cut s r ((pts s).take a) d
 cu:Cut u (B++r) ((pts s).take a) d
 al:a≤(pts s).length
 at_:aT s (pts s) a=d
 head:(pts u)[a]? =some ⟨bY u d,d,1⟩
 lo:bY u d=32∨bY u d=10∨bY u d=13
 eq:∀k,k<d→bY u k=bY s k
theorem Lp (s:ByteArray) (k:Nat) (h:0<bY s k):k<s.size:=by
 refine Decidable.byContradiction fun hn=> ?_
 rw [uZ s k hn]at h
 exact absurd h (by omega)
theorem XF (s B:ByteArray) (a:Nat) (al:a≤(pts s).length) (hB:bY B 0=32∨bY B 0=10∨bY B 0=13):
 Ins s ((s.extract 0 (aT s (pts s) a)++B)++s.extract (aT s (pts s) a) s.size) (s.extract (aT s (pts s) a) s.size) B a (aT s (pts s) a):=by
 obtain ⟨d,hd⟩:∃d,aT s (pts s) a=d:=⟨_,rfl⟩
 have hdl:=xw s a
 rw [hd]at hdl⊢
 have hB0:0<B.size:=Lp B 0 (by omega)
 have hpre:(s.extract 0 d).size=d:=by rw [ByteArray.size_extract];omega
 obtain ⟨r,hr⟩:∃r,s.extract d s.size=r:=⟨_,rfl⟩
 obtain ⟨p,hp⟩:∃p,s.extract 0 d=p:=⟨_,rfl⟩
 have UE:=Bb s d hdl
 rw [hr,hp]at UE⊢
 rw [hp]at hpre
 have e1:(p++B)++r=p++(B++r):=lZ p B r
 have hbs:∀k,k<d→bY ((p++B)++r) k=bY s k:=by
  intro k hk
  rw [e1,UE,jq _ _ k (by omega),jq _ _ k (by omega)]
 have hbd:bY ((p++B)++r) d=bY B 0:=by
  rw [e1]
  have:=nS p (B++r) 0
  rw [hpre,Nat.add_zero]at this
  rw [this,jq _ _ 0 hB0]
 have Gj:((p++B)++r).size=d+(B++r).size:=by rw [e1,ByteArray.size_append,hpre]
 have hlt:d<((p++B)++r).size:=by rw [Gj,ByteArray.size_append];omega
 have hss:s.size=d+r.size:=by
  have:=congrArg ByteArray.size UE
  rw [ByteArray.size_append,hpre]at this
  exact this
 have hps:pts s=(pts s).take a++(pts r).map (Pt.shift d):=by
  have h1:=drop_at s a 0 (by omega) (by rw [←iF];exact al)
  rw [←iF,hd]at h1
  have h2:=Mj s d s.size 0 (by omega)
  rw [Nat.add_zero,hr,←iF]at h2
  rw [h2]at h1
  rw [←h1];exact (List.take_append_drop a _).symm
 have hpu:pts ((p++B)++r)=(pts s).take a++(pts (B++r)).map (Pt.shift d):=by
  have h1:=JZ s ((p++B)++r) d hbs hdl hlt (by omega) a 0 (by omega) (by rw [←iF];exact al) (by rw [←iF];exact hd)
  rw [←iF,←iF]at h1
  rw [h1]
  congr 1
  have h2:=qM p (B++r) (B++r).size 0 (by omega)
  rw [hpre,Nat.add_zero,←iF]at h2
  rw [e1];exact h2
 have htl:((pts s).take a).length=a:=by rw [List.length_take];omega
 refine ⟨⟨?_,hss,hps⟩,⟨?_,Gj,hpu⟩,al,hd, ?_,by rw [hbd];exact hB,hbs⟩
 · have:s.data.toList=p.data.toList++r.data.toList:=by rw [UE,ByteArray.data_append,Array.toList_append]
   rw [this,List.drop_append_of_le_length (by show d≤p.size;omega),List.drop_eq_nil_of_le (by show p.size≤d;omega),List.nil_append]
 · have:((p++B)++r).data.toList=p.data.toList++(B++r).data.toList:=by rw [e1,ByteArray.data_append,Array.toList_append]
   rw [this,List.drop_append_of_le_length (by show d≤p.size;omega),List.drop_eq_nil_of_le (by show p.size≤d;omega),List.nil_append]
 · rw [hpu,List.getElem?_append_right (by omega),htl,Nat.sub_self,List.getElem?_map,iF,bD _ 0 (by rw [ByteArray.size_append];omega)]
   have hdec:Utf8.decode (B++r) 0=(bY (B++r) 0,1):=CX _ 0 (by rw [ByteArray.size_append];omega) (by rw [jq _ _ 0 hB0];omega)
   rw [hdec,List.getElem?_cons_zero,Option.map_some,hbd,jq _ _ 0 hB0]
   simp [Pt.shift]
theorem Hr (s:ByteArray) (i:Nat) (hi:i<(pts s).length):aT s (pts s) i<aT s (pts s) (i+1):=by
 have key:∀k pos,pos≤s.size→k<(dK s pos).length→aT s (dK s pos) k<aT s (dK s pos) (k+1):=by
  intro k
  induction k with
  |zero=>
   intro pos h hk
   by_cases hp:pos<s.size
   · have hw:=width_pos s pos hp
     have hl:=width_le s pos hp
     rw [jh s pos h,bD s pos hp]
     have:=(nW s 0 (pos+(Utf8.decode s pos).2) hl).1
     show pos<aT s (dK s (pos+(Utf8.decode s pos).2)) 0
     omega
   · rw [bI s pos hp]at hk;simp at hk
  |succ k ih=>
   intro pos h hk
   by_cases hp:pos<s.size
   · have hl:=width_le s pos hp
     rw [bD s pos hp]at hk⊢
     exact ih _ hl (by simpa using hk)
   · rw [bI s pos hp]at hk;simp at hk
 have:=key i 0 (by omega) (by rw [←iF];exact hi)
 rw [←iF]at this
 exact this
theorem J2 (s:ByteArray) (next:Int) (i:Nat) (hn:next≤s.size):next≤aT s (pts s) (bZ (pts s) next i):=by
 have key:∀n i,(pts s).length - i≤n→next≤aT s (pts s) (bZ (pts s) next i):=by
  intro n
  induction n with
  |zero=>
   intro i h
   unfold bZ
   rw [sD (by omega)]
   unfold aT;rw [List.getElem?_eq_none (by omega)];exact hn
  |succ n ih=>
   intro i h
   by_cases hl:i<(pts s).length
   · by_cases hc:(((pts s)[i].at_:Nat):Int)<next
     · have:bZ (pts s) next i=bZ (pts s) next (i+1):=by
        unfold bZ
        exact gU hl (by simp only [List.getElem?_eq_getElem hl];exact decide_eq_true hc)
       rw [this];exact ih (i+1) (by omega)
     · have:bZ (pts s) next i=i:=by
        unfold bZ
        exact fJ (by simp only [List.getElem?_eq_getElem hl];exact decide_eq_false hc)
       rw [this];unfold aT;rw [List.getElem?_eq_getElem hl]
       show next≤(((pts s)[i].at_:Nat):Int);omega
   · unfold bZ
     rw [sD (by omega)]
     unfold aT;rw [List.getElem?_eq_none (by omega)];exact hn
 exact key _ i (Nat.le_refl _)
theorem Ro:∀(n:Nat) (l:List UInt8) (x:List UInt8×Nat),l.length≤n→lQ l=some x→l[x.2]? ≠some 39:=by
 intro n
 induction n with
 |zero=>intro l x hl hx;cases l with|nil=>simp [lQ]at hx|cons=>simp at hl
 |succ n ih=>
  intro l x hl hx
  match l with
  | []=>simp [lQ]at hx
  |c::t=>
   rw [lQ.eq_def]at hx
   simp only at hx
   by_cases hc:c=39
   · rw [if_pos hc]at hx
     match t with
     | []=>simp at hx;subst hx;simp
     |e::v=>
      simp only at hx
      by_cases he:e=39
      · rw [if_pos he]at hx
        obtain ⟨y,hy,rfl⟩:=Option.map_eq_some_iff.1 hx
        have:=ih v y (by simp at hl;omega) hy
        simpa using this
      · rw [if_neg he]at hx
        cases hx;simpa using he
   · rw [if_neg hc]at hx
     obtain ⟨y,hy,rfl⟩:=Option.map_eq_some_iff.1 hx
     have:=ih t y (by simp at hl;omega) hy
     simpa using this
theorem Ny:∀(n:Nat) (l m:List UInt8) (x:List UInt8×Nat),l.length≤n→lQ l=some x→(∀k,k<x.2→m[k]? =l[k]?)→m[x.2]? ≠some 39→lQ m=some x:=by
 intro n
 induction n with
 |zero=>intro l m x hl hx;cases l with|nil=>simp [lQ]at hx|cons=>simp at hl
 |succ n ih=>
  intro l m x hl hx hk hn
  match l with
  | []=>simp [lQ]at hx
  |c::t=>
   have hx0:=hx
   rw [lQ.eq_def]at hx
   simp only at hx
   by_cases hc:c=39
   · rw [if_pos hc]at hx
     match t with
     | []=>
      simp at hx;subst hx
      have h0:=hk 0 (by simp)
      cases m with
      |nil=>simp at h0
      |cons b m' =>
       simp at h0;subst h0
       rw [lQ.eq_def];simp only [if_pos hc]
       cases m' with
       |nil=>rfl
       |cons b' m'' =>simp at hn;simp [hn]
     |e::v=>
      simp only at hx
      by_cases he:e=39
      · rw [if_pos he]at hx
        obtain ⟨y,hy,rfl⟩:=Option.map_eq_some_iff.1 hx
        have h0:=hk 0 (by simp)
        have h1:=hk 1 (by simp)
        match m with
        | []=>simp at h0
        | [b]=>simp at h1
        |b::b' ::m' =>
         simp at h0 h1;subst h0;subst h1
         rw [lQ.eq_def];simp only [if_pos hc,if_pos he]
         rw [ih v m' y (by simp at hl;omega) hy (fun k hk2=>by have:=hk (k+2) (by simp;omega);simpa using this) (by simpa using hn)]
         rfl
      · rw [if_neg he]at hx
        cases hx
        have h0:=hk 0 (by simp)
        cases m with
        |nil=>simp at h0
        |cons b m' =>
         simp at h0;subst h0
         rw [lQ.eq_def];simp only [if_pos hc]
         cases m' with
         |nil=>rfl
         |cons b' m'' =>simp at hn;simp [hn]
   · rw [if_neg hc]at hx
     obtain ⟨y,hy,rfl⟩:=Option.map_eq_some_iff.1 hx
     have h0:=hk 0 (by simp)
     cases m with
     |nil=>simp at h0
     |cons b m' =>
      simp at h0;subst h0
      rw [lQ.eq_def];simp only [if_neg hc]
      rw [ih t m' y (by simp at hl;omega) hy (fun k hk2=>by have:=hk (k+1) (by simp;omega);simpa using this) (by simpa using hn)]
      rfl
section
variable {s u r B:ByteArray}{a d:Nat}(h:Ins s u r B a d)
include h
theorem Ins.get {j:Nat}(hj:j<a):(pts u)[j]? =(pts s)[j]? :=by
 have:=h.al
 rw [h.cu.pts,List.getElem?_append_left (by rw [List.length_take];omega),List.getElem?_take_of_lt hj]
theorem Ins.gy {j:Nat}(hj:j<a) (c:Int):aH.gy (pts u) j c=aH.gy (pts s) j c:=by unfold aH.gy;rw [h.get hj]
theorem Ins.dQ {j:Nat}(hj:j<a):aH.dQ (pts u) j=aH.dQ (pts s) j:=by unfold aH.dQ;rw [h.get hj]
theorem Ins.dn {j:Nat}(hj:j<a):aH.dn (pts u) j=aH.dn (pts s) j:=by unfold aH.dn;rw [h.get hj]
theorem Ins.mR {j:Nat}(hj:j<a):aH.mR (pts u) j=aH.mR (pts s) j:=by unfold aH.mR;rw [h.get hj]
theorem Ins.ZF (c:Int) (hc:c≠32∧c≠10∧c≠13):aH.gy (pts u) a c=false:=by
 unfold aH.gy;rw [h.head,beq_eq_false_iff_ne]
 have:=h.lo;show ((bY u d:Nat):Int)≠c;omega
theorem Ins.V3:aH.dQ (pts u) a=false:=by
 unfold aH.dQ;rw [h.head]
 have:=h.lo
 simp only [kT]
 rw [Bool.and_eq_false_iff];right
 simp only [Bool.or_eq_false_iff,Bool.and_eq_false_iff,beq_eq_false_iff_ne,decide_eq_false_iff_not]
 omega
theorem Ins.headD:aH.dn (pts u) a=false:=by
 unfold aH.dn;rw [h.head]
 have:=h.lo
 simp only [kE,Bool.and_eq_false_iff,decide_eq_false_iff_not];omega
theorem Ins.UF:a<(pts u).length:=(List.getElem?_eq_some_iff.1 h.head).1
theorem Ins.aT {j:Nat}(hj:j≤a):aH.aT u (pts u) j=aH.aT s (pts s) j:=by
 by_cases hlt:j<a
 · unfold aH.aT
   have:=h.al
   rw [h.get hlt,List.getElem?_eq_getElem (by omega)]
 · obtain rfl:j=a:=by omega
   rw [h.at_];unfold aH.aT;rw [h.head]
theorem Ins.len:(pts u).length=a+(pts (B++r)).length:=by
 have:=h.al
 rw [h.cu.len,List.length_take,Nat.min_eq_left this]
theorem Ins.dD (f g:Nat→Bool) (hfg:∀j,j<a→f j=g j) (hst:f a=false) (i:Nat) (hi:i≤a) (he:aH.dD g (pts s).length i≤a):aH.dD f (pts u).length i=aH.dD g (pts s).length i:=by
 have hal:=h.al
 have hul:=h.UF
 have key:∀n i,a - i≤n→i≤a→aH.dD g (pts s).length i≤a→aH.dD f (pts u).length i=aH.dD g (pts s).length i:=by
  intro n
  induction n with
  |zero=>
   intro i hn hi he
   obtain rfl:i=a:=by omega
   rw [fJ hst]
   have:=kZ g (pts s).length i
   omega
  |succ n ih=>
   intro i hn hi he
   by_cases hia:i=a
   · subst hia
     rw [fJ hst]
     have:=kZ g (pts s).length i
     omega
   · cases hg:g i with
     |false=>rw [fJ hg,fJ (by rw [hfg i (by omega)];exact hg)]
     |true=>
      rw [gU (by omega) hg]at he⊢
      rw [gU (by omega) (by rw [hfg i (by omega)];exact hg)]
      exact ih (i+1) (by omega) (by omega) he
 exact key _ i (Nat.le_refl _) hi he
theorem Ins.eZ {i:Nat}(hi:i≤a) (he:aH.eZ (pts s) i≤a):aH.eZ (pts u) i=aH.eZ (pts s) i:=
 h.dD _ _ (fun j hj=>by rw [h.dQ hj,h.dn hj]) (by rw [h.V3,h.headD];rfl) i hi he
theorem Ins.extract (x y:Nat) (hy:y≤d):u.extract x y=s.extract x y:=by
 have hu:=h.cu.size
 have hs:=h.cs.size
 apply ByteArray.ext
 apply Array.ext'
 apply List.ext_getElem?
 intro k
 simp only [ByteArray.data_extract,Array.toList_extract,List.extract_eq_take_drop,List.getElem?_take,List.getElem?_drop]
 by_cases hk:k<y - x
 · rw [if_pos hk,if_pos hk]
   have hks:x+k<s.size:=by omega
   have hku:x+k<u.size:=by omega
   have:=h.eq (x+k) (by omega)
   rw [←kY u _ hku,←kY s _ hks]at this
   rw [List.getElem?_eq_getElem (show x+k<u.data.toList.length from hku),List.getElem?_eq_getElem (show x+k<s.data.toList.length from hks)]
   exact congrArg some (UInt8.toNat_inj.1 this)
 · rw [if_neg hk,if_neg hk]
theorem Ins.jL {i:Nat}(hi:i≤a) (he:aH.eZ (pts s) i≤a):aH.jL u (pts u) i=aH.jL s (pts s) i:=by
 have hb:aH.aT s (pts s) (aH.eZ (pts s) i)≤d:=by rw [←h.at_];exact mY s _ _ he
 have ht:aH.lq u (pts u) i=aH.lq s (pts s) i:=by
  unfold aH.lq
  rw [h.eZ hi he,h.aT hi,h.aT he,h.extract _ _ hb]
 unfold aH.jL
 rw [ht,h.eZ hi he]
theorem Ins.num (i:Nat) (hi:i≤a):∀(v:Int) (ok:Bool),(aH.num (pts s) i v ok).2.2≤a→aH.num (pts u) i v ok=aH.num (pts s) i v ok:=by
 have key:∀n i,a - i≤n→i≤a→∀(v:Int) (ok:Bool),(aH.num (pts s) i v ok).2.2≤a→aH.num (pts u) i v ok=aH.num (pts s) i v ok:=by
  intro n
  induction n with
  |zero=>
   intro i hn hi v ok he
   obtain rfl:i=a:=by omega
   cases hd:aH.dn (pts s) i with
   |false=>rw [jU h.headD,jU hd]
   |true=>
    rw [oW hd]at he
    have:=zH (pts s) ((pts s).length - (i+1)) (i+1) (min (v*10+(aH.mR (pts s) i - 48)) 1099511627776) (ok&&decide (v*10+(aH.mR (pts s) i - 48)≤1099511627776))
    unfold aH.num at he;omega
  |succ n ih=>
   intro i hn hi v ok he
   by_cases hia:i=a
   · subst hia
     cases hd:aH.dn (pts s) i with
     |false=>rw [jU h.headD,jU hd]
     |true=>
      rw [oW hd]at he
      have:=zH (pts s) ((pts s).length - (i+1)) (i+1) (min (v*10+(aH.mR (pts s) i - 48)) 1099511627776) (ok&&decide (v*10+(aH.mR (pts s) i - 48)≤1099511627776))
      unfold aH.num at he;omega
   · have hlt:i<a:=by omega
     cases hd:aH.dn (pts s) i with
     |false=>rw [jU hd,jU (by rw [h.dn hlt];exact hd)]
     |true=>
      rw [oW hd]at he⊢
      rw [oW (by rw [h.dn hlt];exact hd),h.mR hlt]
      exact ih (i+1) (by omega) (by omega) _ _ he
 exact key _ i (Nat.le_refl _) hi
theorem Ins.dh {i:Nat}(hi:i<a) (hok:(aH.dh (pts s) i).2.1=true) (he:(aH.dh (pts s) i).2.2≤a):aH.dh (pts u) i=aH.dh (pts s) i:=by
 have hok1:((aH.iA (pts s) i).2.1&& !aH.dQ (pts s) (aH.iA (pts s) i).2.2)=true:=hok
 have he1:(aH.iA (pts s) i).2.2≤a:=he
 rw [Bool.and_eq_true]at hok1
 have hst:aH.bK (pts u) i=aH.bK (pts s) i:=by unfold aH.bK;rw [h.gy hi]
 have hge:=(KX (P:=pts s) (i:=i) (by have:=h.al;omega) hok1.1).1
 have hnr:aH.iA (pts u) i=aH.iA (pts s) i:=by
  have hd0:aH.dn (pts s) (aH.bK (pts s) i)=true:=by
   cases hd:aH.dn (pts s) (aH.bK (pts s) i)with
   |true=>rfl
   |false=>
    have:=hok1.1
    unfold aH.iA at this
    rw [hd]at this
    unfold aH.num at this;rw [KW]at this;cases this
  have hsl:aH.bK (pts s) i<a:=by
   have h1:(aH.iA (pts s) i).2.2=(aH.num (pts s) (aH.bK (pts s) i) 0 (aH.dn (pts s) (aH.bK (pts s) i))).2.2:=rfl
   rw [h1,oW hd0]at he1
   have:=zH (pts s) ((pts s).length - (aH.bK (pts s) i+1)) (aH.bK (pts s) i+1) (min (0*10+(aH.mR (pts s) (aH.bK (pts s) i) - 48)) 1099511627776) (aH.dn (pts s) (aH.bK (pts s) i)&&decide (0*10+(aH.mR (pts s) (aH.bK (pts s) i) - 48)≤1099511627776))
   unfold aH.num at he1;omega
  unfold aH.iA
  rw [hst,h.dn hsl]
  exact h.num _ (by omega) _ _ he1
 unfold aH.dh
 rw [hnr,h.gy hi]
 have hl:aH.dQ (pts u) (aH.iA (pts s) i).2.2=aH.dQ (pts s) (aH.iA (pts s) i).2.2:=by
  by_cases Rp:(aH.iA (pts s) i).2.2=a
  · have:=hok1.2
    rw [Rp]at this⊢
    rw [h.V3]
    cases hx:aH.dQ (pts s) a with
    |false=>rfl
    |true=>rw [hx]at this;cases this
  · exact h.dQ (by omega)
 rw [hl]
theorem Ins.jf {i:Nat}(hi:i<a) (hok:(aH.jf s (pts s) i).2.1=true) (he:(aH.jf s (pts s) i).2.2≤a):aH.jf u (pts u) i=aH.jf s (pts s) i:=by
 rw [qO]at hok he⊢
 rw [qO,h.aT (by omega)]
 simp only [Bool.and_eq_true]at hok
 obtain ⟨f,hf⟩:∃f,aH.aT s (pts s) i=f:=⟨_,rfl⟩
 rw [hf]at hok he⊢
 have hfd:f<d:=by
  have h1:=h.al
  have h2:=mY s (i+1) a (by omega)
  rw [h.at_]at h2
  have h3:aH.aT s (pts s) i<aH.aT s (pts s) (i+1):=Hr s i (by omega)
  omega
 -- where the text ends
 have hnd:sV s f≤d:=by
  have h1:aH.bZ (pts s) (sV s f) i≤a:=he
  have h2:=mY s _ _ h1
  rw [h.at_]at h2
  have h3:=J2 s (sV s f) i (KV s f).2
  omega
 have hun:dz u f=dz s f:=by
  have hs:=h.cs.size
  have hu:=h.cu.size
  unfold Cv at hok
  unfold sV at hnd
  unfold dz at hok hnd⊢
  by_cases hc:0≤(f:Int)∧(f:Int)<s.size∧s.data.toList[(f:Int).toNat]? =some 39
  · rw [if_pos hc]at hok hnd⊢
    simp only [Int.toNat_natCast]at hc hok hnd⊢
    have hbu:u.data.toList[f]? =some 39:=by
     rw [←hc.2.2]
     have:=congrArg (fun x:ByteArray=>x.data.toList[f]?) (h.extract 0 d (Nat.le_refl _))
     simp only [ByteArray.data_extract,Array.toList_extract,List.extract_eq_take_drop,List.drop_zero,Nat.sub_zero,List.getElem?_take]at this
     rw [if_pos hfd,if_pos hfd]at this
     exact this
    rw [if_pos ⟨by omega,by omega,hbu⟩]
    cases hq:lQ (s.data.toList.drop (f+1))with
    |none=>rw [hq]at hok;simp at hok
    |some x=>
     rw [hq]at hnd
     simp only [Option.map_some]at hnd
     have hx:f+1+x.2≤d:=by omega
     have hpre:∀k,k<x.2→(u.data.toList.drop (f+1))[k]? =(s.data.toList.drop (f+1))[k]? :=by
      intro k hk
      rw [List.getElem?_drop,List.getElem?_drop]
      have:=congrArg (fun x:ByteArray=>x.data.toList[f+1+k]?) (h.extract 0 d (Nat.le_refl _))
      simp only [ByteArray.data_extract,Array.toList_extract,List.extract_eq_take_drop,List.drop_zero,Nat.sub_zero,List.getElem?_take]at this
      rw [if_pos (by omega),if_pos (by omega)]at this
      exact this
     have hnext:(u.data.toList.drop (f+1))[x.2]? ≠some 39:=by
      rw [List.getElem?_drop]
      by_cases hxd:f+1+x.2=d
      · rw [hxd]
        have hlt:d<u.size:=by
         have:=h.lo
         exact Lp u d (by omega)
        rw [List.getElem?_eq_getElem (show d<u.data.toList.length from hlt)]
        intro e
        have e2:u[d]'hlt=39:=Option.some.inj e
        have:=h.lo
        rw [←kY u d hlt,e2]at this
        exact absurd this (by decide)
      · have h1:=Ro _ _ x (Nat.le_refl _) hq
        rw [List.getElem?_drop]at h1
        have h2:=congrArg (fun y:ByteArray=>y.data.toList[f+1+x.2]?) (h.extract 0 d (Nat.le_refl _))
        simp only [ByteArray.data_extract,Array.toList_extract,List.extract_eq_take_drop,List.drop_zero,Nat.sub_zero,List.getElem?_take]at h2
        rw [if_pos (by omega),if_pos (by omega)]at h2
        rw [h2];exact h1
     rw [Ny _ _ _ x (Nat.le_refl _) hq hpre hnext]
  · rw [if_neg hc]at hok;cases hok.1
 unfold Ad sV Cv at *
 rw [hun]
 refine Prod.ext rfl (Prod.ext rfl ?_)
 show aH.bZ (pts u) _ i=aH.bZ (pts s) _ i
 refine h.dD _ _ (fun j hj=>by rw [h.get hj]) ?_ i (by omega) he
 simp only [h.head]
 exact decide_eq_false (by show¬((d:Int)<_);omega)
end
end aH
end Go.Proofs.YtfbgdjcnlnfoaaaGreatDoor
