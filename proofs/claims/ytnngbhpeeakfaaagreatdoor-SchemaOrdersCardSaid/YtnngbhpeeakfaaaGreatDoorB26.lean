/- Parts of a proof. -/
import Derived.Deep.Upon
import Derived.Test.YtnngbhpeeakfaaaGreatDoorB23
namespace Go.Proofs.YtnngbhpeeakfaaaGreatDoor
open Go.RowKit
open aK
theorem Rq (L:List Pr):∀u∈fG L,u.oneCell' =true:=by
 intro u hu;obtain ⟨c,_,hc⟩:=List.mem_flatMap.1 hu;unfold lM at hc;simp only [List.mem_cons,List.not_mem_nil,or_false]at hc;rcases hc with rfl|rfl|rfl|rfl<;>rfl
theorem Rs (L:List Pr):(fG L).length=L.length*4:=by
 induction L with
 |nil=>rfl
 |cons a l ih=>unfold fG at ih⊢;rw [List.flatMap_cons,List.length_append,ih];simp [lM];omega
theorem rG (q:Cl) (h:q.name.size≤2000000):(aW (dB q)).size≤2000010:=by
 unfold dB;split
 · have e:aW [.wd q.name, .bl, .wd (⟨#[84,69,88,84]⟩:ah)]=q.name++(⟨#[32,84,69,88,84]⟩:ah):=by apply ByteArray.ext;apply Array.ext';simp [aW,Pc.text]
   rw [e,ByteArray.size_append];show _+5≤_;omega
 · have e:aW [.wd q.name, .bl, .wd (⟨#[73,78,84]⟩:ah)]=q.name++(⟨#[32,73,78,84]⟩:ah):=by apply ByteArray.ext;apply Array.ext';simp [aW,Pc.text]
   rw [e,ByteArray.size_append];show _+4≤_;omega
end Go.Proofs.YtnngbhpeeakfaaaGreatDoor
