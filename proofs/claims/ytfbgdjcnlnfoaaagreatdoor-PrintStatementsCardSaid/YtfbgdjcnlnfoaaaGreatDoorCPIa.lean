/- Parts of the proof, joined: Kit LexD. -/
import Derived.WalkKit
import Derived.WalkSpells
import Derived.WalkLawsBesides
import Derived.Lib.OthersKept
import Derived.Lib.Hide
import Derived.Test.YtfbgdjcnlnfoaaaGreatDoorB02
import Derived.Test.YtfbgdjcnlnfoaaaGreatDoorRows
namespace Go.Proofs.YtfbgdjcnlnfoaaaGreatDoor
open Go.RowKit
namespace aH
theorem FE (s:ByteArray):s.toList.isEmpty=decide (s.size=0):=by
 rw [ByteArray.toList_eq]
 obtain ⟨⟨l⟩⟩:=s
 cases l<;>rfl
end aH
open aH
theorem yG.gb {T:TypeId}{flat:List Pt→List Value}{L:Nat}{w w' :World}{b:Nat}{s:ByteArray}{P:List Pt}{i:Nat}(h:yG T flat L w b s P i) (hb:w.grownBy w' none):yG T flat L w' b s P i:=
 h.below ⟨hb.os,hb.tape,hb.output,hb.size,fun k hk=>hb.block k hk (by simp)⟩
end Go.Proofs.YtfbgdjcnlnfoaaaGreatDoor
