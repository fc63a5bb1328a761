/- Parts of the proof, joined: PlainPN PlainPR PlainPS LawPE. -/
import Derived.Test.YtfbgdjcnlnfoaaaGreatDoorB13e
import Derived.Test.YtfbgdjcnlnfoaaaGreatDoorCPIc
import Derived.Test.YtfbgdjcnlnfoaaaGreatDoorRows
namespace Go.Proofs.YtfbgdjcnlnfoaaaGreatDoor
namespace aH
def Bo (X:Tx) (σ σ' :Ps):Prop:=(∀a,σ.bad=some a→a≤X.en)→∀a,σ'.bad=some a→a≤X.en
theorem Bo.refl {X:Tx}(σ:Ps):Bo X σ σ:=fun h=>h
theorem Bo.trans {X:Tx}{σ σ1 σ2:Ps}(h:Bo X σ σ1) (h' :Bo X σ1 σ2):Bo X σ σ2:=fun hb=>h' (h hb)
section
variable (X:Tx) (hE:∀t∈X.T,t.at_≤X.en)
include hE
end
end aH
open Go.RowKit
open aH
theorem aag {t:ByteArray}(h:t≠⟨#[]⟩):t.toList.isEmpty=false:=by
 rw [FE]
 exact decide_eq_false fun h2=>h (by apply ByteArray.ext;exact Array.eq_empty_of_size_eq_zero h2)
end Go.Proofs.YtfbgdjcnlnfoaaaGreatDoor
