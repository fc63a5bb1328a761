/- Parts of the proof, joined: LnF. -/
import Derived.Test.YtfbgdjcnlnfoaaaGreatDoorB10
import Derived.Test.YtfbgdjcnlnfoaaaGreatDoorCPIl
import Derived.Test.YtfbgdjcnlnfoaaaGreatDoorCPIm
import Derived.Test.YtfbgdjcnlnfoaaaGreatDoorCPIn
import Derived.Test.YtfbgdjcnlnfoaaaGreatDoorCPIo
import Derived.Test.YtfbgdjcnlnfoaaaGreatDoorCPIp
import Derived.Test.YtfbgdjcnlnfoaaaGreatDoorRows
namespace Go.Proofs.YtfbgdjcnlnfoaaaGreatDoor
open Go.RowKit
open aH
theorem zl {K:LK}{w:World}(h:LQ K w):Calls Tryz.prog 44 #[.pointer (some ⟨K.b,0,none⟩)] w (Ci K w):=by
 obtain ⟨v,hv,hn⟩:=Ch ((dM.refl h).alloc oZ).1
 have:v % 8<3∨(3≤v % 8∧v % 8<5)∨v % 8=5∨v % 8=6∨v % 8=7:=by omega
 rcases this with hk|hk|hk|hk|hk
 · exact Sz h hv hk hn
 · exact SB h hv hk hn
 · exact SC h hv hk hn
 · exact SE h hv hk hn
 · exact SF h hv hk hn
end Go.Proofs.YtfbgdjcnlnfoaaaGreatDoor
