/- Walks: the laws of layer 1: awake, RunesAll. -/
import Derived.Test.YtfbgdjcnlnfoaaaDoorRefE
import Derived.Test.YtfbgdjcnlnfoaaaDoorSt
namespace Go.Proofs.YtfbgdjcnlnfoaaaDoor
open Go.RowKit
open Cle

end Go.Proofs.YtfbgdjcnlnfoaaaDoor
