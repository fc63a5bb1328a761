/- Walks: the reference of layer 1: Fold, Unquote. -/
import Derived.Test.YtfbgdjcnlnfoaaaDoorRefD
namespace Go.Proofs.YtfbgdjcnlnfoaaaDoor
open Go.RowKit
open Cle

end Go.Proofs.YtfbgdjcnlnfoaaaDoor
