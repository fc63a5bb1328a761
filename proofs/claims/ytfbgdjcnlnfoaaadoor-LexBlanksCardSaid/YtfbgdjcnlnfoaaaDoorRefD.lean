/- Walks: the reference of layer 1: Letter, Name, Fold, Quote, Unquote. -/
import Derived.Test.YtfbgdjcnlnfoaaaDoorRefC
import Derived.Test.YtfbgdjcnlnfoaaaDoorPlainE
namespace Go.Proofs.YtfbgdjcnlnfoaaaDoor
open Go.RowKit
open Cle

end Go.Proofs.YtfbgdjcnlnfoaaaDoor
