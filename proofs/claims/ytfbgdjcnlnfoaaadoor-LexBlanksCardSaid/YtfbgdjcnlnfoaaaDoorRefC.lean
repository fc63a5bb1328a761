/- Walks: the reference of layer 1: Valid, Count, At, Letter, Name. -/
import Derived.Test.YtfbgdjcnlnfoaaaDoorRefB
import Derived.Test.YtfbgdjcnlnfoaaaDoorKitB
import Derived.Deep.QuietTactic
import Derived.BigQuiet
namespace Go.Proofs.YtfbgdjcnlnfoaaaDoor
open Go.RowKit
open Cle

end Go.Proofs.YtfbgdjcnlnfoaaaDoor
