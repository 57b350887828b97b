-- Pruned by wip/prune.py (a program of this session) from the printed words: what no text of this claim names is left out. Lean checks it.
import Derived.Test.YthlbjdiicmojfaaVInv
import Derived.Test.YthlbjdiicmojfaaVFootNe
namespace Go.Proofs.YthlbjdiicmojfaaW.PrintWords
open Go.RowKit
end Go.Proofs.YthlbjdiicmojfaaW.PrintWords
namespace Go.Proofs.YthlbjdiicmojfaaW.PrintLast
section
variable {ops : Array Oper} {a : Act} {o og : Oper} {g : Nat} {t : Tmp} {u : Bool}
end
end Go.Proofs.YthlbjdiicmojfaaW.PrintLast

