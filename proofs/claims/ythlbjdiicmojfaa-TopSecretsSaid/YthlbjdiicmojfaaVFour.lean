-- Pruned by wip/prune.py (a program of this session) from the printed words: what no text of this claim names is left out. Lean checks it.
import Derived.Test.YthlbjdiicmojfaaVTab
/-! ### 56. Four, five, six operations that may come up next, in any order -/
namespace Go.Proofs.YthlbjdiicmojfaaW.PrintLast
section
variable {P : Program} {ops : Array Oper} {Q : Exit → Act → World → Prop} {md : Region.Mode} {S : World → Prop} {ds : List Nat} {T : Bool × List (List Nat × List Nat)}
end
end Go.Proofs.YthlbjdiicmojfaaW.PrintLast

