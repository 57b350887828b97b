-- Pruned by wip/prune.py (a program of this session) from the printed words: what no text of this claim names is left out. Lean checks it.
import Derived.Test.YthlbjdiicmojfaaVN
/-! ### 52. A row that stays read whatever happens to a block (a set of blocks) doesn't lie there -/
namespace Go.Proofs.YthlbjdiicmojfaaW.PrintWords
open Go.RowKit
namespace Kd
section
variable {α : Type} {d : Kd α} {W : World} {g n : Nat} {S ok : Nat → Prop} {A : Option Addr} {ad : Addr} {xs : List α}
end
end Kd
end Go.Proofs.YthlbjdiicmojfaaW.PrintWords

