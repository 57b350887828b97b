/- Parts of the proof of the law TopWash: walks of functions that it reaches, and plain facts about numbers, lists and curves; without a condition. -/
import Derived.Test.YtcelibdkicfgkaaProg
import Derived.Below
import Derived.Deep.Draws
import Derived.Deep.AppendLies
import Derived.Maps.AppendAt
import Derived.OwnWalk
import Derived.Laws.BytesArg
import Derived.Laws.MakeOwn
import Derived.Laws.OwnMore
import Derived.Deep.OwnRows
import Derived.Tactics
import Derived.Lib.ConvBytes
import Derived.Laws.Slices
import Derived.WalkKit
import Derived.KernelRfl
import Derived.RowKit3
import Derived.Deep.LoopGhost
import Derived.Deep.QuietTactic
import Derived.BigQuiet
import Derived.WideLaws
import Derived.Deep.DeepCutAuto
import Derived.Deep.CutBlock
import Derived.Deep.RegionHeld3
import Derived.Laws.Rows
import Derived.Lib.AppendStr
import Derived.ArgAppend
import Derived.Laws.IdiomCopy
import Derived.OrdersHeld
import Derived.Laws.BitsLemmas
import Derived.RowKit
import Derived.Test.YtcelibdkicfgkaaWWords
import Derived.Test.YtcelibdkicfgkaaWLast
import Derived.Test.YtcelibdkicfgkaaWTab
import Derived.Test.YtcelibdkicfgkaaWFour
import Derived.Test.YtcelibdkicfgkaaWQPut
import Derived.Test.YtcelibdkicfgkaaWApart
import Derived.Test.YtcelibdkicfgkaaWArr
import Derived.Test.YtcelibdkicfgkaaWZeros
import Derived.Test.YtcelibdkicfgkaaWFoot
import Derived.Test.YtcelibdkicfgkaaWKept
import Derived.Test.YtcelibdkicfgkaaWShare
import Derived.Test.YtcelibdkicfgkaaWN
import Derived.Test.YtcelibdkicfgkaaWFootNe
import Derived.Test.YtcelibdkicfgkaaWAt
import Derived.Test.YtcelibdkicfgkaaWEqStruct
import Derived.Test.YtcelibdkicfgkaaWRepsOne
import Derived.Test.YtcelibdkicfgkaaWInv
import Derived.Test.YtcelibdkicfgkaaWInvWords
import Derived.Test.YtcelibdkicfgkaaWGuard
import Derived.Test.YtcelibdkicfgkaaWNEv
import Derived.Test.YtcelibdkicfgkaaWMore
import Derived.Lib.LazyBuf
import Derived.Test.YtcelibdkicfgkaaWSized
import Derived.Deep.SlicePairs
import Derived.Deep.Strs
import Derived.ProofKit
/-! Part P0. -/
-- Written for this claim by wip/print_more.py (a session's program that runs the kit's printer with hand-proved functions beside). Lean checks it.
namespace Go.Proofs.Ytcelibdkicfgkaa.P
open Go.RowKit Go.Proofs.YtcelibdkicfgkaaW.PrintWords Go.Proofs.YtcelibdkicfgkaaW.PrintLast Go.Proofs.YtcelibdkicfgkaaW.PrintMore
attribute [local go_sem] max2_int min2_int max_two min_two max_three min_three max_four min_four   -- for this text's walks alone
set_option linter.unusedVariables false
set_option linter.unusedSimpArgs false



def errW : Option Int → Value
  | none => .nilIface
  | some c => .iface 0 (.int .i64 c)
theorem errW_none : errW none = .nilIface := rfl
theorem errW_some (c : Int) : errW (some c) = .iface 0 (.int .i64 c) := rfl

theorem info34 : (Try.prog.info? 34).map (fun i => (i.zero, i.size, i.bytes)) = some (some (.agg #[(.int .i64 0), (.int .i64 0)]), 2, 16) := by kernel_rfl
theorem info76 : (Try.prog.info? 76).map (fun i => (i.zero, i.size, i.bytes)) = some (some (.agg #[(.int .i64 0), (.int .i64 0), (.int .i64 0), (.int .i64 0)]), 4, 32) := by kernel_rfl
-- the values' own types
/-! #### struct type 61 -/
structure S61 where
  f0 : Int
  f1 : Int
def z61 : S61 := ⟨(0 : Int), (0 : Int)⟩
def k61 : Kd S61 := Kd.iso (Kd.pair (Kd.int .i64) (Kd.int .i64)) (fun x : S61 => (x.f0, x.f1))
theorem k61_open {w : World} {x : S61} {cs : List Value} (h : k61.K w x cs) : cs = [.int .i64 x.f0, .int .i64 x.f1] := by
  obtain ⟨_, _, rfl, rfl, rfl⟩ := h
  exact rfl
theorem k61_openM {w : World} {base : Nat} {ok : Nat → Prop} {x : S61} {cs : List Value} (h : k61.M w base ok x cs) : cs = [.int .i64 x.f0, .int .i64 x.f1] := by
  obtain ⟨_, _, rfl, rfl, rfl⟩ := h
  exact rfl
theorem k61_mk (w : World) (x : S61)  : k61.K w x [.int .i64 x.f0, .int .i64 x.f1] := ⟨[.int .i64 x.f0], [.int .i64 x.f1], rfl, rfl, rfl⟩
theorem k61_mkM (w : World) (base : Nat) (ok : Nat → Prop) (x : S61)  : k61.M w base ok x [.int .i64 x.f0, .int .i64 x.f1] := ⟨[.int .i64 x.f0], [.int .i64 x.f1], rfl, rfl, rfl⟩
def rd_T61 (xs : List S61) (i : Int) : S61 := xs.getD i.toNat z61
theorem at_T61 {w : World} {A : Option Addr} {n : Nat} {xs : List S61} (h : Kd.C k61 w A n xs) (i : Int) (h0 : 0 ≤ i) (h1 : i < n) : ∃ ad , A = some ad ∧ w.cell? (ad.add (i.toNat * 2)) = some (.int .i64 (rd_T61 xs i).f0) ∧ w.cell? ⟨(ad.add (i.toNat * 2)).block, (ad.add (i.toNat * 2)).off + 1, none⟩ = some (.int .i64 (rd_T61 xs i).f1) := by
  obtain ⟨ad, c, e, _, hK, hc0⟩ := Kd.C_get h z61 i h0 h1
  have hc : ∀ j u, c[j]? = some u → w.cell? (ad.add (i.toNat * 2 + j)) = some u := hc0
  obtain rfl := k61_open hK
  exact ⟨ad, e, hc 0 _ rfl, by rw [← add_field _ _ 1 (by omega)]; exact hc 1 _ rfl⟩

/-! #### struct type 34 -/
structure S34 where
  f0 : Int
  f1 : Int
def z34 : S34 := ⟨(0 : Int), (0 : Int)⟩
def k34 : Kd S34 := Kd.iso (Kd.pair (Kd.int .i64) (Kd.int .i64)) (fun x : S34 => (x.f0, x.f1))
theorem k34_open {w : World} {x : S34} {cs : List Value} (h : k34.K w x cs) : cs = [.int .i64 x.f0, .int .i64 x.f1] := by
  obtain ⟨_, _, rfl, rfl, rfl⟩ := h
  exact rfl
theorem k34_openM {w : World} {base : Nat} {ok : Nat → Prop} {x : S34} {cs : List Value} (h : k34.M w base ok x cs) : cs = [.int .i64 x.f0, .int .i64 x.f1] := by
  obtain ⟨_, _, rfl, rfl, rfl⟩ := h
  exact rfl
theorem k34_mk (w : World) (x : S34)  : k34.K w x [.int .i64 x.f0, .int .i64 x.f1] := ⟨[.int .i64 x.f0], [.int .i64 x.f1], rfl, rfl, rfl⟩
theorem k34_mkM (w : World) (base : Nat) (ok : Nat → Prop) (x : S34)  : k34.M w base ok x [.int .i64 x.f0, .int .i64 x.f1] := ⟨[.int .i64 x.f0], [.int .i64 x.f1], rfl, rfl, rfl⟩
def rd_T34 (xs : List S34) (i : Int) : S34 := xs.getD i.toNat z34
theorem at_T34 {w : World} {A : Option Addr} {n : Nat} {xs : List S34} (h : Kd.C k34 w A n xs) (i : Int) (h0 : 0 ≤ i) (h1 : i < n) : ∃ ad , A = some ad ∧ w.cell? (ad.add (i.toNat * 2)) = some (.int .i64 (rd_T34 xs i).f0) ∧ w.cell? ⟨(ad.add (i.toNat * 2)).block, (ad.add (i.toNat * 2)).off + 1, none⟩ = some (.int .i64 (rd_T34 xs i).f1) := by
  obtain ⟨ad, c, e, _, hK, hc0⟩ := Kd.C_get h z34 i h0 h1
  have hc : ∀ j u, c[j]? = some u → w.cell? (ad.add (i.toNat * 2 + j)) = some u := hc0
  obtain rfl := k34_open hK
  exact ⟨ad, e, hc 0 _ rfl, by rw [← add_field _ _ 1 (by omega)]; exact hc 1 _ rfl⟩

/-! #### struct type 76 -/
structure S76 where
  f0 : S61
  f1 : S34
def z76 : S76 := ⟨z61, z34⟩
def k76 : Kd S76 := Kd.iso (Kd.pair k61 k34) (fun x : S76 => (x.f0, x.f1))
theorem k76_open {w : World} {x : S76} {cs : List Value} (h : k76.K w x cs) : cs = [.int .i64 x.f0.f0, .int .i64 x.f0.f1, .int .i64 x.f1.f0, .int .i64 x.f1.f1] := by
  obtain ⟨_, _, rfl, s0, s2⟩ := h
  obtain rfl := k61_open s0
  obtain rfl := k34_open s2
  exact rfl
theorem k76_openM {w : World} {base : Nat} {ok : Nat → Prop} {x : S76} {cs : List Value} (h : k76.M w base ok x cs) : cs = [.int .i64 x.f0.f0, .int .i64 x.f0.f1, .int .i64 x.f1.f0, .int .i64 x.f1.f1] := by
  obtain ⟨_, _, rfl, s0, s2⟩ := h
  obtain rfl := k61_openM s0
  obtain rfl := k34_openM s2
  exact rfl
theorem k76_mk (w : World) (x : S76)  : k76.K w x [.int .i64 x.f0.f0, .int .i64 x.f0.f1, .int .i64 x.f1.f0, .int .i64 x.f1.f1] := ⟨[.int .i64 x.f0.f0, .int .i64 x.f0.f1], [.int .i64 x.f1.f0, .int .i64 x.f1.f1], rfl, (k61_mk w x.f0 ), (k34_mk w x.f1 )⟩
theorem k76_mkM (w : World) (base : Nat) (ok : Nat → Prop) (x : S76)  : k76.M w base ok x [.int .i64 x.f0.f0, .int .i64 x.f0.f1, .int .i64 x.f1.f0, .int .i64 x.f1.f1] := ⟨[.int .i64 x.f0.f0, .int .i64 x.f0.f1], [.int .i64 x.f1.f0, .int .i64 x.f1.f1], rfl, (k61_mkM w base ok x.f0 ), (k34_mkM w base ok x.f1 )⟩
def rd_T76 (xs : List S76) (i : Int) : S76 := xs.getD i.toNat z76
theorem at_T76 {w : World} {A : Option Addr} {n : Nat} {xs : List S76} (h : Kd.C k76 w A n xs) (i : Int) (h0 : 0 ≤ i) (h1 : i < n) : ∃ ad , A = some ad ∧ w.cell? (ad.add (i.toNat * 4)) = some (.int .i64 (rd_T76 xs i).f0.f0) ∧ w.cell? ⟨(ad.add (i.toNat * 4)).block, (ad.add (i.toNat * 4)).off + 1, none⟩ = some (.int .i64 (rd_T76 xs i).f0.f1) ∧ w.cell? ⟨(ad.add (i.toNat * 4)).block, (ad.add (i.toNat * 4)).off + 2, none⟩ = some (.int .i64 (rd_T76 xs i).f1.f0) ∧ w.cell? ⟨(ad.add (i.toNat * 4)).block, (ad.add (i.toNat * 4)).off + 3, none⟩ = some (.int .i64 (rd_T76 xs i).f1.f1) := by
  obtain ⟨ad, c, e, _, hK, hc0⟩ := Kd.C_get h z76 i h0 h1
  have hc : ∀ j u, c[j]? = some u → w.cell? (ad.add (i.toNat * 4 + j)) = some u := hc0
  obtain rfl := k76_open hK
  exact ⟨ad, e, hc 0 _ rfl, by rw [← add_field _ _ 1 (by omega)]; exact hc 1 _ rfl, by rw [← add_field _ _ 2 (by omega)]; exact hc 2 _ rfl, by rw [← add_field _ _ 3 (by omega)]; exact hc 3 _ rfl⟩

/-! #### struct type 56 -/
structure S56 where
  f0 : Int
  f1 : Int
  f2 : Int
def z56 : S56 := ⟨(0 : Int), (0 : Int), (0 : Int)⟩
def k56 : Kd S56 := Kd.iso (Kd.pair (Kd.int .i64) (Kd.pair (Kd.int .i64) (Kd.int .i64))) (fun x : S56 => (x.f0, x.f1, x.f2))
theorem k56_open {w : World} {x : S56} {cs : List Value} (h : k56.K w x cs) : cs = [.int .i64 x.f0, .int .i64 x.f1, .int .i64 x.f2] := by
  obtain ⟨_, _, rfl, rfl, ⟨_, _, rfl, rfl, rfl⟩⟩ := h
  exact rfl
theorem k56_openM {w : World} {base : Nat} {ok : Nat → Prop} {x : S56} {cs : List Value} (h : k56.M w base ok x cs) : cs = [.int .i64 x.f0, .int .i64 x.f1, .int .i64 x.f2] := by
  obtain ⟨_, _, rfl, rfl, ⟨_, _, rfl, rfl, rfl⟩⟩ := h
  exact rfl
theorem k56_mk (w : World) (x : S56)  : k56.K w x [.int .i64 x.f0, .int .i64 x.f1, .int .i64 x.f2] := ⟨[.int .i64 x.f0], [.int .i64 x.f1, .int .i64 x.f2], rfl, rfl, ⟨[.int .i64 x.f1], [.int .i64 x.f2], rfl, rfl, rfl⟩⟩
theorem k56_mkM (w : World) (base : Nat) (ok : Nat → Prop) (x : S56)  : k56.M w base ok x [.int .i64 x.f0, .int .i64 x.f1, .int .i64 x.f2] := ⟨[.int .i64 x.f0], [.int .i64 x.f1, .int .i64 x.f2], rfl, rfl, ⟨[.int .i64 x.f1], [.int .i64 x.f2], rfl, rfl, rfl⟩⟩
def rd_T56 (xs : List S56) (i : Int) : S56 := xs.getD i.toNat z56
theorem at_T56 {w : World} {A : Option Addr} {n : Nat} {xs : List S56} (h : Kd.C k56 w A n xs) (i : Int) (h0 : 0 ≤ i) (h1 : i < n) : ∃ ad , A = some ad ∧ w.cell? (ad.add (i.toNat * 3)) = some (.int .i64 (rd_T56 xs i).f0) ∧ w.cell? ⟨(ad.add (i.toNat * 3)).block, (ad.add (i.toNat * 3)).off + 1, none⟩ = some (.int .i64 (rd_T56 xs i).f1) ∧ w.cell? ⟨(ad.add (i.toNat * 3)).block, (ad.add (i.toNat * 3)).off + 2, none⟩ = some (.int .i64 (rd_T56 xs i).f2) := by
  obtain ⟨ad, c, e, _, hK, hc0⟩ := Kd.C_get h z56 i h0 h1
  have hc : ∀ j u, c[j]? = some u → w.cell? (ad.add (i.toNat * 3 + j)) = some u := hc0
  obtain rfl := k56_open hK
  exact ⟨ad, e, hc 0 _ rfl, by rw [← add_field _ _ 1 (by omega)]; exact hc 1 _ rfl, by rw [← add_field _ _ 2 (by omega)]; exact hc 2 _ rfl⟩

end Go.Proofs.Ytcelibdkicfgkaa.P

/-! Part Spec. -/
/- Plain facts for the law TopWash: lots as lists of grains, rows of masses, moves, fractions; without a condition. -/
namespace Go.Proofs.Ytcelibdkicfgkaa.P
open Go.RowKit Go.Proofs.YtcelibdkicfgkaaW.PrintWords Go.Proofs.YtcelibdkicfgkaaW.PrintLast Go.Proofs.YtcelibdkicfgkaaW.PrintMore
set_option linter.unusedVariables false

/-- mass of at most a size -/
def cu : List S61 → Int → Int
  | [], _ => 0
  | g :: l, s => (if g.f0 ≤ s then g.f1 else 0) + cu l s
/-- mass at a size -/
def pt : List S61 → Int → Int
  | [], _ => 0
  | g :: l, s => (if g.f0 = s then g.f1 else 0) + pt l s
def tot : List S61 → Int
  | [] => 0
  | g :: l => g.f1 + tot l
def mom : List S61 → Int
  | [] => 0
  | g :: l => g.f0 * g.f1 + mom l
def asc : Int → List S61 → Prop
  | _, [] => True
  | a, g :: l => a < g.f0 ∧ 1 ≤ g.f1 ∧ asc g.f0 l
def ap1 (f : Int → Int) (m : S56) : Int → Int := fun s => (f s - if m.f0 = s then m.f2 else 0) + if m.f1 = s then m.f2 else 0
def aps : (Int → Int) → List S56 → Option (Int → Int)
  | f, [] => some f
  | f, m :: ms => if f m.f0 < m.f2 then none else aps (ap1 f m) ms
def okMv (m : S56) : Prop := m.f0 ≤ 20 ∧ 1 ≤ m.f1 ∧ m.f1 < m.f0 ∧ 1 ≤ m.f2 ∧ m.f2 ≤ 100
def work2 : List S56 → Int
  | [] => 0
  | m :: ms => m.f2 * (m.f0 - m.f1) + work2 ms
def cut1 (g : S61) (n : Int) (l : List S61) : List S61 := if g.f1 - n = 0 then l else ⟨g.f0, g.f1 - n⟩ :: l
def one1 (g h : S61) (n : Int) : List S56 := if g.f0 < h.f0 then [⟨h.f0, g.f0, n⟩] else []
/-- the moves: x is what shall be, y what is -/
def greedy : Nat → List S61 → List S61 → List S56
  | 0, _, _ => []
  | k + 1, g :: x, h :: y => one1 g h (min g.f1 h.f1) ++ greedy k (cut1 g (min g.f1 h.f1) x) (cut1 h (min g.f1 h.f1) y)
  | _ + 1, _, _ => []

theorem asc_mono {a b : Int} (h : b ≤ a) : ∀ {l}, asc a l → asc b l
  | [], _ => trivial
  | g :: l, ⟨h1, h2, h3⟩ => ⟨by omega, h2, h3⟩
theorem asc_gt {a : Int} : ∀ {l}, asc a l → ∀ g ∈ l, a < g.f0
  | [], _ => by simp
  | g :: l, ⟨h1, h2, h3⟩ => by
    intro q hq
    rcases List.mem_cons.1 hq with rfl | hq
    · exact h1
    · have := asc_gt h3 q hq; omega
theorem asc_pos {a : Int} : ∀ {l}, asc a l → ∀ g ∈ l, 1 ≤ g.f1
  | [], _ => by simp
  | g :: l, ⟨h1, h2, h3⟩ => by
    intro q hq
    rcases List.mem_cons.1 hq with rfl | hq
    · exact h2
    · exact asc_pos h3 q hq
theorem cu_low {a s : Int} : ∀ {l}, asc a l → s ≤ a → cu l s = 0
  | [], _, _ => rfl
  | g :: l, ⟨h1, h2, h3⟩, h => by
    simp only [cu]; rw [if_neg (by omega), cu_low h3 (by omega)]; rfl
theorem cu_pos {a s : Int} : ∀ {l}, asc a l → 0 ≤ cu l s
  | [], _ => Int.le_refl _
  | g :: l, ⟨h1, h2, h3⟩ => by
    have := cu_pos (s := s) h3
    simp only [cu]; split <;> omega
theorem pt_low {a s : Int} : ∀ {l}, asc a l → s ≤ a → pt l s = 0
  | [], _, _ => rfl
  | g :: l, ⟨h1, h2, h3⟩, h => by
    simp only [pt]; rw [if_neg (by omega), pt_low h3 (by omega)]; rfl
theorem pt_pos {a s : Int} : ∀ {l}, asc a l → 0 ≤ pt l s
  | [], _ => Int.le_refl _
  | g :: l, ⟨h1, h2, h3⟩ => by
    have := pt_pos (s := s) h3
    simp only [pt]; split <;> omega
theorem pt_high {s : Int} : ∀ {l : List S61}, (∀ g ∈ l, g.f0 < s) → pt l s = 0
  | [], _ => rfl
  | g :: l, h => by
    have h1 := h g (by simp)
    simp only [pt]; rw [if_neg (by omega), pt_high (fun q hq => h q (by simp [hq]))]; rfl
theorem cu_high {s : Int} : ∀ {l : List S61}, (∀ g ∈ l, g.f0 ≤ s) → cu l s = tot l
  | [], _ => rfl
  | g :: l, h => by
    have h1 := h g (by simp)
    simp only [cu, tot]; rw [if_pos (by omega), cu_high (fun q hq => h q (by simp [hq]))]
theorem tot_pos {a : Int} : ∀ {l}, asc a l → 0 ≤ tot l
  | [], _ => Int.le_refl _
  | g :: l, ⟨h1, h2, h3⟩ => by
    have := tot_pos h3
    simp only [tot]; omega
theorem cut1_asc {a : Int} {g : S61} {l} (n : Int) (h : asc a (g :: l)) (hn : n ≤ g.f1) : asc a (cut1 g n l) := by
  unfold cut1; obtain ⟨h1, h2, h3⟩ := h
  split
  · exact asc_mono (by omega) h3
  · exact ⟨h1, by show 1 ≤ g.f1 - n; omega, h3⟩
theorem cut1_cu (g : S61) (n : Int) (l) (s : Int) : cu (cut1 g n l) s = cu (g :: l) s - if g.f0 ≤ s then n else 0 := by
  unfold cut1; split <;> simp only [cu] <;> split <;> omega
theorem cut1_pt (g : S61) (n : Int) (l) (s : Int) : pt (cut1 g n l) s = pt (g :: l) s - if g.f0 = s then n else 0 := by
  unfold cut1; split <;> simp only [pt] <;> split <;> omega
theorem cut1_tot (g : S61) (n : Int) (l) : tot (cut1 g n l) = tot (g :: l) - n := by
  unfold cut1; split <;> simp only [tot] <;> omega
theorem cut1_mom (g : S61) (n : Int) (l) : mom (cut1 g n l) = mom (g :: l) - g.f0 * n := by
  unfold cut1; split
  · rename_i h; have : g.f1 = n := by omega
    simp only [mom]; rw [this]; omega
  · simp only [mom]; rw [Int.mul_sub]; omega
theorem cut1_len (g : S61) (n : Int) (l) : (cut1 g n l).length ≤ l.length + 1 := by
  unfold cut1; split <;> simp
theorem cut1_len0 (g : S61) (n : Int) (l) (h : g.f1 = n) : (cut1 g n l).length = l.length := by
  unfold cut1; rw [if_pos (by omega)]
theorem cut1_all {p : S61 → Prop} (g : S61) (n : Int) (l) (h : ∀ q ∈ g :: l, p q) (h2 : p ⟨g.f0, g.f1 - n⟩) : ∀ q ∈ cut1 g n l, p q := by
  unfold cut1; split
  · exact fun q hq => h q (by simp [hq])
  · intro q hq; rcases List.mem_cons.1 hq with rfl | hq
    · exact h2
    · exact h q (by simp [hq])

/-- what a step of the two lists keeps -/
structure Pair (x y : List S61) : Prop where
  ax : asc 0 x
  ay : asc 0 y
  tt : tot x = tot y
  dom : ∀ s, cu y s ≤ cu x s
  bx : ∀ g ∈ x, g.f0 ≤ 20 ∧ g.f1 ≤ 100
  bY : ∀ g ∈ y, g.f0 ≤ 20 ∧ g.f1 ≤ 100
theorem Pair.ne {g x y} (h : Pair (g :: x) y) : ∃ q z, y = q :: z := by
  cases y with
  | cons q z => exact ⟨q, z, rfl⟩
  | nil =>
    have h1 := h.tt; have h2 := h.ax.2.1; have h3 := tot_pos h.ax.2.2
    simp only [tot] at h1; omega
theorem Pair.le {g h x y} (p : Pair (g :: x) (h :: y)) : g.f0 ≤ h.f0 := by
  refine Decidable.byContradiction fun hc => ?_
  have h1 := p.dom h.f0
  have h2 : cu (g :: x) h.f0 = 0 := by
    simp only [cu]; rw [if_neg (by omega), cu_low p.ax.2.2 (by omega)]; rfl
  have h3 := cu_pos (s := h.f0) p.ay.2.2
  have h4 := p.ay.2.1
  simp only [cu] at h1 h2; rw [if_pos (Int.le_refl _)] at h1; omega
theorem Pair.step {g h x y} (p : Pair (g :: x) (h :: y)) : Pair (cut1 g (min g.f1 h.f1) x) (cut1 h (min g.f1 h.f1) y) := by
  have hn1 : min g.f1 h.f1 ≤ g.f1 := Int.min_le_left _ _
  have hn2 : min g.f1 h.f1 ≤ h.f1 := Int.min_le_right _ _
  have h1 := p.ax.2.1; have h2 := p.ay.2.1
  have hn0 : 1 ≤ min g.f1 h.f1 := by omega
  have hle := p.le
  generalize min g.f1 h.f1 = n at *
  refine ⟨cut1_asc n p.ax hn1, cut1_asc n p.ay hn2, by rw [cut1_tot, cut1_tot, p.tt], ?_, ?_, ?_⟩
  · intro s; rw [cut1_cu, cut1_cu]
    have h3 := p.dom s
    by_cases c : h.f0 ≤ s
    · rw [if_pos c, if_pos (by omega)]; omega
    · rw [if_neg c]
      have h4 : cu (h :: y) s = 0 := by simp only [cu]; rw [if_neg c, cu_low p.ay.2.2 (by omega)]; rfl
      have h5 : 0 ≤ cu x s := cu_pos p.ax.2.2
      simp only [cu] at h4 ⊢
      split <;> omega
  · have := p.bx g (by simp)
    exact cut1_all g n x p.bx ⟨this.1, by show g.f1 - n ≤ 100; omega⟩
  · have := p.bY h (by simp)
    exact cut1_all h n y p.bY ⟨this.1, by show h.f1 - n ≤ 100; omega⟩
theorem Pair.len {g h : S61} {x y : List S61} : (cut1 g (min g.f1 h.f1) x).length + (cut1 h (min g.f1 h.f1) y).length + 1 ≤ (g :: x).length + (h :: y).length := by
  have h1 := cut1_len g (min g.f1 h.f1) x
  have h2 := cut1_len h (min g.f1 h.f1) y
  simp only [List.length_cons]
  rcases Int.le_total g.f1 h.f1 with c | c
  · have := cut1_len0 g (min g.f1 h.f1) x (Int.min_eq_left c).symm; omega
  · have := cut1_len0 h (min g.f1 h.f1) y (Int.min_eq_right c).symm; omega

theorem greedy_len : ∀ k x y, (greedy k x y).length ≤ x.length + y.length
  | 0, _, _ => by simp [greedy]
  | k + 1, [], _ => by simp [greedy]
  | k + 1, _ :: _, [] => by simp [greedy]
  | k + 1, g :: x, h :: y => by
    have h1 := greedy_len k (cut1 g (min g.f1 h.f1) x) (cut1 h (min g.f1 h.f1) y)
    have h2 := Pair.len (g := g) (h := h) (x := x) (y := y)
    simp only [greedy, List.length_append]
    have h3 : (one1 g h (min g.f1 h.f1)).length ≤ 1 := by unfold one1; split <;> simp
    omega
theorem greedy_ok : ∀ k x y, Pair x y → ∀ m ∈ greedy k x y, okMv m
  | 0, _, _, _ => by simp [greedy]
  | k + 1, [], _, _ => by simp [greedy]
  | k + 1, _ :: _, [], _ => by simp [greedy]
  | k + 1, g :: x, h :: y, p => by
    intro m hm
    simp only [greedy, List.mem_append] at hm
    rcases hm with hm | hm
    · unfold one1 at hm; split at hm
      · rename_i hc
        simp only [List.mem_cons, List.not_mem_nil, or_false] at hm; subst hm
        have h1 := p.ax.2.1; have h2 := p.ay.2.1; have h3 := p.ax.1
        have h4 := p.bx g (by simp); have h5 := p.bY h (by simp)
        exact ⟨h5.1, by show 1 ≤ g.f0; omega, hc, by show 1 ≤ min g.f1 h.f1; omega, by show min g.f1 h.f1 ≤ 100; omega⟩
      · simp at hm
    · exact greedy_ok k _ _ p.step m hm
theorem greedy_work : ∀ k x y, Pair x y → x.length + y.length ≤ k → work2 (greedy k x y) = mom y - mom x
  | k, [], y, p, _ => by
    have h0 := p.tt
    have : y = [] := by
      cases y with
      | nil => rfl
      | cons q z => have h1 := p.ay.2.1; have h2 := tot_pos p.ay.2.2; simp only [tot] at h0; omega
    subst this
    cases k <;> simp [greedy, work2]
  | 0, g :: x, y, p, hk => by simp at hk
  | k + 1, g :: x, y, p, hk => by
    obtain ⟨h, y, rfl⟩ := p.ne
    have h2 := Pair.len (g := g) (h := h) (x := x) (y := y)
    have ih := greedy_work k _ _ p.step (by omega)
    rw [cut1_mom, cut1_mom] at ih
    have hle := p.le
    simp only [greedy]
    generalize min g.f1 h.f1 = n at *
    unfold one1; split
    · simp only [List.cons_append, List.nil_append, work2]; rw [ih, Int.mul_sub, Int.mul_comm n h.f0, Int.mul_comm n g.f0]; omega
    · have : g.f0 = h.f0 := by omega
      simp only [List.nil_append]; rw [ih, this]; omega
theorem greedy_aps : ∀ k x y, Pair x y → x.length + y.length ≤ k → ∀ base f : Int → Int, (∀ s, 0 ≤ base s) → (∀ s, f s = base s + pt y s) → ∃ f', aps f (greedy k x y) = some f' ∧ ∀ s, f' s = base s + pt x s
  | k, [], y, p, _, base, f, hb, hf => by
    have h0 := p.tt
    have : y = [] := by
      cases y with
      | nil => rfl
      | cons q z => have h1 := p.ay.2.1; have h2 := tot_pos p.ay.2.2; simp only [tot] at h0; omega
    subst this
    refine ⟨f, ?_, hf⟩
    cases k <;> simp [greedy, aps]
  | 0, g :: x, y, p, hk, _, _, _, _ => by simp at hk
  | k + 1, g :: x, y, p, hk, base, f, hb, hf => by
    obtain ⟨h, y, rfl⟩ := p.ne
    have h2 := Pair.len (g := g) (h := h) (x := x) (y := y)
    have hn1 : min g.f1 h.f1 ≤ g.f1 := Int.min_le_left _ _
    have hn2 : min g.f1 h.f1 ≤ h.f1 := Int.min_le_right _ _
    have h11 := p.ax.2.1; have h12 := p.ay.2.1
    have hn0 : 1 ≤ min g.f1 h.f1 := by omega
    have ih := greedy_aps k _ _ p.step (by omega)
    have e1 := cut1_pt g (min g.f1 h.f1) x
    have e2 := cut1_pt h (min g.f1 h.f1) y
    have hle := p.le
    simp only [greedy]
    generalize min g.f1 h.f1 = n at *
    have hnew : ∀ f0 : Int → Int, (∀ s, f0 s = (base s + if g.f0 = s then n else 0) + pt (cut1 h n y) s) → ∃ f', aps f0 (greedy k (cut1 g n x) (cut1 h n y)) = some f' ∧ ∀ s, f' s = base s + pt (g :: x) s := by
      intro f0 hf0
      obtain ⟨f', h3, h4⟩ := ih (fun s => base s + if g.f0 = s then n else 0) f0 (fun s => by have := hb s; show 0 ≤ base s + _; split <;> omega) hf0
      refine ⟨f', h3, fun s => ?_⟩
      have h5 : f' s = (base s + if g.f0 = s then n else 0) + pt (cut1 g n x) s := h4 s
      rw [h5, e1 s]; omega
    unfold one1; split
    · rename_i hc
      simp only [List.cons_append, List.nil_append, aps]
      have h6 : pt (h :: y) h.f0 = h.f1 + pt y h.f0 := by simp [pt]
      have h7 := pt_pos (s := h.f0) p.ay.2.2
      have h8 := hb h.f0
      rw [if_neg (by rw [hf, h6]; omega)]
      refine hnew _ fun s => ?_
      simp only [ap1]; rw [hf s, e2 s]
      generalize (if h.f0 = s then n else 0) = u
      generalize (if g.f0 = s then n else 0) = v
      omega
    · have he : g.f0 = h.f0 := by omega
      simp only [List.nil_append]
      refine hnew _ fun s => ?_
      rw [hf s, e2 s, he]; omega
/-- from the moves: the whole -/
theorem greedy_all {x y : List S61} {k : Nat} (p : Pair x y) (hk : x.length + y.length ≤ k) : ∃ f', aps (pt y) (greedy k x y) = some f' ∧ ∀ s, f' s = pt x s := by
  obtain ⟨f', h1, h2⟩ := greedy_aps k x y p hk (fun _ => 0) (pt y) (fun _ => Int.le_refl _) (fun s => by show _ = 0 + _; omega)
  exact ⟨f', h1, fun s => by rw [h2]; show 0 + _ = _; omega⟩

/-- what a row of masses has in it -/
def col : Nat → Int → (Int → Int) → List S61
  | 0, _, _ => []
  | n + 1, s, f => (if 0 < f s then [⟨s, f s⟩] else []) ++ col n (s + 1) f
theorem col_congr {f g : Int → Int} : ∀ (n : Nat) (s : Int), (∀ t, s ≤ t → t < s + n → f t = g t) → col n s f = col n s g
  | 0, _, _ => rfl
  | n + 1, s, h => by
    simp only [col]; rw [h s (Int.le_refl _) (by omega), col_congr n (s + 1) fun t h1 h2 => h t (by omega) (by omega)]
theorem col_pt : ∀ (n : Nat) (s : Int) (l : List S61), asc (s - 1) l → (∀ g ∈ l, g.f0 < s + n) → col n s (pt l) = l
  | 0, s, [], _, _ => rfl
  | 0, s, g :: l, h, h2 => by have := h.1; have := h2 g (by simp); omega
  | n + 1, s, [], h, h2 => by
    have ih := col_pt n (s + 1) [] trivial (by simp)
    have e : ¬ 0 < pt [] s := by show ¬ (0 : Int) < 0; omega
    simp only [col]; rw [if_neg e, ih]; rfl
  | n + 1, s, g :: l, h, h2 => by
    simp only [col]
    obtain ⟨h3, h4, h5⟩ := h
    by_cases c : g.f0 = s
    · have e : pt (g :: l) s = g.f1 := by simp only [pt]; rw [if_pos c, pt_low h5 (by omega)]; omega
      rw [e, if_pos (by omega), col_congr (g := pt l) n (s + 1), col_pt n (s + 1) l (by rw [show s + 1 - 1 = g.f0 by omega]; exact h5) (fun q hq => by have := h2 q (by simp [hq]); omega)]
      · cases g; simp only at c ⊢; rw [c]; rfl
      · intro t h6 h7; simp only [pt]; rw [if_neg (by omega)]; omega
    · have e : pt (g :: l) s = 0 := by simp only [pt]; rw [if_neg c, pt_low h5 (by omega)]; omega
      rw [e, if_neg (by omega)]
      exact col_pt n (s + 1) (g :: l) ⟨by omega, h4, h5⟩ (fun q hq => by have := h2 q hq; omega)
/-- sums of a row: what is of at most a size, told with what is of less than b -/
def su (f : Int → Int) : Nat → Int
  | 0 => 0
  | n + 1 => su f n + f (n : Int)
theorem su_ext {f g : Int → Int} : ∀ (n : Nat), (∀ t, 0 ≤ t → t < (n : Int) → f t = g t) → su f n = su g n
  | 0, _ => rfl
  | n + 1, h => by simp only [su]; rw [su_ext n fun t h1 h2 => h t h1 (by omega), h n (by omega) (by omega)]
theorem su_add (f g : Int → Int) : ∀ n, su (fun t => f t + g t) n = su f n + su g n
  | 0 => rfl
  | n + 1 => by simp only [su]; rw [su_add f g n]; omega
theorem su_one (a v : Int) (ha : 0 ≤ a) : ∀ n : Nat, su (fun t => if t = a then v else 0) n = if a < n then v else 0
  | 0 => by rw [if_neg (by omega)]; rfl
  | n + 1 => by
    simp only [su]; rw [su_one a v ha n]
    by_cases c : (n : Int) = a
    · rw [if_neg (by omega), if_pos c, if_pos (by omega)]; omega
    · rw [if_neg c]
      by_cases d : a < n
      · rw [if_pos d, if_pos (by omega)]; omega
      · rw [if_neg d, if_neg (by omega)]; rfl
theorem su_pt : ∀ (l : List S61) (n : Nat), (∀ g ∈ l, 0 ≤ g.f0) → su (pt l) n = cu l ((n : Int) - 1)
  | [], n, _ => by
    induction n with
    | zero => rfl
    | succ n ih => simp only [su]; rw [ih]; rfl
  | g :: l, n, h => by
    have e : su (pt (g :: l)) n = su (fun t => (if t = g.f0 then g.f1 else 0) + pt l t) n := su_ext n fun t _ _ => by
      simp only [pt]
      by_cases c : t = g.f0
      · rw [if_pos c, if_pos c.symm]
      · rw [if_neg c, if_neg (fun q => c q.symm)]
    rw [e, su_add, su_one _ _ (h g (by simp)), su_pt l n (fun q hq => h q (by simp [hq]))]
    simp only [cu]
    by_cases c : g.f0 < (n : Int)
    · rw [if_pos c, if_pos (by omega)]
    · rw [if_neg c, if_neg (by omega)]
/-- the work: sum over sizes -/
theorem su_cu : ∀ (l : List S61), (∀ g ∈ l, 0 ≤ g.f0 ∧ g.f0 ≤ 20) → su (cu l) 21 = 21 * tot l - mom l
  | [], _ => by decide
  | g :: l, h => by
    have e : su (cu (g :: l)) 21 = su (fun t => (if g.f0 ≤ t then g.f1 else 0) + cu l t) 21 := su_ext 21 fun t _ _ => rfl
    rw [e, su_add, su_cu l (fun q hq => h q (by simp [hq]))]
    have h1 := h g (by simp)
    have : ∀ n : Nat, (g.f0 ≤ n) → su (fun t => if g.f0 ≤ t then g.f1 else 0) n = (n - g.f0) * g.f1 := by
      intro n hn
      have h0 : ∀ m : Nat, (m : Int) ≤ g.f0 → su (fun t => if g.f0 ≤ t then g.f1 else 0) m = 0 := by
        intro m; induction m with
        | zero => intro _; rfl
        | succ m ih => intro hm; simp only [su]; rw [ih (by omega), if_neg (by omega)]; rfl
      induction n with
      | zero => have : g.f0 = 0 := by omega
                rw [this]; simp [su]
      | succ n ih =>
        by_cases c : g.f0 ≤ n
        · simp only [su]; rw [ih c, if_pos c, show ((n + 1 : Nat) : Int) - g.f0 = (n - g.f0) + 1 by omega, Int.add_mul]; omega
        · have : g.f0 = (n + 1 : Nat) := by omega
          rw [h0 _ (by omega), this]; simp
    rw [this 21 (by omega)]
    simp only [tot, mom]
    rw [Int.sub_mul]; omega

/-- rows of moves: more below, none lost -/
theorem aps_su : ∀ (ms : List S56) (f f' : Int → Int), (∀ m ∈ ms, okMv m) → (∀ s, 0 ≤ f s) → aps f ms = some f' → (∀ s, 0 ≤ f' s) ∧ (∀ n : Nat, su f n ≤ su f' n) ∧ su f' 21 = su f 21
  | [], f, f', _, h0, h => by
    simp only [aps] at h; cases h; exact ⟨h0, fun _ => Int.le_refl _, rfl⟩
  | m :: ms, f, f', hm, h0, h => by
    simp only [aps] at h
    split at h
    · exact absurd h (by simp)
    rename_i hc
    obtain ⟨o1, o2, o3, o4, o5⟩ := hm m (by simp)
    have hs : ∀ n : Nat, su (ap1 f m) n = su f n + ((if m.f0 < n then -m.f2 else 0) + if m.f1 < n then m.f2 else 0) := by
      intro n
      have e : su (ap1 f m) n = su (fun t => f t + ((if t = m.f0 then -m.f2 else 0) + (if t = m.f1 then m.f2 else 0))) n := su_ext n fun t _ _ => by
        simp only [ap1]; split <;> split <;> omega
      rw [e, su_add, su_add, su_one _ _ (by omega), su_one _ _ (by omega)]
    have h1 : ∀ s, 0 ≤ ap1 f m s := by
      intro s; have := h0 s
      simp only [ap1]
      by_cases c : m.f0 = s
      · rw [if_pos c, ← c]; split <;> omega
      · rw [if_neg c]; split <;> omega
    obtain ⟨i1, i2, i3⟩ := aps_su ms (ap1 f m) f' (fun q hq => hm q (by simp [hq])) h1 h
    refine ⟨i1, fun n => ?_, ?_⟩
    · have := i2 n; rw [hs n] at this
      have h2 : (0 : Int) ≤ (if m.f0 < (n : Int) then -m.f2 else 0) + if m.f1 < (n : Int) then m.f2 else 0 := by
        split <;> split <;> omega
      omega
    · rw [i3, hs 21, if_pos (by omega), if_pos (by omega)]; omega
theorem pt_col {f : Int → Int} (h0 : ∀ s, 0 ≤ f s) : ∀ (n : Nat) (s t : Int), pt (col n s f) t = if s ≤ t ∧ t < s + n then f t else 0
  | 0, s, t => by rw [if_neg (by omega)]; rfl
  | n + 1, s, t => by
    simp only [col]
    have ih := pt_col h0 n (s + 1) t
    have h1 := h0 t
    by_cases c : t = s
    · subst c
      rw [if_neg (by omega)] at ih
      rw [show (if t ≤ t ∧ t < t + ((n + 1 : Nat) : Int) then f t else 0) = f t from if_pos (by omega)]
      by_cases c : 0 < f t
      · rw [if_pos c]; simp only [List.cons_append, List.nil_append, pt]; rw [ih]; simp
      · rw [if_neg c]; simp only [List.nil_append]; rw [ih]; omega
    · have e : pt ((if 0 < f s then [⟨s, f s⟩] else []) ++ col n (s + 1) f) t = pt (col n (s + 1) f) t := by
        by_cases c2 : 0 < f s
        · rw [if_pos c2]; simp only [List.cons_append, List.nil_append, pt]; rw [if_neg (by omega)]; omega
        · rw [if_neg c2]; rfl
      rw [e, ih]
      by_cases d : s + 1 ≤ t ∧ t < s + 1 + n
      · rw [if_pos d, if_pos (by omega)]
      · rw [if_neg d, if_neg (by omega)]

def gc (n d : Int) : Int := (Int.gcd n d : Int)
def rat (n d : Int) : S34 := ⟨Int.tdiv n (gc n d), Int.tdiv d (gc n d)⟩
theorem gc_pos {n d : Int} (hd : 1 ≤ d) : 1 ≤ gc n d := by
  unfold gc
  have : 0 < Int.gcd n d := Int.gcd_pos_of_ne_zero_right n (by omega)
  omega
theorem rat_parts {n d : Int} (hn : 0 ≤ n) (hd : 1 ≤ d) : ∃ g a b : Int, 1 ≤ g ∧ n = g * a ∧ d = g * b ∧ rat n d = ⟨a, b⟩ ∧ 0 ≤ a ∧ 1 ≤ b ∧ g = gc n d := by
  have hg := gc_pos (n := n) hd
  obtain ⟨a, ha⟩ : gc n d ∣ n := Int.gcd_dvd_left ..
  obtain ⟨b, hb⟩ : gc n d ∣ d := Int.gcd_dvd_right ..
  refine ⟨gc n d, a, b, hg, ha, hb, ?_, ?_, ?_, rfl⟩
  · have h1 : Int.tdiv n (gc n d) = a := by
      rw [show Int.tdiv n (gc n d) = Int.tdiv (gc n d * a) (gc n d) from by rw [← ha], Int.mul_tdiv_cancel_left _ (by omega)]
    have h2 : Int.tdiv d (gc n d) = b := by
      rw [show Int.tdiv d (gc n d) = Int.tdiv (gc n d * b) (gc n d) from by rw [← hb], Int.mul_tdiv_cancel_left _ (by omega)]
    unfold rat; rw [h1, h2]
  · refine Decidable.byContradiction fun hc => ?_
    have : gc n d * a < 0 := Int.mul_neg_of_pos_of_neg (by omega) (by omega)
    omega
  · refine Decidable.byContradiction fun hc => ?_
    have : gc n d * b ≤ 0 := Int.mul_nonpos_of_nonneg_of_nonpos (by omega) (by omega)
    omega
theorem rat_spec {n d : Int} (hn : 0 ≤ n) (hd : 1 ≤ d) : (rat n d).f0 * d = n * (rat n d).f1 ∧ 0 ≤ (rat n d).f0 ∧ 1 ≤ (rat n d).f1 ∧ (rat n d).f0 ≤ n ∧ (rat n d).f1 ≤ d := by
  obtain ⟨g, a, b, hg, ha, hb, hr, h0, h1, _⟩ := rat_parts hn hd
  rw [hr]
  have h2 : a ≤ g * a := by have := Int.mul_le_mul_of_nonneg_right hg h0; omega
  have h3 : b ≤ g * b := by have := Int.mul_le_mul_of_nonneg_right hg (show 0 ≤ b by omega); omega
  refine ⟨?_, h0, h1, by rw [ha]; exact h2, by rw [hb]; exact h3⟩
  show a * d = n * b
  rw [ha, hb, ← Int.mul_assoc, Int.mul_comm a g]
theorem rat_whole {k d : Int} (hk : 0 ≤ k) (hd : 1 ≤ d) : rat (k * d) d = ⟨k, 1⟩ := by
  have hg : gc (k * d) d = d := by
    unfold gc; rw [Int.gcd_eq_right (by omega) (Int.dvd_mul_left ..)]
    all_goals first | (exact Int.natAbs_of_nonneg (by omega)) | omega
  unfold rat; rw [hg, Int.mul_tdiv_cancel _ (by omega), Int.tdiv_self (by omega)]
/-- a part and its rest are the whole -/
theorem rat_two {m n d : Int} (hm : 0 ≤ m) (h0 : 0 ≤ n) (hn : n ≤ d) (hd : 1 ≤ d) :
    (rat (m * n) d).f0 * (rat (m * (d - n)) d).f1 + (rat (m * (d - n)) d).f0 * (rat (m * n) d).f1 = m * ((rat (m * n) d).f1 * (rat (m * (d - n)) d).f1) := by
  have h1 := (rat_spec (Int.mul_nonneg hm h0) hd).1
  have h2 := (rat_spec (Int.mul_nonneg hm (show 0 ≤ d - n by omega)) hd).1
  generalize rat (m * n) d = s at *
  generalize rat (m * (d - n)) d = t at *
  refine Int.eq_of_mul_eq_mul_right (show d ≠ 0 by omega) ?_
  rw [Int.add_mul]
  have e1 : s.f0 * t.f1 * d = m * n * s.f1 * t.f1 := by rw [← h1]; ac_rfl
  have e2 : t.f0 * s.f1 * d = m * (d - n) * t.f1 * s.f1 := by rw [← h2]; ac_rfl
  rw [e1, e2]
  grind
/-- one more settling: the rest of a fraction -/
theorem rat_less {l s : S34} {n d q : Int} (hl0 : 0 ≤ l.f0) (hl1 : 1 ≤ l.f1) (hs0 : 0 ≤ s.f0) (hs1 : 1 ≤ s.f1) (h0 : 0 ≤ n) (hn : n ≤ d) (hd : 1 ≤ d) (hq : l.f1 ≤ q) (h : l.f0 * s.f1 ≤ s.f0 * l.f1) :
    let t := rat (l.f0 * (d - n)) (l.f1 * d)
    0 ≤ t.f0 ∧ 1 ≤ t.f1 ∧ t.f1 ≤ q * d ∧ t.f0 * s.f1 ≤ s.f0 * t.f1 := by
  intro t
  have hD : 1 ≤ l.f1 * d := by have := Int.mul_le_mul_of_nonneg_right hl1 (show 0 ≤ d by omega); omega
  have hN : 0 ≤ l.f0 * (d - n) := Int.mul_nonneg hl0 (by omega)
  obtain ⟨h1, h2, h3, h4, h5⟩ := rat_spec hN hD
  have ht : rat (l.f0 * (d - n)) (l.f1 * d) = t := rfl
  rw [ht] at h1 h2 h3 h4 h5
  clear_value t; clear ht
  refine ⟨h2, h3, ?_, ?_⟩
  · have := Int.mul_le_mul_of_nonneg_right hq (show 0 ≤ d by omega); omega
  · refine Int.le_of_mul_le_mul_right (a := l.f1 * d) ?_ (by omega)
    have e1 : t.f0 * s.f1 * (l.f1 * d) = (l.f0 * s.f1) * ((d - n) * t.f1) := by
      calc t.f0 * s.f1 * (l.f1 * d) = (t.f0 * (l.f1 * d)) * s.f1 := by ac_rfl
        _ = l.f0 * (d - n) * t.f1 * s.f1 := by rw [h1]
        _ = _ := by ac_rfl
    have e2 : s.f0 * t.f1 * (l.f1 * d) = (s.f0 * l.f1) * (d * t.f1) := by ac_rfl
    rw [e1, e2]
    have a1 : 0 ≤ l.f0 * s.f1 := Int.mul_nonneg hl0 (by omega)
    have a2 : (d - n) * t.f1 ≤ d * t.f1 := Int.mul_le_mul_of_nonneg_right (by omega) (by omega)
    have a3 : 0 ≤ (d - n) * t.f1 := Int.mul_nonneg (by omega) (by omega)
    have a4 : 0 ≤ s.f0 * l.f1 := by omega
    exact Int.mul_le_mul h a2 a3 a4

/-! What the functions that are walked by hand compute. -/
theorem infoG : (Try.prog.info? 61).map (fun i => (i.zero, i.size, i.bytes)) = some (some (.agg #[(.int .i64 0), (.int .i64 0)]), 2, 16) := by kernel_rfl
theorem infoM : (Try.prog.info? 56).map (fun i => (i.zero, i.size, i.bytes)) = some (some (.agg #[(.int .i64 0), (.int .i64 0), (.int .i64 0)]), 3, 24) := by kernel_rfl
def okG : Int → List S61 → Bool
  | _, [] => true
  | a, g :: l => decide (a < g.f0) && decide (g.f0 ≤ 20) && decide (1 ≤ g.f1) && decide (g.f1 ≤ 100) && okG g.f0 l
/-- The error of a lot. -/
def vErr (l : List S61) : Int := if 6 < l.length then 3 else if okG 0 l = true then 0 else 1
theorem okG_iff : ∀ {a : Int} {l : List S61}, okG a l = true ↔ asc a l ∧ ∀ g ∈ l, g.f0 ≤ 20 ∧ g.f1 ≤ 100
  | a, [] => by simp [okG, asc]
  | a, g :: l => by
    simp only [okG, asc, Bool.and_eq_true, decide_eq_true_eq, okG_iff, List.mem_cons, forall_eq_or_imp]
    constructor
    · rintro ⟨⟨⟨⟨h1, h2⟩, h3⟩, h4⟩, h5, h6⟩; exact ⟨⟨h1, h3, h5⟩, ⟨h2, h4⟩, h6⟩
    · rintro ⟨⟨h1, h3, h5⟩, ⟨h2, h4⟩, h6⟩; exact ⟨⟨⟨⟨h1, h2⟩, h3⟩, h4⟩, h5, h6⟩
theorem vErr_zero {l : List S61} (h : vErr l = 0) : l.length ≤ 6 ∧ asc 0 l ∧ ∀ g ∈ l, g.f0 ≤ 20 ∧ g.f1 ≤ 100 := by
  unfold vErr at h
  split at h
  · omega
  · split at h
    · rename_i h1 h2; exact ⟨by omega, okG_iff.1 h2⟩
    · omega
/-- Sums of a row of masses, as long as they do not fall below 0. -/
def wk : Nat → Int → Int → Int → (Int → Int) → Int × Bool
  | 0, _, sum, _, _ => (sum, true)
  | n + 1, s, sum, ahead, d => if ahead + d s < 0 then (0, false) else wk n (s + 1) (sum + (ahead + d s)) (ahead + d s) d
def wash_work.f (l0 l1 : List S61) : Option (Int × Bool) := if vErr l0 = 0 ∧ vErr l1 = 0 then some (wk 21 0 0 0 fun s => pt l0 s - pt l1 s) else none
def api_Grain_31.f (l0 : List S61) : Option (List S61) := if l0.length ≤ 6 then some l0 else none
def okMvB (m : S56) : Bool := decide (m.f0 ≤ 20) && decide (1 ≤ m.f1) && decide (m.f1 < m.f0) && decide (1 ≤ m.f2) && decide (m.f2 ≤ 100)
theorem okMvB_iff {m : S56} : okMvB m = true ↔ okMv m := by
  simp [okMvB, okMv, and_assoc]
def grindEnd : Option (Int → Int) → List S61 × Int
  | none => ([], 9)
  | some f => if vErr (col 21 0 f) = 0 then (col 21 0 f, 0) else ([], vErr (col 21 0 f))
def wash_Grind.f (l0 : List S61) (l1 : List S56) : Option (List S61 × Int) :=
  some (if vErr l0 = 0 then (if 12 < l1.length then ([], 3) else if l1.all okMvB = true then grindEnd (aps (pt l0) l1) else ([], 1)) else ([], vErr l0))
def wash_Moves.f (l0 l1 : List S61) : Option (List S56 × Bool × Int) :=
  some (if vErr l0 = 0 then (if vErr l1 = 0 then (if tot l0 = tot l1 then (if (wk 21 0 0 0 fun s => pt l0 s - pt l1 s).2 = true then (greedy 12 l0 l1, true, 0) else ([], false, 0)) else ([], false, 5)) else ([], false, vErr l1)) else ([], false, vErr l0))
def isTime (t d : Int) : Bool := decide (0 ≤ t) && decide (t ≤ 100) && decide (1 ≤ d) && decide (d ≤ 20)
def partI (t d : Int) (g : S61) : Int := if g.f0 * t ≤ d then g.f0 * t else d
def sunkW (t d : Int) (x : S76) : S34 := rat (x.f1.f0 * partI t d x.f0) (x.f1.f1 * d)
def leftW (t d : Int) (x : S76) : S76 := ⟨x.f0, rat (x.f1.f0 * (d - partI t d x.f0)) (x.f1.f1 * d)⟩
def pourL (l : List S61) : List S76 := l.map fun g => ⟨g, ⟨g.f1, 1⟩⟩
def leftN (t d : Int) : Nat → List S76 → List S76
  | 0, l => l
  | n + 1, l => leftN t d n (l.map (leftW t d))
def wash_Settle.f (l0 : List S61) (t d : Int) : Option (List S34 × List S34 × Int) :=
  some (if vErr l0 = 0 then (if isTime t d = true then ((pourL l0).map (sunkW t d), (leftN t d 1 (pourL l0)).map S76.f1, 0) else ([], [], 1)) else ([], [], vErr l0))
def wash_Wash.f (l0 : List S61) (t d n : Int) : Option (List S34 × Int) :=
  some (if vErr l0 = 0 then (if isTime t d = true ∧ 1 ≤ n ∧ n ≤ 4 then ((leftN t d n.toNat (pourL l0)).map S76.f1, 0) else ([], 1)) else ([], vErr l0))
end Go.Proofs.Ytcelibdkicfgkaa.P

/-! Part PE0. -/
namespace Go.Proofs.Ytcelibdkicfgkaa.P
open Go.RowKit Go.Proofs.YtcelibdkicfgkaaW.PrintWords Go.Proofs.YtcelibdkicfgkaaW.PrintLast Go.Proofs.YtcelibdkicfgkaaW.PrintMore
attribute [local go_sem] max2_int min2_int max_two min_two max_three min_three max_four min_four   -- for this text's walks alone
set_option linter.unusedVariables false
set_option linter.unusedSimpArgs false

theorem eqA61 (d : Nat) (w : World) (x0 y0 : Int) (x1 y1 : Int) :
    (Op.equalIn (d + 2) 61 (.agg #[.int .i64 x0, .int .i64 x1]) (.agg #[.int .i64 y0, .int .i64 y1])).run Try.prog w = .ok (x0 == y0 && (x1 == y1)) w := by
  refine eqA_of Try.underlying61 (by kernel_rfl) ?_
  refine eqf_cons (by rfl) (by go_simp; rfl) (by go_simp; rfl) (by go_simp) ?_
  exact eqf_last (by rfl) (by go_simp; rfl) (by go_simp; rfl) (by go_simp)
theorem eqA34 (d : Nat) (w : World) (x0 y0 : Int) (x1 y1 : Int) :
    (Op.equalIn (d + 2) 34 (.agg #[.int .i64 x0, .int .i64 x1]) (.agg #[.int .i64 y0, .int .i64 y1])).run Try.prog w = .ok (x0 == y0 && (x1 == y1)) w := by
  refine eqA_of Try.underlying34 (by kernel_rfl) ?_
  refine eqf_cons (by rfl) (by go_simp; rfl) (by go_simp; rfl) (by go_simp) ?_
  exact eqf_last (by rfl) (by go_simp; rfl) (by go_simp; rfl) (by go_simp)
end Go.Proofs.Ytcelibdkicfgkaa.P

/-! Part HKeep. -/
/- The lists that TopWash hands in stay as they were: their copies, and the comparing with them. -/
namespace Go.Proofs.Ytcelibdkicfgkaa.P
open Go.RowKit Go.Proofs.YtcelibdkicfgkaaW.PrintWords Go.Proofs.YtcelibdkicfgkaaW.PrintLast Go.Proofs.YtcelibdkicfgkaaW.PrintMore
set_option linter.unusedVariables false

theorem eqB56 (d : Nat) (w : World) (x0 y0 : Int) (x1 y1 : Int) (x2 y2 : Int) :
    (Op.equalIn (d + 2) 56 (.agg #[.int .i64 x0, .int .i64 x1, .int .i64 x2]) (.agg #[.int .i64 y0, .int .i64 y1, .int .i64 y2])).run Try.prog w = .ok (x0 == y0 && (x1 == y1 && (x2 == y2))) w := by
  refine eqA_of Try.underlying56 (by kernel_rfl) ?_
  refine eqf_cons (by rfl) (by go_simp; rfl) (by go_simp; rfl) (by go_simp) ?_
  refine eqf_cons (by rfl) (by go_simp; rfl) (by go_simp; rfl) (by go_simp) ?_
  exact eqf_last (by rfl) (by go_simp; rfl) (by go_simp; rfl) (by go_simp)
attribute [local go_sem high] eqA61 eqB56
set_option maxHeartbeats 2000000 in
set_option maxRecDepth 100000 in
theorem keepGrains (A : Option Addr) (n : Nat) (zs : List S61) (w : World) (hr : Kd.C k61 w A zs.length zs) (hn : n ≤ zs.length) (hl : zs.length * 16 ≤ 140737488351232) :
    Calls Try.prog 4 #[.slice A n zs.length] w fun e w' => ∃ v, e = .returned v ∧ Kd.R k61 61 w' w.heap.size (fun _ => True) v zs ∧ Below w.heap.size w w' := by
  have hu61 := Try.underlying61
  have HR0 := Aside0.mk hr
  have HB := Aside0.mk (Below.refl w.heap.size w)
  have hmax := Kd.C_max hr
  clear hr
  go_enter Try.func4, Try.ntmps4
  go_wp2_with (first | ((with_reducible refine gate_dst (N := 3) rfl ?_); refine Kd.R_lit k61 _ 61 ?hg (N := 3) ?hd (xs := ([] : List S61)) (inner := []) (ok := fun _ => True) (okp := fun _ => True) ?hr ?hp (fun _ hk => hk) trivial (Below.refl _ _) (Nat.le_refl _) (by simp) ?_; (case hd => rfl); (case hg => rfl); (case hr => first | (go_simp; done) | (go_simp; rfl)); (case hp => exact (Reps.none _ _)); intro v1 w1 ho hb hg_ hnew_; clear hg_ hnew_; have HO := Aside0.mk ho; clear ho; have HB1 := Aside0.mk hb; clear hb) | ((with_reducible refine gate_builtin (b := .append) (xs := #[.tmp 3, .tmp 7]) rfl ?_); at_builtin; refine Kd.R_append_rows k61 (w0 := w) w.heap.size rfl (.tmp 3) (.tmp 7) 22 61 (.agg #[(.int .i64 0), (.int .i64 0)]) 16 rfl Try.underlying22 infoG rfl (by decide) (by omega) v1 [] zs _ _ _ (fun _ => True) (fun _ => False) rfl rfl ?aO ?aR (fun _ _ h => h) (fun _ h => h.elim) ?aF ?aB ?aS ?aL ?_; (case aR => exact Kd.C_below HR0.out HB1.out); (case aB => exact HB1.out); (case aF => exact fun _ _ => trivial); (case aO => exact HO.out); (case aS => exact HB1.out.size); (case aL => simp only [List.length_nil]; omega); intro v2 w2 ho2 hb2 hg2 hat2; have HO2 := Aside0.mk ho2; have HB2 := Aside0.mk hb2; clear ho2 hb2 hg2 hat2))
  go_ret
  exact ⟨_, rfl, HO2.out, HB2.out⟩

set_option maxHeartbeats 2000000 in
set_option maxRecDepth 100000 in
theorem keptGrains (A1 : Option Addr) (c1 : Nat) (A : Option Addr) (n : Nat) (zs : List S61) (w : World) (hr1 : Kd.C k61 w A1 zs.length zs) (hr : Kd.C k61 w A zs.length zs) (hn : n ≤ zs.length) :
    Calls Try.prog 7 #[.slice A1 zs.length c1, .slice A n zs.length] w fun e w' => e = .returned (.bool true) ∧ Drawn0 w w' := by
  have HR1 := Aside0.mk hr1
  have hu61 := Try.underlying61
  have HR0 := Aside0.mk hr
  have hmax := Kd.C_max hr
  clear hr hr1
  go_enter Try.func7, Try.ntmps7
  go_wp2
  go_loopg [5] zs.length (fun gg v5 w' => ∃ i : Nat, i ≤ zs.length ∧ zs.length - i ≤ gg ∧ v5 = .int .i64 i ∧ Drawn0 w w')
  case atStart => exact ⟨0, Nat.zero_le _, by omega, rfl, by repeat (first | exact Drawn0.refl _ | apply Drawn0.step)⟩
  case round =>
    obtain ⟨i, hi, hg, rfl, ⟨m1, rfl⟩⟩ := hrel
    by_cases hlt : i < zs.length
    · have hltz : (i : Int) < (zs.length : Int) := by omega
      have hq0 : (0 : Int) ≤ (i : Int) := by omega
      obtain ⟨ad1, e1, hx1, hy1⟩ := at_T61 HR1.out (i : Int) hq0 hltz
      obtain ⟨ad0, e0, hx0, hy0⟩ := at_T61 HR0.out (i : Int) hq0 hltz
      subst e1
      subst e0
      simp only [Int.toNat_natCast] at hx0 hx1 hy0 hy1
      go_wp2
      go_quiet (fail)
      go_wp2
      go_roundg (zs.length - (i + 1))
      case measure => omega
      case rel => exact ⟨i + 1, by omega, by omega, by go_num, by repeat (first | exact Drawn0.refl _ | apply Drawn0.step)⟩
    · have hltz : ¬ (i : Int) < (zs.length : Int) := by omega
      go_wp2
      go_ret
      exact ⟨rfl, by repeat (first | exact Drawn0.refl _ | apply Drawn0.step)⟩
set_option maxHeartbeats 2000000 in
set_option maxRecDepth 100000 in
theorem keepMoves (A : Option Addr) (n : Nat) (zs : List S56) (w : World) (hr : Kd.C k56 w A zs.length zs) (hn : n ≤ zs.length) (hl : zs.length * 24 ≤ 140737488351232) :
    Calls Try.prog 5 #[.slice A n zs.length] w fun e w' => ∃ v, e = .returned v ∧ Kd.R k56 56 w' w.heap.size (fun _ => True) v zs ∧ Below w.heap.size w w' := by
  have hu56 := Try.underlying56
  have HR0 := Aside0.mk hr
  have HB := Aside0.mk (Below.refl w.heap.size w)
  have hmax := Kd.C_max hr
  clear hr
  go_enter Try.func5, Try.ntmps5
  go_wp2_with (first | ((with_reducible refine gate_dst (N := 3) rfl ?_); refine Kd.R_lit k56 _ 56 ?hg (N := 3) ?hd (xs := ([] : List S56)) (inner := []) (ok := fun _ => True) (okp := fun _ => True) ?hr ?hp (fun _ hk => hk) trivial (Below.refl _ _) (Nat.le_refl _) (by simp) ?_; (case hd => rfl); (case hg => rfl); (case hr => first | (go_simp; done) | (go_simp; rfl)); (case hp => exact (Reps.none _ _)); intro v1 w1 ho hb hg_ hnew_; clear hg_ hnew_; have HO := Aside0.mk ho; clear ho; have HB1 := Aside0.mk hb; clear hb) | ((with_reducible refine gate_builtin (b := .append) (xs := #[.tmp 3, .tmp 7]) rfl ?_); at_builtin; refine Kd.R_append_rows k56 (w0 := w) w.heap.size rfl (.tmp 3) (.tmp 7) 23 56 (.agg #[(.int .i64 0), (.int .i64 0), (.int .i64 0)]) 24 rfl Try.underlying23 infoM rfl (by decide) (by omega) v1 [] zs _ _ _ (fun _ => True) (fun _ => False) rfl rfl ?aO ?aR (fun _ _ h => h) (fun _ h => h.elim) ?aF ?aB ?aS ?aL ?_; (case aR => exact Kd.C_below HR0.out HB1.out); (case aB => exact HB1.out); (case aF => exact fun _ _ => trivial); (case aO => exact HO.out); (case aS => exact HB1.out.size); (case aL => simp only [List.length_nil]; omega); intro v2 w2 ho2 hb2 hg2 hat2; have HO2 := Aside0.mk ho2; have HB2 := Aside0.mk hb2; clear ho2 hb2 hg2 hat2))
  go_ret
  exact ⟨_, rfl, HO2.out, HB2.out⟩

set_option maxHeartbeats 2000000 in
set_option maxRecDepth 100000 in
theorem keptMoves (A1 : Option Addr) (c1 : Nat) (A : Option Addr) (n : Nat) (zs : List S56) (w : World) (hr1 : Kd.C k56 w A1 zs.length zs) (hr : Kd.C k56 w A zs.length zs) (hn : n ≤ zs.length) :
    Calls Try.prog 8 #[.slice A1 zs.length c1, .slice A n zs.length] w fun e w' => e = .returned (.bool true) ∧ Drawn0 w w' := by
  have HR1 := Aside0.mk hr1
  have hu56 := Try.underlying56
  have HR0 := Aside0.mk hr
  have hmax := Kd.C_max hr
  clear hr hr1
  go_enter Try.func8, Try.ntmps8
  go_wp2
  go_loopg [5] zs.length (fun gg v5 w' => ∃ i : Nat, i ≤ zs.length ∧ zs.length - i ≤ gg ∧ v5 = .int .i64 i ∧ Drawn0 w w')
  case atStart => exact ⟨0, Nat.zero_le _, by omega, rfl, by repeat (first | exact Drawn0.refl _ | apply Drawn0.step)⟩
  case round =>
    obtain ⟨i, hi, hg, rfl, ⟨m1, rfl⟩⟩ := hrel
    by_cases hlt : i < zs.length
    · have hltz : (i : Int) < (zs.length : Int) := by omega
      have hq0 : (0 : Int) ≤ (i : Int) := by omega
      obtain ⟨ad1, e1, hx1, hy1, hz1⟩ := at_T56 HR1.out (i : Int) hq0 hltz
      obtain ⟨ad0, e0, hx0, hy0, hz0⟩ := at_T56 HR0.out (i : Int) hq0 hltz
      subst e1
      subst e0
      simp only [Int.toNat_natCast] at hx0 hx1 hy0 hy1 hz0 hz1
      go_wp2
      go_quiet (fail)
      go_wp2
      go_roundg (zs.length - (i + 1))
      case measure => omega
      case rel => exact ⟨i + 1, by omega, by omega, by go_num, by repeat (first | exact Drawn0.refl _ | apply Drawn0.step)⟩
    · have hltz : ¬ (i : Int) < (zs.length : Int) := by omega
      go_wp2
      go_ret
      exact ⟨rfl, by repeat (first | exact Drawn0.refl _ | apply Drawn0.step)⟩
end Go.Proofs.Ytcelibdkicfgkaa.P

/-! Part Out3. -/
/- The outer function of TopWash, over what its inner function answers. -/
namespace Go.Proofs.Ytcelibdkicfgkaa.P
open Go.RowKit Go.Proofs.YtcelibdkicfgkaaW.PrintWords Go.Proofs.YtcelibdkicfgkaaW.PrintLast Go.Proofs.YtcelibdkicfgkaaW.PrintMore
set_option linter.unusedVariables false

set_option maxHeartbeats 4000000 in
set_option maxRecDepth 100000 in
theorem out3 (A0 : Option Addr) (n0 : Nat) (zs0 : List S61) (A1 : Option Addr) (n1 : Nat) (zs1 : List S61) (A2 : Option Addr) (n2 : Nat) (zs2 : List S56) (a1 a2 a3 : Int) (w : World)
    (hr0 : Kd.C k61 w A0 zs0.length zs0) (hn0 : n0 ≤ zs0.length) (hl0 : zs0.length * 16 ≤ 140737488351232) (hr1 : Kd.C k61 w A1 zs1.length zs1) (hn1 : n1 ≤ zs1.length) (hl1 : zs1.length * 16 ≤ 140737488351232) (hr2 : Kd.C k56 w A2 zs2.length zs2) (hn2 : n2 ≤ zs2.length) (hl2 : zs2.length * 24 ≤ 140737488351232)
    (HI : Aside0 (∀ w1, Below w.heap.size w w1 → Calls Try.prog 6 #[.agg #[.slice A0 n0 zs0.length, .slice A1 n1 zs1.length, .slice A2 n2 zs2.length], .agg #[.int .i64 a1, .int .i64 a2], .int .i64 a3] w1 fun e w' => e = .returned (.bool true) ∧ Below w1.heap.size w1 w')) :
    Calls Try.prog 3 #[.agg #[.slice A0 n0 zs0.length, .slice A1 n1 zs1.length, .slice A2 n2 zs2.length], .agg #[.int .i64 a1, .int .i64 a2], .int .i64 a3] w fun e w' => e = .returned (.bool true) ∧ Below w.heap.size w w' := by
  have hu25 := Try.underlying25
  have hu27 := Try.underlying27
  have HR0 := Aside0.mk hr0
  have HR1 := Aside0.mk hr1
  have HR2 := Aside0.mk hr2
  obtain ⟨wa, hwa⟩ : ∃ wa, wa = w.alloc (.cells #[.slice A0 n0 zs0.length, .slice A1 n1 zs1.length, .slice A2 n2 zs2.length] 25) := ⟨_, rfl⟩
  obtain ⟨wb, hwb⟩ : ∃ wb, wb = wa.alloc (.cells #[.int .i64 a1, .int .i64 a2] 27) := ⟨_, rfl⟩
  have hb1 : Below w.heap.size w wa := by rw [hwa]; exact below_alloc (Below.refl _ _) _
  have hb2 : Below wa.heap.size wa wb := by rw [hwb]; exact below_alloc (Below.refl _ _) _
  have hbb : Below w.heap.size w wb := below_step hb1 hb2
  have hsa : wa.heap.size = w.heap.size + 1 := by rw [hwa, World.size_alloc]
  have hc0 : wb.cell? ⟨w.heap.size, 0, none⟩ = some (.slice A0 n0 zs0.length) := pw_cell_below hb2 (by rw [hwa, World.cell?_alloc_new]; rfl)
  have hc1 : wb.cell? ⟨w.heap.size, 1, none⟩ = some (.slice A1 n1 zs1.length) := pw_cell_below hb2 (by rw [hwa, World.cell?_alloc_new]; rfl)
  have hc2 : wb.cell? ⟨w.heap.size, 2, none⟩ = some (.slice A2 n2 zs2.length) := pw_cell_below hb2 (by rw [hwa, World.cell?_alloc_new]; rfl)
  have hd0 : wb.cell? ⟨w.heap.size + 1, 0, none⟩ = some (.int .i64 a1) := by rw [← hsa, hwb, World.cell?_alloc_new]; rfl
  have hd1 : wb.cell? ⟨w.heap.size + 1, 1, none⟩ = some (.int .i64 a2) := by rw [← hsa, hwb, World.cell?_alloc_new]; rfl
  have HK0 := Aside0.mk (keepGrains A0 n0 zs0 wb (Kd.C_below hr0 hbb) hn0 hl0)
  have HK1 := Aside0.mk (fun (w1 : World) (hb : Below w.heap.size w w1) => keepGrains A1 n1 zs1 w1 (Kd.C_below hr1 hb) hn1 hl1)
  have HK2 := Aside0.mk (fun (w1 : World) (hb : Below w.heap.size w w1) => keepMoves A2 n2 zs2 w1 (Kd.C_below hr2 hb) hn2 hl2)
  have HN0 := Aside0.mk hn0
  have HN1 := Aside0.mk hn1
  have HN2 := Aside0.mk hn2
  have HWB : Aside0 (wb = (w.alloc (.cells #[.slice A0 n0 zs0.length, .slice A1 n1 zs1.length, .slice A2 n2 zs2.length] 25)).alloc (.cells #[.int .i64 a1, .int .i64 a2] 27)) := ⟨by rw [hwb, hwa]⟩
  have HB := Aside0.mk hbb
  have F0 := Aside0.mk hc0
  have F1 := Aside0.mk hc1
  have F2 := Aside0.mk hc2
  have G0 := Aside0.mk hd0
  have G1 := Aside0.mk hd1
  clear hr0 hr1 hr2 hn0 hn1 hn2 hl0 hl1 hl2 hwa hwb hb1 hb2 hbb hsa hc0 hc1 hc2 hd0 hd1
  go_enter Try.func3, Try.ntmps3
  go_wp2_with fail
  rw [← HWB.out]
  with_reducible refine HK0.out.mono ?_
  rintro e w1 ⟨v, rfl, hv, hb⟩
  obtain ⟨B0, c0, rfl, hcc0, hc⟩ := Kd.R_reads hv
  have D0 := Aside0.mk hc
  obtain ⟨F0, F1, F2, G0, G1, HB⟩ := And.intro (Aside0.mk (pw_cell_below hb F0.out)) (And.intro (Aside0.mk (pw_cell_below hb F1.out)) (And.intro (Aside0.mk (pw_cell_below hb F2.out)) (And.intro (Aside0.mk (pw_cell_below hb G0.out)) (And.intro (Aside0.mk (pw_cell_below hb G1.out)) (Aside0.mk (below_step HB.out hb))))))
  have hx := F1.out
  clear hc hv hb HWB
  go_wp2_with fail
  with_reducible refine (HK1.out w1 HB.out).mono ?_
  rintro e w2 ⟨v, rfl, hv, hb⟩
  obtain ⟨B1, c1, rfl, hcc1, hc⟩ := Kd.R_reads hv
  have D1 := Aside0.mk hc
  obtain ⟨F0, F1, F2, G0, G1, HB, D0⟩ := And.intro (Aside0.mk (pw_cell_below hb F0.out)) (And.intro (Aside0.mk (pw_cell_below hb F1.out)) (And.intro (Aside0.mk (pw_cell_below hb F2.out)) (And.intro (Aside0.mk (pw_cell_below hb G0.out)) (And.intro (Aside0.mk (pw_cell_below hb G1.out)) (And.intro (Aside0.mk (below_step HB.out hb)) (Aside0.mk (Kd.C_below D0.out hb)))))))
  have hx := F2.out
  clear hc hv hb
  go_wp2_with fail
  with_reducible refine (HK2.out w2 HB.out).mono ?_
  rintro e w3 ⟨v, rfl, hv, hb⟩
  obtain ⟨B2, c2, rfl, hcc2, hc⟩ := Kd.R_reads hv
  have D2 := Aside0.mk hc
  obtain ⟨F0, F1, F2, G0, G1, HB, D0, D1⟩ := And.intro (Aside0.mk (pw_cell_below hb F0.out)) (And.intro (Aside0.mk (pw_cell_below hb F1.out)) (And.intro (Aside0.mk (pw_cell_below hb F2.out)) (And.intro (Aside0.mk (pw_cell_below hb G0.out)) (And.intro (Aside0.mk (pw_cell_below hb G1.out)) (And.intro (Aside0.mk (below_step HB.out hb)) (And.intro (Aside0.mk (Kd.C_below D0.out hb)) (Aside0.mk (Kd.C_below D1.out hb))))))))
  have hx0 := F0.out
  have hx1 := F1.out
  have hx2 := F2.out
  have hy0 := G0.out
  have hy1 := G1.out
  clear hc hv hb
  go_wp2_with fail
  with_reducible refine (HI.out w3 HB.out).mono ?_
  rintro e w4 ⟨rfl, hb⟩
  obtain ⟨F0, F1, F2, HB, D0, D1, D2⟩ := And.intro (Aside0.mk (pw_cell_below hb F0.out)) (And.intro (Aside0.mk (pw_cell_below hb F1.out)) (And.intro (Aside0.mk (pw_cell_below hb F2.out)) (And.intro (Aside0.mk (below_step HB.out hb)) (And.intro (Aside0.mk (Kd.C_below D0.out hb)) (And.intro (Aside0.mk (Kd.C_below D1.out hb)) (Aside0.mk (Kd.C_below D2.out hb)))))))
  clear hx0 hx1 hx2 hy0 hy1 hb hx
  have hx0 := F0.out
  go_wp2_with fail
  with_reducible refine (keptGrains B0 c0 A0 n0 zs0 _ D0.out (Kd.C_below HR0.out HB.out) HN0.out).mono ?_
  rintro e w5 ⟨rfl, ⟨m0, rfl⟩⟩
  have hx1 : (w4.drewN m0).cell? ⟨w.heap.size, 1, none⟩ = some (.slice A1 n1 zs1.length) := F1.out
  clear hx0
  go_wp2_with fail
  with_reducible refine (keptGrains B1 c1 A1 n1 zs1 _ (Kd.C_drewN D1.out m0) (Kd.C_drewN (Kd.C_below HR1.out HB.out) m0) HN1.out).mono ?_
  rintro e w6 ⟨rfl, ⟨m1, rfl⟩⟩
  have hx2 : (w4.drewN (m0 + m1)).cell? ⟨w.heap.size, 2, none⟩ = some (.slice A2 n2 zs2.length) := F2.out
  clear hx1
  go_wp2_with fail
  with_reducible refine (keptMoves B2 c2 A2 n2 zs2 _ (Kd.C_drewN D2.out (m0 + m1)) (Kd.C_drewN (Kd.C_below HR2.out HB.out) (m0 + m1)) HN2.out).mono ?_
  rintro e w7 ⟨rfl, ⟨m2, rfl⟩⟩
  go_wp2_with fail
  go_ret
  exact ⟨rfl, by repeat (first | exact HB.out | apply pw_below_drewN)⟩
end Go.Proofs.Ytcelibdkicfgkaa.P

/-! Part Open3. -/
/- What TopWash's arguments are, as they come in: two lots, moves, a pot. -/
namespace Go.Proofs.Ytcelibdkicfgkaa.P
open Go.RowKit Go.Proofs.YtcelibdkicfgkaaW.PrintWords Go.Proofs.YtcelibdkicfgkaaW.PrintLast Go.Proofs.YtcelibdkicfgkaaW.PrintMore
open Go.ChangeShapes Go.WideShapes Go.Deep
set_option linter.unusedVariables false

theorem open_grainlist {H : Type} {enc : TypeId × Value → H} {W : World} {base : Nat} {held : Bool} {a : Option Addr} {len cap : Nat} {d : DataW H} {ps : List MemPlace} {ts : List TypeId} {ds : List (DataW H)} {j : Nat}
    (hsz : (DataW.weightsEach Try.prog ts ds).all (· ≤ reachBytes) = true) (ht : ts[j]? = some 22) (hd : ds[j]? = some d)
    (h : DataW.Trod enc Try.prog W base (fun _ => true) held 22 (.slice a len cap) d ps) :
    ∃ zs : List S61, cap = zs.length ∧ len ≤ zs.length ∧ Kd.C k61 W a zs.length zs ∧ zs.length * 16 ≤ 140737488351232 ∧ ∀ z ∈ zs, (Lit.int .i64 z.f0).wf = true ∧ (Lit.int .i64 z.f1).wf = true := by
  obtain ⟨fuel, hf⟩ := h
  rcases open_slice_pairs Try.underlying22 Try.underlying61 (by kernel_rfl) rfl rfl (by kernel_rfl) (by kernel_rfl) hf with ⟨hcs, _⟩ | ⟨x, l, c, m, n, V0, V1, D0, D1, P0, P1, hcs, _, hl, hm, hmm, hx, hi⟩
  · simp [Value.cells] at hcs
    obtain ⟨rfl, rfl, rfl⟩ := hcs
    exact ⟨[], rfl, Nat.le_refl _, Kd.C_nil _ _, by simp, by simp⟩
  · simp [Value.cells] at hcs
    obtain ⟨rfl, rfl, rfl⟩ := hcs
    simp only [if_true] at hmm
    subst hmm
    obtain ⟨hx, _⟩ := Prod.mk.inj hx
    subst hx
    have z := sized_slice hsz ht hd Try.underlying22
    rw [show Try.prog.bytesOf 61 = 16 by kernel_rfl] at z
    simp only [List.length_map, List.length_range] at z
    rw [show len + (m - len) = m by omega] at z
    have key : ∀ i, i < m → ∃ p : S61, (W.cell? (x.add (i * 2)) = some (.int .i64 p.f0) ∧ W.cell? (x.add (i * 2 + 1)) = some (.int .i64 p.f1)) ∧ (Lit.int .i64 p.f0).wf = true ∧ (Lit.int .i64 p.f1).wf = true := by
      intro i him
      obtain ⟨g0, g1, g2, g3⟩ := hi i him
      obtain ⟨a0, e0, _, w0⟩ := DataW.trod_int Try.underlying3 g2
      obtain ⟨a1, e1, _, w1⟩ := DataW.trod_int Try.underlying3 g3
      simp only [List.cons.injEq, and_true] at e0 e1
      exact ⟨⟨a0, a1⟩, ⟨by rw [g0, e0], by rw [g1, e1]⟩, w0, w1⟩
    haveI : Inhabited S61 := ⟨z61⟩
    obtain ⟨q, hq⟩ := choose_lt key
    have hlen : ((List.range m).map q).length = m := by simp
    refine ⟨(List.range m).map q, hlen.symm, by rw [hlen]; exact hl, ⟨rfl, by rw [hlen]; simp only [maxLen] at hm; omega, fun _ => ⟨x, rfl, fun i p hp => ?_⟩⟩, by rw [hlen]; exact z, ?_⟩
    · obtain ⟨him, hpe⟩ := List.getElem?_eq_some_iff.1 hp
      rw [hlen] at him
      simp only [List.getElem_map, List.getElem_range] at hpe
      subst hpe
      refine ⟨[.int .i64 (q i).f0, .int .i64 (q i).f1], rfl, k61_mk _ _, fun j u hu => ?_⟩
      match j, hu with
      | 0, hu => simp at hu; subst hu; exact (hq i him).1.1
      | 1, hu => simp at hu; subst hu; exact (hq i him).1.2
    · intro p hp
      obtain ⟨i, him, rfl⟩ := List.mem_map.1 hp
      exact (hq i (List.mem_range.1 him)).2

theorem open_movelist {H : Type} {enc : TypeId × Value → H} {W : World} {base : Nat} {held : Bool} {a : Option Addr} {len cap : Nat} {d : DataW H} {ps : List MemPlace} {ts : List TypeId} {ds : List (DataW H)} {j : Nat}
    (hsz : (DataW.weightsEach Try.prog ts ds).all (· ≤ reachBytes) = true) (ht : ts[j]? = some 23) (hd : ds[j]? = some d)
    (h : DataW.Trod enc Try.prog W base (fun _ => true) held 23 (.slice a len cap) d ps) :
    ∃ zs : List S56, cap = zs.length ∧ len ≤ zs.length ∧ Kd.C k56 W a zs.length zs ∧ zs.length * 24 ≤ 140737488351232 := by
  obtain ⟨fuel, hf⟩ := h
  rcases open_slice Try.underlying23 hf with ⟨hcs, _⟩ | ⟨x, l, c, m, n, D, Pl, hcs, _, hl, hm, hmm, hx, hi⟩
  · simp [Value.cells] at hcs
    obtain ⟨rfl, rfl, rfl⟩ := hcs
    exact ⟨[], rfl, Nat.le_refl _, Kd.C_nil _ _, by simp⟩
  · simp [Value.cells] at hcs
    obtain ⟨rfl, rfl, rfl⟩ := hcs
    simp only [if_true] at hmm
    subst hmm
    obtain ⟨hx, _⟩ := Prod.mk.inj hx
    subst hx
    have z := sized_slice hsz ht hd Try.underlying23
    rw [show Try.prog.bytesOf 56 = 24 by kernel_rfl] at z
    simp only [List.length_map, List.length_range] at z
    rw [show len + (m - len) = m by omega] at z
    have ce : Try.prog.cellsOf 56 = 3 := by kernel_rfl
    have c3 : Try.prog.cellsOf 3 = 1 := by kernel_rfl
    have key : ∀ i, i < m → ∃ p : S56, W.cell? (x.add (i * 3)) = some (.int .i64 p.f0) ∧ W.cell? (x.add (i * 3 + 1)) = some (.int .i64 p.f1) ∧ W.cell? (x.add (i * 3 + 2)) = some (.int .i64 p.f2) := by
      intro i him
      obtain ⟨cs', h1, h2⟩ := hi i him
      rw [ce] at h1
      obtain ⟨_, hlen, hcell⟩ := World.cells?_some h1
      obtain ⟨y0, y1, y2, q, _, _, t0, t1, t2⟩ := trod_struct3 Try.underlying56 h2
      match cs', hlen with
      | [v0, v1, v2], _ =>
        simp only [c3] at t0 t1 t2
        obtain ⟨a0, e0, _, _⟩ := DataW.trod_int Try.underlying3 t0
        obtain ⟨a1, e1, _, _⟩ := DataW.trod_int Try.underlying3 t1
        obtain ⟨a2, e2, _, _⟩ := DataW.trod_int Try.underlying3 t2
        simp at e0 e1 e2
        have k0 := hcell 0 (by omega)
        have k1 := hcell 1 (by omega)
        have k2 := hcell 2 (by omega)
        rw [Deep.add_add] at k0 k1 k2
        subst e0; subst e1; subst e2
        exact ⟨⟨a0, a1, a2⟩, by simpa using k0, by simpa using k1, by simpa using k2⟩
    haveI : Inhabited S56 := ⟨z56⟩
    obtain ⟨q, hq⟩ := choose_lt key
    have hlen : ((List.range m).map q).length = m := by simp
    refine ⟨(List.range m).map q, hlen.symm, by rw [hlen]; exact hl, ⟨rfl, by rw [hlen]; simp only [maxLen] at hm; omega, fun _ => ⟨x, rfl, fun i p hp => ?_⟩⟩, by rw [hlen]; exact z⟩
    obtain ⟨him, hpe⟩ := List.getElem?_eq_some_iff.1 hp
    rw [hlen] at him
    simp only [List.getElem_map, List.getElem_range] at hpe
    subst hpe
    refine ⟨[.int .i64 (q i).f0, .int .i64 (q i).f1, .int .i64 (q i).f2], rfl, k56_mk _ _, fun j u hu => ?_⟩
    match j, hu with
    | 0, hu => simp at hu; subst hu; exact (hq i him).1
    | 1, hu => simp at hu; subst hu; exact (hq i him).2.1
    | 2, hu => simp at hu; subst hu; exact (hq i him).2.2
theorem open_graincells {H : Type} {enc : TypeId × Value → H} {W : World} {base : Nat} {held : Bool} {cs : List Value} {d : DataW H} {ps : List MemPlace} {ts : List TypeId} {ds : List (DataW H)} {j : Nat} {fuel : Nat}
    (hsz : (DataW.weightsEach Try.prog ts ds).all (· ≤ reachBytes) = true) (ht : ts[j]? = some 22) (hd : ds[j]? = some d)
    (hf : DataW.trod enc Try.prog W base (fun _ => true) held fuel 22 cs = some (d, ps)) :
    ∃ (a : Option Addr) (len : Nat) (zs : List S61), cs = [.slice a len zs.length] ∧ len ≤ zs.length ∧ Kd.C k61 W a zs.length zs ∧ zs.length * 16 ≤ 140737488351232 := by
  have key : ∃ (a : Option Addr) (len cap : Nat), cs = [.slice a len cap] := by
    rcases open_slice Try.underlying22 hf with ⟨hcs, _⟩ | ⟨x, l, c, m, n, D, Pl, hcs, _⟩
    · exact ⟨_, _, _, hcs⟩
    · exact ⟨_, _, _, hcs⟩
  obtain ⟨a, len, cap, rfl⟩ := key
  obtain ⟨zs, rfl, h1, h2, h3, _⟩ := open_grainlist (a := a) (len := len) (cap := cap) hsz ht hd ⟨fuel, by simpa [Value.cells] using hf⟩
  exact ⟨a, len, zs, rfl, h1, h2, h3⟩
theorem open_movecells {H : Type} {enc : TypeId × Value → H} {W : World} {base : Nat} {held : Bool} {cs : List Value} {d : DataW H} {ps : List MemPlace} {ts : List TypeId} {ds : List (DataW H)} {j : Nat} {fuel : Nat}
    (hsz : (DataW.weightsEach Try.prog ts ds).all (· ≤ reachBytes) = true) (ht : ts[j]? = some 23) (hd : ds[j]? = some d)
    (hf : DataW.trod enc Try.prog W base (fun _ => true) held fuel 23 cs = some (d, ps)) :
    ∃ (a : Option Addr) (len : Nat) (zs : List S56), cs = [.slice a len zs.length] ∧ len ≤ zs.length ∧ Kd.C k56 W a zs.length zs ∧ zs.length * 24 ≤ 140737488351232 := by
  have key : ∃ (a : Option Addr) (len cap : Nat), cs = [.slice a len cap] := by
    rcases open_slice Try.underlying23 hf with ⟨hcs, _⟩ | ⟨x, l, c, m, n, D, Pl, hcs, _⟩
    · exact ⟨_, _, _, hcs⟩
    · exact ⟨_, _, _, hcs⟩
  obtain ⟨a, len, cap, rfl⟩ := key
  obtain ⟨zs, rfl, h1, h2, h3⟩ := open_movelist (a := a) (len := len) (cap := cap) hsz ht hd ⟨fuel, by simpa [Value.cells] using hf⟩
  exact ⟨a, len, zs, rfl, h1, h2, h3⟩
theorem open_lots {H : Type} {enc : TypeId × Value → H} {W : World} {base : Nat} {held : Bool} {cs : Array Value} {d : DataW H} {ps : List MemPlace} {ts : List TypeId} {ds : List (DataW H)} {j : Nat}
    (hsz : (DataW.weightsEach Try.prog ts ds).all (· ≤ reachBytes) = true) (ht : ts[j]? = some 25) (hd : ds[j]? = some d)
    (h : DataW.Trod enc Try.prog W base (fun _ => true) held 25 (.agg cs) d ps) :
    ∃ (a0 : Option Addr) (n0 : Nat) (z0 : List S61) (a1 : Option Addr) (n1 : Nat) (z1 : List S61) (a2 : Option Addr) (n2 : Nat) (z2 : List S56), cs = #[.slice a0 n0 z0.length, .slice a1 n1 z1.length, .slice a2 n2 z2.length] ∧
      n0 ≤ z0.length ∧ Kd.C k61 W a0 z0.length z0 ∧ z0.length * 16 ≤ 140737488351232 ∧ n1 ≤ z1.length ∧ Kd.C k61 W a1 z1.length z1 ∧ z1.length * 16 ≤ 140737488351232 ∧ n2 ≤ z2.length ∧ Kd.C k56 W a2 z2.length z2 ∧ z2.length * 24 ≤ 140737488351232 := by
  obtain ⟨fuel, hf⟩ := h
  obtain ⟨y0, y1, y2, n, hx, hlen, t0, t1, t2⟩ := trod_struct3 Try.underlying25 hf
  obtain ⟨rfl, _⟩ := Prod.mk.inj hx
  rw [show Try.prog.cellsOf 25 = 3 by kernel_rfl] at hlen
  have hin : (DataW.weightsEach Try.prog [22, 22, 23] [y0.1, y1.1, y2.1]).all (· ≤ reachBytes) = true := by
    rw [List.all_eq_true]
    intro m hm
    refine List.all_eq_true.1 hsz m (DataW.weights_mem_each ht hd m ?_)
    simp only [DataW.weights, Try.underlying25]
    exact hm
  match cs, hlen with
  | ⟨[v0, v1, v2]⟩, _ =>
    have u0 : DataW.trod enc Try.prog W base (fun _ => true) held n 22 [v0] = some (y0.1, y0.2) := by
      have := t0
      rw [show Try.prog.cellsOf 22 = 1 by kernel_rfl] at this
      exact this
    have u1 : DataW.trod enc Try.prog W base (fun _ => true) held n 22 [v1] = some (y1.1, y1.2) := by
      have := t1
      rw [show Try.prog.cellsOf 22 = 1 by kernel_rfl] at this
      exact this
    have u2 : DataW.trod enc Try.prog W base (fun _ => true) held n 23 [v2] = some (y2.1, y2.2) := by
      have := t2
      rw [show Try.prog.cellsOf 23 = 1 by kernel_rfl] at this
      exact this
    obtain ⟨a0, n0, z0, e0, g1, g2, g3⟩ := open_graincells hin (j := 0) rfl rfl u0
    obtain ⟨a1, n1, z1, e1, g4, g5, g6⟩ := open_graincells hin (j := 1) rfl rfl u1
    obtain ⟨a2, n2, z2, e2, g7, g8, g9⟩ := open_movecells hin (j := 2) rfl rfl u2
    simp only [List.cons.injEq, and_true] at e0 e1 e2
    subst e0; subst e1; subst e2
    exact ⟨a0, n0, z0, a1, n1, z1, a2, n2, z2, rfl, g1, g2, g3, g4, g5, g6, g7, g8, g9⟩
theorem open_pot {H : Type} {enc : TypeId × Value → H} {W : World} {base : Nat} {held : Bool} {cs : Array Value} {d : DataW H} {ps : List MemPlace}
    (h : DataW.Trod enc Try.prog W base (fun _ => true) held 27 (.agg cs) d ps) : ∃ a1 a2 : Int, cs = #[.int .i64 a1, .int .i64 a2] := by
  obtain ⟨fuel, hf⟩ := h
  obtain ⟨y0, y1, n, hx, hlen, t0, t1⟩ := trod_struct2 Try.underlying27 hf
  rw [show Try.prog.cellsOf 27 = 2 by kernel_rfl] at hlen
  have c3 : Try.prog.cellsOf 3 = 1 := by kernel_rfl
  match cs, hlen with
  | ⟨[v0, v1]⟩, _ =>
    simp only [c3] at t0 t1
    obtain ⟨a0, e0, _, _⟩ := DataW.trod_int Try.underlying3 t0
    obtain ⟨a1, e1, _, _⟩ := DataW.trod_int Try.underlying3 t1
    simp [Value.cells] at e0 e1
    subst e0; subst e1
    exact ⟨a0, a1, rfl⟩
end Go.Proofs.Ytcelibdkicfgkaa.P

/-! Part PF10. -/
namespace Go.Proofs.Ytcelibdkicfgkaa.P
open Go.RowKit Go.Proofs.YtcelibdkicfgkaaW.PrintWords Go.Proofs.YtcelibdkicfgkaaW.PrintLast Go.Proofs.YtcelibdkicfgkaaW.PrintMore
attribute [local go_sem] max2_int min2_int max_two min_two max_three min_three max_four min_four   -- for this text's walks alone
set_option linter.unusedVariables false
set_option linter.unusedSimpArgs false

/-! ### verditerlaw01_Long: function 10 -/
def verditerlaw01_Long.f (l0 : List (S61)) : Option (Bool) := some (decide ((l0.length : Int) > 40))
set_option maxHeartbeats 8000000 in
set_option maxRecDepth 100000 in
theorem verditerlaw01_Long.calls (A0 : Option Addr) (c0 : Nat) (l0 : List (S61)) (r : Bool) (w : World) (hr0 : Kd.C k61 w A0 l0.length l0) (hc0 : l0.length ≤ c0) (h : verditerlaw01_Long.f l0 = some r) :
    Calls Try.prog 10 #[.slice A0 l0.length c0] w fun e w' => e = .returned (.bool r) ∧ Drawn0 w w' := by
  have HR0 := Aside0.mk hr0
  have HC0 := Aside0.mk hc0
  clear hr0 hc0
  have H : (some (decide ((l0.length : Int) > 40))) = some r := h
  clear h
  obtain rfl := Option.some.inj H
  go_enter Try.func10, Try.ntmps10
  go_wp2
  go_ret
  exact ⟨by first | rfl | (simp; done) | (simp [*]; done), by repeat (first | exact Drawn0.refl _ | apply Drawn0.step)⟩

end Go.Proofs.Ytcelibdkicfgkaa.P

/-! Part PF12. -/
namespace Go.Proofs.Ytcelibdkicfgkaa.P
open Go.RowKit Go.Proofs.YtcelibdkicfgkaaW.PrintWords Go.Proofs.YtcelibdkicfgkaaW.PrintLast Go.Proofs.YtcelibdkicfgkaaW.PrintMore
attribute [local go_sem] max2_int min2_int max_two min_two max_three min_three max_four min_four   -- for this text's walks alone
set_option linter.unusedVariables false
set_option linter.unusedSimpArgs false

/-! ### wash_Validate: function 12 -/
def wash_Validate.l0 : Nat → List (S61) → List (S61) → Int → Int → Option (Int)
  | 0, _, _, _, _ => none
  | k + 1, x0, x8, x9, x10 => if x10 < x9 then (if 0 ≤ x10 then (if x10 < (x8.length : Int) then (if ((rd_T61 x8 x10).f0) < 1 then (some 1) else (if ((rd_T61 x8 x10).f0) > 20 then (some 1) else (if ((rd_T61 x8 x10).f1) < 1 then (some 1) else (if ((rd_T61 x8 x10).f1) > 100 then (some 1) else (if x10 > 0 then (if 0 ≤ (wrap64 (x10 - 1)) then (if (wrap64 (x10 - 1)) < (x0.length : Int) then (if ((rd_T61 x0 (wrap64 (x10 - 1))).f0) ≥ ((rd_T61 x8 x10).f0) then (some 1) else (wash_Validate.l0 k x0 x8 x9 (wrap64 (x10 + 1)))) else (none)) else (none)) else (wash_Validate.l0 k x0 x8 x9 (wrap64 (x10 + 1)))))))) else (none)) else (none)) else (some 0)
def wash_Validate.f (k : Nat) (l0 : List (S61)) : Option (Int) := if (l0.length : Int) > 6 then (some 3) else (wash_Validate.l0 k l0 l0 (l0.length : Int) 0)
theorem wash_Validate.mono_l : ∀ k, (∀ y0 y1 y2 y3, LeO (wash_Validate.l0 k y0 y1 y2 y3) (wash_Validate.l0 (k + 1) y0 y1 y2 y3))
  | 0 => fun _ _ _ _ r h => by simp [wash_Validate.l0] at h
  | k + 1 => by
    have ih0 := wash_Validate.mono_l k
    · intro y0 y1 y2 y3
      unfold wash_Validate.l0
      repeat' first
      | (with_reducible exact ih0 _ _ _ _)
      | (with_reducible exact LeO.refl _)
      | (with_reducible exact LeO.none _)
      | (with_reducible refine LeO.ite ?_ ?_)
      | (with_reducible refine LeO.bind ?_ (fun _ => ?_))
      | exact ih0 _ _ _ _
      | exact LeO.none _
      | refine LeO.ite ?_ ?_
      | refine LeO.bind ?_ (fun _ => ?_)
theorem wash_Validate.mono : ∀ a0 k, LeO (wash_Validate.f k a0) (wash_Validate.f (k + 1) a0) := by
  intro a0 k
  have ih0 := wash_Validate.mono_l k
  unfold wash_Validate.f
  repeat' first
      | (with_reducible exact ih0 _ _ _ _)
      | (with_reducible exact LeO.refl _)
      | (with_reducible exact LeO.none _)
      | (with_reducible refine LeO.ite ?_ ?_)
      | (with_reducible refine LeO.bind ?_ (fun _ => ?_))
      | exact ih0 _ _ _ _
      | exact LeO.none _
      | refine LeO.ite ?_ ?_
      | refine LeO.bind ?_ (fun _ => ?_)
set_option maxHeartbeats 8000000 in
set_option maxRecDepth 100000 in
theorem wash_Validate.calls (k : Nat) (A0 : Option Addr) (c0 : Nat) (l0 : List (S61)) (r : Int) (w : World) (hr0 : Kd.C k61 w A0 l0.length l0) (hc0 : l0.length ≤ c0) (h : wash_Validate.f k l0 = some r) :
    Calls Try.prog 12 #[.slice A0 l0.length c0] w fun e w' => e = .returned (.int .i64 r) ∧ Below w.heap.size w w' := by
  have hu61 := Try.underlying61
  have HR0 := Aside0.mk hr0
  have HC0 := Aside0.mk hc0
  clear hr0 hc0
  have HB := Aside0.mk (Below.refl w.heap.size w)
  have H : (if (l0.length : Int) > 6 then (some 3) else (wash_Validate.l0 k l0 l0 (l0.length : Int) 0)) = some r := h
  clear h
  by_cases c2 : (l0.length : Int) > 6
  · rw [if_pos c2] at H
    have c2b0 : decide (6 < (l0.length : Int)) = true := decide_eq_true c2
    have c2b1 : decide (6 < l0.length) = true := decide_eq_true (by omega)
    clear c2
    obtain rfl := Option.some.inj H
    go_enter Try.func12, Try.ntmps12
    go_wp2
    repeat (go_quiet (fail); try go_wp2)
    go_ret
    exact ⟨by first | rfl | (simp [errW_none, errW_some] <;> rfl) | (simp [*, errW_none, errW_some] <;> rfl), by repeat (first | (with_reducible first | exact HB.out | apply below_alloc | apply pw_below_drewN | apply below_drew1) | exact HB.out)⟩
  · rw [if_neg c2] at H
    have c2b0 : decide (6 < (l0.length : Int)) = false := decide_eq_false c2
    have c2b1 : decide (6 < l0.length) = false := decide_eq_false (by omega)
    clear c2
    have H' := Aside0.mk H
    clear H
    go_enter Try.func12, Try.ntmps12
    go_wp2
    repeat (go_quiet (fail); try go_wp2)
    go_loopg [10] k (fun kq v10 w' => ∃ (x10_1 : Int), v10 = .int .i64 x10_1 ∧ Aside0 (wash_Validate.l0 kq l0 l0 (l0.length : Int) x10_1 = some r) ∧ Aside0 (kq ≤ k) ∧ Aside0 (Below w.heap.size w w'))
    case atStart => exact ⟨(0), (by first | rfl | (simp; done) | (simp [*]; done)), H', ⟨Nat.le_refl _⟩, ⟨by repeat (first | (with_reducible first | exact HB.out | apply below_alloc | apply pw_below_drewN | apply below_drew1) | exact HB.out)⟩⟩
    case round =>
      clear H'
      try clear c1
      try clear c2
      try clear c2b0
      try clear c2b1
      try clear p2
      obtain ⟨x10_1, rfl, HA, HK1, HB⟩ := hrel
      cases gk with
      | zero => exact absurd HA.out (by simp [wash_Validate.l0])
      | succ k1 =>
        have H := HA.out
        clear HA
        simp only [wash_Validate.l0] at H
        by_cases c3 : x10_1 < (l0.length : Int)
        · rw [if_pos c3] at H
          have c3b0 : decide (x10_1 < (l0.length : Int)) = true := decide_eq_true c3
          clear c3
          by_cases c4 : 0 ≤ x10_1
          · rw [if_pos c4] at H
            have c4b0 : decide (0 ≤ x10_1) = true := decide_eq_true c4
            clear c4
            by_cases c5 : x10_1 < (l0.length : Int)
            · rw [if_pos c5] at H
              have c5b0 : decide (x10_1 < (l0.length : Int)) = true := decide_eq_true c5
              clear c5
              by_cases c6 : ((rd_T61 l0 x10_1).f0) < 1
              · rw [if_pos c6] at H
                have c6b0 : decide (((rd_T61 l0 x10_1).f0) < 1) = true := decide_eq_true c6
                clear c6
                obtain rfl := Option.some.inj H
                have p106 : 0 ≤ (x10_1 : Int) := of_decide_eq_true (by first | (with_reducible assumption) | assumption)
                have q106 : x10_1 < (l0.length : Int) := of_decide_eq_true (by first | (with_reducible assumption) | assumption)
                obtain ⟨ad106, e106, hx106_0, hx106_1⟩ := at_T61 HR0.out x10_1 p106 q106
                cases e106
                replace hx106_0 := (HB.out.cell (World.block_lt_of_cell? w _ hx106_0)).trans hx106_0
                replace hx106_1 := (HB.out.cell (World.block_lt_of_cell? w _ hx106_1)).trans hx106_1
                replace p106 := eq_true p106
                replace q106 := eq_true q106
                go_wp2_with (first | ((with_reducible refine gate_dst (N := 4) rfl ?_); refine box_event ?hg (N := 4) ?hd (cs := #[.int .i64 0, .int .i64 0]) (t := 61) ?hr ?_; (case hd => rfl); (case hg => rfl); (case hr => first | (go_simp; done) | (go_simp; rfl)); intro gb107 hg w7 hbox hb; have n0_ := Aside0.mk (below_step (by repeat (first | (with_reducible first | exact HB.out | apply below_alloc | apply pw_below_drewN | apply below_drew1) | exact HB.out)) hb); have n1_ := Aside0.mk (hbox); have n2_ := Aside0.mk ((by rw [hg]; exact (below_size (by repeat (first | (with_reducible first | exact HB.out | apply below_alloc | apply pw_below_drewN | apply below_drew1) | exact HB.out))) : w.heap.size ≤ gb107)); have n3_ := Aside0.mk ((by rw [hg]; exact (below_size (by repeat (first | (with_reducible first | exact HB.out | apply below_alloc | apply pw_below_drewN | apply below_drew1) | exact HB.out))) : w.heap.size ≤ gb107)); clear HB; have HB := n0_; have BK107 := n1_; have GW107 := n2_; have GE107 := n3_; clear n0_ n1_ n2_ n3_; clear hb hbox hg; have hcz8_0 : w7.cell? ⟨gb107, 0, none⟩ = some (.int .i64 0) := (blk_cell BK107.out 0).trans rfl; have hcz8_1 : w7.cell? ⟨gb107, 1, none⟩ = some (.int .i64 0) := (blk_cell BK107.out 1).trans rfl; have hfz8_0 := blk_frozen BK107.out 0; have hfz8_1 := blk_frozen BK107.out 1))
                repeat (go_quiet (first | ((with_reducible refine gate_dst (N := 4) rfl ?_); refine box_event ?hg (N := 4) ?hd (cs := #[.int .i64 0, .int .i64 0]) (t := 61) ?hr ?_; (case hd => rfl); (case hg => rfl); (case hr => first | (go_simp; done) | (go_simp; rfl)); intro gb107 hg w7 hbox hb; have n0_ := Aside0.mk (below_step (by repeat (first | (with_reducible first | exact HB.out | apply below_alloc | apply pw_below_drewN | apply below_drew1) | exact HB.out)) hb); have n1_ := Aside0.mk (hbox); have n2_ := Aside0.mk ((by rw [hg]; exact (below_size (by repeat (first | (with_reducible first | exact HB.out | apply below_alloc | apply pw_below_drewN | apply below_drew1) | exact HB.out))) : w.heap.size ≤ gb107)); have n3_ := Aside0.mk ((by rw [hg]; exact (below_size (by repeat (first | (with_reducible first | exact HB.out | apply below_alloc | apply pw_below_drewN | apply below_drew1) | exact HB.out))) : w.heap.size ≤ gb107)); clear HB; have HB := n0_; have BK107 := n1_; have GW107 := n2_; have GE107 := n3_; clear n0_ n1_ n2_ n3_; clear hb hbox hg; have hcz8_0 : w7.cell? ⟨gb107, 0, none⟩ = some (.int .i64 0) := (blk_cell BK107.out 0).trans rfl; have hcz8_1 : w7.cell? ⟨gb107, 1, none⟩ = some (.int .i64 0) := (blk_cell BK107.out 1).trans rfl; have hfz8_0 := blk_frozen BK107.out 0; have hfz8_1 := blk_frozen BK107.out 1)); try go_wp2_with (first | ((with_reducible refine gate_dst (N := 4) rfl ?_); refine box_event ?hg (N := 4) ?hd (cs := #[.int .i64 0, .int .i64 0]) (t := 61) ?hr ?_; (case hd => rfl); (case hg => rfl); (case hr => first | (go_simp; done) | (go_simp; rfl)); intro gb107 hg w7 hbox hb; have n0_ := Aside0.mk (below_step (by repeat (first | (with_reducible first | exact HB.out | apply below_alloc | apply pw_below_drewN | apply below_drew1) | exact HB.out)) hb); have n1_ := Aside0.mk (hbox); have n2_ := Aside0.mk ((by rw [hg]; exact (below_size (by repeat (first | (with_reducible first | exact HB.out | apply below_alloc | apply pw_below_drewN | apply below_drew1) | exact HB.out))) : w.heap.size ≤ gb107)); have n3_ := Aside0.mk ((by rw [hg]; exact (below_size (by repeat (first | (with_reducible first | exact HB.out | apply below_alloc | apply pw_below_drewN | apply below_drew1) | exact HB.out))) : w.heap.size ≤ gb107)); clear HB; have HB := n0_; have BK107 := n1_; have GW107 := n2_; have GE107 := n3_; clear n0_ n1_ n2_ n3_; clear hb hbox hg; have hcz8_0 : w7.cell? ⟨gb107, 0, none⟩ = some (.int .i64 0) := (blk_cell BK107.out 0).trans rfl; have hcz8_1 : w7.cell? ⟨gb107, 1, none⟩ = some (.int .i64 0) := (blk_cell BK107.out 1).trans rfl; have hfz8_0 := blk_frozen BK107.out 0; have hfz8_1 := blk_frozen BK107.out 1)))
                go_ret
                exact ⟨by first | rfl | (simp [errW_none, errW_some] <;> rfl) | (simp [*, errW_none, errW_some] <;> rfl), by repeat (first | (with_reducible first | exact HB.out | apply below_alloc | apply pw_below_drewN | apply below_drew1 | refine below_set ?_ GE107.out) | exact HB.out)⟩
              · rw [if_neg c6] at H
                have c6b0 : decide (((rd_T61 l0 x10_1).f0) < 1) = false := decide_eq_false c6
                clear c6
                by_cases c9 : ((rd_T61 l0 x10_1).f0) > 20
                · rw [if_pos c9] at H
                  have c9b0 : decide (20 < ((rd_T61 l0 x10_1).f0)) = true := decide_eq_true c9
                  clear c9
                  obtain rfl := Option.some.inj H
                  have p106 : 0 ≤ (x10_1 : Int) := of_decide_eq_true (by first | (with_reducible assumption) | assumption)
                  have q106 : x10_1 < (l0.length : Int) := of_decide_eq_true (by first | (with_reducible assumption) | assumption)
                  obtain ⟨ad106, e106, hx106_0, hx106_1⟩ := at_T61 HR0.out x10_1 p106 q106
                  cases e106
                  replace hx106_0 := (HB.out.cell (World.block_lt_of_cell? w _ hx106_0)).trans hx106_0
                  replace hx106_1 := (HB.out.cell (World.block_lt_of_cell? w _ hx106_1)).trans hx106_1
                  replace p106 := eq_true p106
                  replace q106 := eq_true q106
                  go_wp2_with (first | ((with_reducible refine gate_dst (N := 4) rfl ?_); refine box_event ?hg (N := 4) ?hd (cs := #[.int .i64 0, .int .i64 0]) (t := 61) ?hr ?_; (case hd => rfl); (case hg => rfl); (case hr => first | (go_simp; done) | (go_simp; rfl)); intro gb107 hg w10 hbox hb; have n0_ := Aside0.mk (below_step (by repeat (first | (with_reducible first | exact HB.out | apply below_alloc | apply pw_below_drewN | apply below_drew1) | exact HB.out)) hb); have n1_ := Aside0.mk (hbox); have n2_ := Aside0.mk ((by rw [hg]; exact (below_size (by repeat (first | (with_reducible first | exact HB.out | apply below_alloc | apply pw_below_drewN | apply below_drew1) | exact HB.out))) : w.heap.size ≤ gb107)); have n3_ := Aside0.mk ((by rw [hg]; exact (below_size (by repeat (first | (with_reducible first | exact HB.out | apply below_alloc | apply pw_below_drewN | apply below_drew1) | exact HB.out))) : w.heap.size ≤ gb107)); clear HB; have HB := n0_; have BK107 := n1_; have GW107 := n2_; have GE107 := n3_; clear n0_ n1_ n2_ n3_; clear hb hbox hg; have hcz11_0 : w10.cell? ⟨gb107, 0, none⟩ = some (.int .i64 0) := (blk_cell BK107.out 0).trans rfl; have hcz11_1 : w10.cell? ⟨gb107, 1, none⟩ = some (.int .i64 0) := (blk_cell BK107.out 1).trans rfl; have hfz11_0 := blk_frozen BK107.out 0; have hfz11_1 := blk_frozen BK107.out 1))
                  repeat (go_quiet (first | ((with_reducible refine gate_dst (N := 4) rfl ?_); refine box_event ?hg (N := 4) ?hd (cs := #[.int .i64 0, .int .i64 0]) (t := 61) ?hr ?_; (case hd => rfl); (case hg => rfl); (case hr => first | (go_simp; done) | (go_simp; rfl)); intro gb107 hg w10 hbox hb; have n0_ := Aside0.mk (below_step (by repeat (first | (with_reducible first | exact HB.out | apply below_alloc | apply pw_below_drewN | apply below_drew1) | exact HB.out)) hb); have n1_ := Aside0.mk (hbox); have n2_ := Aside0.mk ((by rw [hg]; exact (below_size (by repeat (first | (with_reducible first | exact HB.out | apply below_alloc | apply pw_below_drewN | apply below_drew1) | exact HB.out))) : w.heap.size ≤ gb107)); have n3_ := Aside0.mk ((by rw [hg]; exact (below_size (by repeat (first | (with_reducible first | exact HB.out | apply below_alloc | apply pw_below_drewN | apply below_drew1) | exact HB.out))) : w.heap.size ≤ gb107)); clear HB; have HB := n0_; have BK107 := n1_; have GW107 := n2_; have GE107 := n3_; clear n0_ n1_ n2_ n3_; clear hb hbox hg; have hcz11_0 : w10.cell? ⟨gb107, 0, none⟩ = some (.int .i64 0) := (blk_cell BK107.out 0).trans rfl; have hcz11_1 : w10.cell? ⟨gb107, 1, none⟩ = some (.int .i64 0) := (blk_cell BK107.out 1).trans rfl; have hfz11_0 := blk_frozen BK107.out 0; have hfz11_1 := blk_frozen BK107.out 1)); try go_wp2_with (first | ((with_reducible refine gate_dst (N := 4) rfl ?_); refine box_event ?hg (N := 4) ?hd (cs := #[.int .i64 0, .int .i64 0]) (t := 61) ?hr ?_; (case hd => rfl); (case hg => rfl); (case hr => first | (go_simp; done) | (go_simp; rfl)); intro gb107 hg w10 hbox hb; have n0_ := Aside0.mk (below_step (by repeat (first | (with_reducible first | exact HB.out | apply below_alloc | apply pw_below_drewN | apply below_drew1) | exact HB.out)) hb); have n1_ := Aside0.mk (hbox); have n2_ := Aside0.mk ((by rw [hg]; exact (below_size (by repeat (first | (with_reducible first | exact HB.out | apply below_alloc | apply pw_below_drewN | apply below_drew1) | exact HB.out))) : w.heap.size ≤ gb107)); have n3_ := Aside0.mk ((by rw [hg]; exact (below_size (by repeat (first | (with_reducible first | exact HB.out | apply below_alloc | apply pw_below_drewN | apply below_drew1) | exact HB.out))) : w.heap.size ≤ gb107)); clear HB; have HB := n0_; have BK107 := n1_; have GW107 := n2_; have GE107 := n3_; clear n0_ n1_ n2_ n3_; clear hb hbox hg; have hcz11_0 : w10.cell? ⟨gb107, 0, none⟩ = some (.int .i64 0) := (blk_cell BK107.out 0).trans rfl; have hcz11_1 : w10.cell? ⟨gb107, 1, none⟩ = some (.int .i64 0) := (blk_cell BK107.out 1).trans rfl; have hfz11_0 := blk_frozen BK107.out 0; have hfz11_1 := blk_frozen BK107.out 1)))
                  go_ret
                  exact ⟨by first | rfl | (simp [errW_none, errW_some] <;> rfl) | (simp [*, errW_none, errW_some] <;> rfl), by repeat (first | (with_reducible first | exact HB.out | apply below_alloc | apply pw_below_drewN | apply below_drew1 | refine below_set ?_ GE107.out) | exact HB.out)⟩
                · rw [if_neg c9] at H
                  have c9b0 : decide (20 < ((rd_T61 l0 x10_1).f0)) = false := decide_eq_false c9
                  clear c9
                  by_cases c12 : ((rd_T61 l0 x10_1).f1) < 1
                  · rw [if_pos c12] at H
                    have c12b0 : decide (((rd_T61 l0 x10_1).f1) < 1) = true := decide_eq_true c12
                    clear c12
                    obtain rfl := Option.some.inj H
                    have p106 : 0 ≤ (x10_1 : Int) := of_decide_eq_true (by first | (with_reducible assumption) | assumption)
                    have q106 : x10_1 < (l0.length : Int) := of_decide_eq_true (by first | (with_reducible assumption) | assumption)
                    obtain ⟨ad106, e106, hx106_0, hx106_1⟩ := at_T61 HR0.out x10_1 p106 q106
                    cases e106
                    replace hx106_0 := (HB.out.cell (World.block_lt_of_cell? w _ hx106_0)).trans hx106_0
                    replace hx106_1 := (HB.out.cell (World.block_lt_of_cell? w _ hx106_1)).trans hx106_1
                    replace p106 := eq_true p106
                    replace q106 := eq_true q106
                    go_wp2_with (first | ((with_reducible refine gate_dst (N := 4) rfl ?_); refine box_event ?hg (N := 4) ?hd (cs := #[.int .i64 0, .int .i64 0]) (t := 61) ?hr ?_; (case hd => rfl); (case hg => rfl); (case hr => first | (go_simp; done) | (go_simp; rfl)); intro gb107 hg w13 hbox hb; have n0_ := Aside0.mk (below_step (by repeat (first | (with_reducible first | exact HB.out | apply below_alloc | apply pw_below_drewN | apply below_drew1) | exact HB.out)) hb); have n1_ := Aside0.mk (hbox); have n2_ := Aside0.mk ((by rw [hg]; exact (below_size (by repeat (first | (with_reducible first | exact HB.out | apply below_alloc | apply pw_below_drewN | apply below_drew1) | exact HB.out))) : w.heap.size ≤ gb107)); have n3_ := Aside0.mk ((by rw [hg]; exact (below_size (by repeat (first | (with_reducible first | exact HB.out | apply below_alloc | apply pw_below_drewN | apply below_drew1) | exact HB.out))) : w.heap.size ≤ gb107)); clear HB; have HB := n0_; have BK107 := n1_; have GW107 := n2_; have GE107 := n3_; clear n0_ n1_ n2_ n3_; clear hb hbox hg; have hcz14_0 : w13.cell? ⟨gb107, 0, none⟩ = some (.int .i64 0) := (blk_cell BK107.out 0).trans rfl; have hcz14_1 : w13.cell? ⟨gb107, 1, none⟩ = some (.int .i64 0) := (blk_cell BK107.out 1).trans rfl; have hfz14_0 := blk_frozen BK107.out 0; have hfz14_1 := blk_frozen BK107.out 1))
                    repeat (go_quiet (first | ((with_reducible refine gate_dst (N := 4) rfl ?_); refine box_event ?hg (N := 4) ?hd (cs := #[.int .i64 0, .int .i64 0]) (t := 61) ?hr ?_; (case hd => rfl); (case hg => rfl); (case hr => first | (go_simp; done) | (go_simp; rfl)); intro gb107 hg w13 hbox hb; have n0_ := Aside0.mk (below_step (by repeat (first | (with_reducible first | exact HB.out | apply below_alloc | apply pw_below_drewN | apply below_drew1) | exact HB.out)) hb); have n1_ := Aside0.mk (hbox); have n2_ := Aside0.mk ((by rw [hg]; exact (below_size (by repeat (first | (with_reducible first | exact HB.out | apply below_alloc | apply pw_below_drewN | apply below_drew1) | exact HB.out))) : w.heap.size ≤ gb107)); have n3_ := Aside0.mk ((by rw [hg]; exact (below_size (by repeat (first | (with_reducible first | exact HB.out | apply below_alloc | apply pw_below_drewN | apply below_drew1) | exact HB.out))) : w.heap.size ≤ gb107)); clear HB; have HB := n0_; have BK107 := n1_; have GW107 := n2_; have GE107 := n3_; clear n0_ n1_ n2_ n3_; clear hb hbox hg; have hcz14_0 : w13.cell? ⟨gb107, 0, none⟩ = some (.int .i64 0) := (blk_cell BK107.out 0).trans rfl; have hcz14_1 : w13.cell? ⟨gb107, 1, none⟩ = some (.int .i64 0) := (blk_cell BK107.out 1).trans rfl; have hfz14_0 := blk_frozen BK107.out 0; have hfz14_1 := blk_frozen BK107.out 1)); try go_wp2_with (first | ((with_reducible refine gate_dst (N := 4) rfl ?_); refine box_event ?hg (N := 4) ?hd (cs := #[.int .i64 0, .int .i64 0]) (t := 61) ?hr ?_; (case hd => rfl); (case hg => rfl); (case hr => first | (go_simp; done) | (go_simp; rfl)); intro gb107 hg w13 hbox hb; have n0_ := Aside0.mk (below_step (by repeat (first | (with_reducible first | exact HB.out | apply below_alloc | apply pw_below_drewN | apply below_drew1) | exact HB.out)) hb); have n1_ := Aside0.mk (hbox); have n2_ := Aside0.mk ((by rw [hg]; exact (below_size (by repeat (first | (with_reducible first | exact HB.out | apply below_alloc | apply pw_below_drewN | apply below_drew1) | exact HB.out))) : w.heap.size ≤ gb107)); have n3_ := Aside0.mk ((by rw [hg]; exact (below_size (by repeat (first | (with_reducible first | exact HB.out | apply below_alloc | apply pw_below_drewN | apply below_drew1) | exact HB.out))) : w.heap.size ≤ gb107)); clear HB; have HB := n0_; have BK107 := n1_; have GW107 := n2_; have GE107 := n3_; clear n0_ n1_ n2_ n3_; clear hb hbox hg; have hcz14_0 : w13.cell? ⟨gb107, 0, none⟩ = some (.int .i64 0) := (blk_cell BK107.out 0).trans rfl; have hcz14_1 : w13.cell? ⟨gb107, 1, none⟩ = some (.int .i64 0) := (blk_cell BK107.out 1).trans rfl; have hfz14_0 := blk_frozen BK107.out 0; have hfz14_1 := blk_frozen BK107.out 1)))
                    go_ret
                    exact ⟨by first | rfl | (simp [errW_none, errW_some] <;> rfl) | (simp [*, errW_none, errW_some] <;> rfl), by repeat (first | (with_reducible first | exact HB.out | apply below_alloc | apply pw_below_drewN | apply below_drew1 | refine below_set ?_ GE107.out) | exact HB.out)⟩
                  · rw [if_neg c12] at H
                    have c12b0 : decide (((rd_T61 l0 x10_1).f1) < 1) = false := decide_eq_false c12
                    clear c12
                    by_cases c15 : ((rd_T61 l0 x10_1).f1) > 100
                    · rw [if_pos c15] at H
                      have c15b0 : decide (100 < ((rd_T61 l0 x10_1).f1)) = true := decide_eq_true c15
                      clear c15
                      obtain rfl := Option.some.inj H
                      have p106 : 0 ≤ (x10_1 : Int) := of_decide_eq_true (by first | (with_reducible assumption) | assumption)
                      have q106 : x10_1 < (l0.length : Int) := of_decide_eq_true (by first | (with_reducible assumption) | assumption)
                      obtain ⟨ad106, e106, hx106_0, hx106_1⟩ := at_T61 HR0.out x10_1 p106 q106
                      cases e106
                      replace hx106_0 := (HB.out.cell (World.block_lt_of_cell? w _ hx106_0)).trans hx106_0
                      replace hx106_1 := (HB.out.cell (World.block_lt_of_cell? w _ hx106_1)).trans hx106_1
                      replace p106 := eq_true p106
                      replace q106 := eq_true q106
                      go_wp2_with (first | ((with_reducible refine gate_dst (N := 4) rfl ?_); refine box_event ?hg (N := 4) ?hd (cs := #[.int .i64 0, .int .i64 0]) (t := 61) ?hr ?_; (case hd => rfl); (case hg => rfl); (case hr => first | (go_simp; done) | (go_simp; rfl)); intro gb107 hg w16 hbox hb; have n0_ := Aside0.mk (below_step (by repeat (first | (with_reducible first | exact HB.out | apply below_alloc | apply pw_below_drewN | apply below_drew1) | exact HB.out)) hb); have n1_ := Aside0.mk (hbox); have n2_ := Aside0.mk ((by rw [hg]; exact (below_size (by repeat (first | (with_reducible first | exact HB.out | apply below_alloc | apply pw_below_drewN | apply below_drew1) | exact HB.out))) : w.heap.size ≤ gb107)); have n3_ := Aside0.mk ((by rw [hg]; exact (below_size (by repeat (first | (with_reducible first | exact HB.out | apply below_alloc | apply pw_below_drewN | apply below_drew1) | exact HB.out))) : w.heap.size ≤ gb107)); clear HB; have HB := n0_; have BK107 := n1_; have GW107 := n2_; have GE107 := n3_; clear n0_ n1_ n2_ n3_; clear hb hbox hg; have hcz17_0 : w16.cell? ⟨gb107, 0, none⟩ = some (.int .i64 0) := (blk_cell BK107.out 0).trans rfl; have hcz17_1 : w16.cell? ⟨gb107, 1, none⟩ = some (.int .i64 0) := (blk_cell BK107.out 1).trans rfl; have hfz17_0 := blk_frozen BK107.out 0; have hfz17_1 := blk_frozen BK107.out 1))
                      repeat (go_quiet (first | ((with_reducible refine gate_dst (N := 4) rfl ?_); refine box_event ?hg (N := 4) ?hd (cs := #[.int .i64 0, .int .i64 0]) (t := 61) ?hr ?_; (case hd => rfl); (case hg => rfl); (case hr => first | (go_simp; done) | (go_simp; rfl)); intro gb107 hg w16 hbox hb; have n0_ := Aside0.mk (below_step (by repeat (first | (with_reducible first | exact HB.out | apply below_alloc | apply pw_below_drewN | apply below_drew1) | exact HB.out)) hb); have n1_ := Aside0.mk (hbox); have n2_ := Aside0.mk ((by rw [hg]; exact (below_size (by repeat (first | (with_reducible first | exact HB.out | apply below_alloc | apply pw_below_drewN | apply below_drew1) | exact HB.out))) : w.heap.size ≤ gb107)); have n3_ := Aside0.mk ((by rw [hg]; exact (below_size (by repeat (first | (with_reducible first | exact HB.out | apply below_alloc | apply pw_below_drewN | apply below_drew1) | exact HB.out))) : w.heap.size ≤ gb107)); clear HB; have HB := n0_; have BK107 := n1_; have GW107 := n2_; have GE107 := n3_; clear n0_ n1_ n2_ n3_; clear hb hbox hg; have hcz17_0 : w16.cell? ⟨gb107, 0, none⟩ = some (.int .i64 0) := (blk_cell BK107.out 0).trans rfl; have hcz17_1 : w16.cell? ⟨gb107, 1, none⟩ = some (.int .i64 0) := (blk_cell BK107.out 1).trans rfl; have hfz17_0 := blk_frozen BK107.out 0; have hfz17_1 := blk_frozen BK107.out 1)); try go_wp2_with (first | ((with_reducible refine gate_dst (N := 4) rfl ?_); refine box_event ?hg (N := 4) ?hd (cs := #[.int .i64 0, .int .i64 0]) (t := 61) ?hr ?_; (case hd => rfl); (case hg => rfl); (case hr => first | (go_simp; done) | (go_simp; rfl)); intro gb107 hg w16 hbox hb; have n0_ := Aside0.mk (below_step (by repeat (first | (with_reducible first | exact HB.out | apply below_alloc | apply pw_below_drewN | apply below_drew1) | exact HB.out)) hb); have n1_ := Aside0.mk (hbox); have n2_ := Aside0.mk ((by rw [hg]; exact (below_size (by repeat (first | (with_reducible first | exact HB.out | apply below_alloc | apply pw_below_drewN | apply below_drew1) | exact HB.out))) : w.heap.size ≤ gb107)); have n3_ := Aside0.mk ((by rw [hg]; exact (below_size (by repeat (first | (with_reducible first | exact HB.out | apply below_alloc | apply pw_below_drewN | apply below_drew1) | exact HB.out))) : w.heap.size ≤ gb107)); clear HB; have HB := n0_; have BK107 := n1_; have GW107 := n2_; have GE107 := n3_; clear n0_ n1_ n2_ n3_; clear hb hbox hg; have hcz17_0 : w16.cell? ⟨gb107, 0, none⟩ = some (.int .i64 0) := (blk_cell BK107.out 0).trans rfl; have hcz17_1 : w16.cell? ⟨gb107, 1, none⟩ = some (.int .i64 0) := (blk_cell BK107.out 1).trans rfl; have hfz17_0 := blk_frozen BK107.out 0; have hfz17_1 := blk_frozen BK107.out 1)))
                      go_ret
                      exact ⟨by first | rfl | (simp [errW_none, errW_some] <;> rfl) | (simp [*, errW_none, errW_some] <;> rfl), by repeat (first | (with_reducible first | exact HB.out | apply below_alloc | apply pw_below_drewN | apply below_drew1 | refine below_set ?_ GE107.out) | exact HB.out)⟩
                    · rw [if_neg c15] at H
                      have c15b0 : decide (100 < ((rd_T61 l0 x10_1).f1)) = false := decide_eq_false c15
                      clear c15
                      by_cases c18 : x10_1 > 0
                      · rw [if_pos c18] at H
                        have c18b0 : decide (0 < x10_1) = true := decide_eq_true c18
                        clear c18
                        obtain ⟨ji19, hji19⟩ : ∃ j_ : Int, (wrap64 (x10_1 - 1)) = j_ := ⟨_, rfl⟩
                        replace H : (if 0 ≤ (ji19) then (if (ji19) < (l0.length : Int) then (if ((rd_T61 l0 (ji19)).f0) ≥ ((rd_T61 l0 x10_1).f0) then (some 1) else (wash_Validate.l0 k1 l0 l0 (l0.length : Int) (wrap64 (x10_1 + 1)))) else (none)) else (none)) = some r := by first | (rw [hji19] at H; exact H) | (simp only [hji19] at H ⊢; exact H)
                        have hji19w : (IntKind.i64.wrap (x10_1 - 1)) = ji19 := (i64_w _).trans hji19
                        by_cases c20 : 0 ≤ (ji19)
                        · rw [if_pos c20] at H
                          have c20b0 : decide (0 ≤ (ji19)) = true := decide_eq_true c20
                          clear c20
                          by_cases c21 : (ji19) < (l0.length : Int)
                          · rw [if_pos c21] at H
                            have c21b0 : decide ((ji19) < (l0.length : Int)) = true := decide_eq_true c21
                            clear c21
                            by_cases c22 : ((rd_T61 l0 (ji19)).f0) ≥ ((rd_T61 l0 x10_1).f0)
                            · rw [if_pos c22] at H
                              have c22b0 : decide (((rd_T61 l0 x10_1).f0) ≤ ((rd_T61 l0 (ji19)).f0)) = true := decide_eq_true c22
                              clear c22
                              obtain rfl := Option.some.inj H
                              have p106 : 0 ≤ (x10_1 : Int) := of_decide_eq_true (by first | (with_reducible assumption) | assumption)
                              have q106 : x10_1 < (l0.length : Int) := of_decide_eq_true (by first | (with_reducible assumption) | assumption)
                              obtain ⟨ad106, e106, hx106_0, hx106_1⟩ := at_T61 HR0.out x10_1 p106 q106
                              cases e106
                              replace hx106_0 := (HB.out.cell (World.block_lt_of_cell? w _ hx106_0)).trans hx106_0
                              replace hx106_1 := (HB.out.cell (World.block_lt_of_cell? w _ hx106_1)).trans hx106_1
                              replace p106 := eq_true p106
                              replace q106 := eq_true q106
                              go_wp2_with (first | ((with_reducible refine gate_dst (N := 4) rfl ?_); refine box_event ?hg (N := 4) ?hd (cs := #[.int .i64 0, .int .i64 0]) (t := 61) ?hr ?_; (case hd => rfl); (case hg => rfl); (case hr => first | (go_simp; done) | (go_simp; rfl)); intro gb107 hg w23 hbox hb; have n0_ := Aside0.mk (below_step (by repeat (first | (with_reducible first | exact HB.out | apply below_alloc | apply pw_below_drewN | apply below_drew1) | exact HB.out)) hb); have n1_ := Aside0.mk (hbox); have n2_ := Aside0.mk ((by rw [hg]; exact (below_size (by repeat (first | (with_reducible first | exact HB.out | apply below_alloc | apply pw_below_drewN | apply below_drew1) | exact HB.out))) : w.heap.size ≤ gb107)); have n3_ := Aside0.mk ((by rw [hg]; exact (below_size (by repeat (first | (with_reducible first | exact HB.out | apply below_alloc | apply pw_below_drewN | apply below_drew1) | exact HB.out))) : w.heap.size ≤ gb107)); clear HB; have HB := n0_; have BK107 := n1_; have GW107 := n2_; have GE107 := n3_; clear n0_ n1_ n2_ n3_; clear hb hbox hg; have hcz24_0 : w23.cell? ⟨gb107, 0, none⟩ = some (.int .i64 0) := (blk_cell BK107.out 0).trans rfl; have hcz24_1 : w23.cell? ⟨gb107, 1, none⟩ = some (.int .i64 0) := (blk_cell BK107.out 1).trans rfl; have hfz24_0 := blk_frozen BK107.out 0; have hfz24_1 := blk_frozen BK107.out 1; have p108 : 0 ≤ ((ji19) : Int) := of_decide_eq_true (by first | (with_reducible assumption) | assumption); have q108 : (ji19) < (l0.length : Int) := of_decide_eq_true (by first | (with_reducible assumption) | assumption); obtain ⟨ad108, e108, hx108_0, hx108_1⟩ := at_T61 HR0.out (ji19) p108 q108; obtain rfl : ad106 = ad108 := (by injection e108); have hn108_0 : ad106.block ≠ gb107 := Nat.ne_of_lt (Nat.lt_of_lt_of_le (by have := World.block_lt_of_cell? _ _ hx108_0; first | rwa [add_block] at this | exact this) GW107.out); have hn108_1 : ad106.block ≠ gb107 := Nat.ne_of_lt (Nat.lt_of_lt_of_le (by have := World.block_lt_of_cell? _ _ hx108_0; first | rwa [add_block] at this | exact this) GW107.out); replace hx108_0 := (HB.out.cell (World.block_lt_of_cell? w _ hx108_0)).trans hx108_0; replace hx108_1 := (HB.out.cell (World.block_lt_of_cell? w _ hx108_1)).trans hx108_1; replace hx108_0 := (cell_far (p := ⟨gb107, 0, none⟩) (by first | (rw [add_block]; exact hn108_0) | (show (Addr.add _ _).block ≠ _; rw [add_block]; exact hn108_0) | exact hn108_0) (.int .i64 ((rd_T61 l0 x10_1).f0))).trans hx108_0; replace hx108_1 := (cell_far (p := ⟨gb107, 0, none⟩) (by first | (rw [add_block]; exact hn108_0) | (show (Addr.add _ _).block ≠ _; rw [add_block]; exact hn108_0) | exact hn108_0) (.int .i64 ((rd_T61 l0 x10_1).f0))).trans hx108_1; replace hx108_0 := (cell_far (p := ⟨gb107, 1, none⟩) (by first | (rw [add_block]; exact hn108_1) | (show (Addr.add _ _).block ≠ _; rw [add_block]; exact hn108_1) | exact hn108_1) (.int .i64 ((rd_T61 l0 x10_1).f1))).trans hx108_0; replace hx108_1 := (cell_far (p := ⟨gb107, 1, none⟩) (by first | (rw [add_block]; exact hn108_1) | (show (Addr.add _ _).block ≠ _; rw [add_block]; exact hn108_1) | exact hn108_1) (.int .i64 ((rd_T61 l0 x10_1).f1))).trans hx108_1; (try have hy108_0 := fun (n_ : Nat) => (show ((((w23.drewN n_).setCell ⟨gb107, 0, none⟩ (.int .i64 ((rd_T61 l0 x10_1).f0))).setCell ⟨gb107, 1, none⟩ (.int .i64 ((rd_T61 l0 x10_1).f1)))).cell? _ = some _ from hx108_0)); (try have hy108_1 := fun (n_ : Nat) => (show ((((w23.drewN n_).setCell ⟨gb107, 0, none⟩ (.int .i64 ((rd_T61 l0 x10_1).f0))).setCell ⟨gb107, 1, none⟩ (.int .i64 ((rd_T61 l0 x10_1).f1)))).cell? _ = some _ from hx108_1)); clear hn108_0; clear hn108_1; replace p108 := eq_true p108; replace q108 := eq_true q108))
                              repeat (go_quiet (first | ((with_reducible refine gate_dst (N := 4) rfl ?_); refine box_event ?hg (N := 4) ?hd (cs := #[.int .i64 0, .int .i64 0]) (t := 61) ?hr ?_; (case hd => rfl); (case hg => rfl); (case hr => first | (go_simp; done) | (go_simp; rfl)); intro gb107 hg w23 hbox hb; have n0_ := Aside0.mk (below_step (by repeat (first | (with_reducible first | exact HB.out | apply below_alloc | apply pw_below_drewN | apply below_drew1) | exact HB.out)) hb); have n1_ := Aside0.mk (hbox); have n2_ := Aside0.mk ((by rw [hg]; exact (below_size (by repeat (first | (with_reducible first | exact HB.out | apply below_alloc | apply pw_below_drewN | apply below_drew1) | exact HB.out))) : w.heap.size ≤ gb107)); have n3_ := Aside0.mk ((by rw [hg]; exact (below_size (by repeat (first | (with_reducible first | exact HB.out | apply below_alloc | apply pw_below_drewN | apply below_drew1) | exact HB.out))) : w.heap.size ≤ gb107)); clear HB; have HB := n0_; have BK107 := n1_; have GW107 := n2_; have GE107 := n3_; clear n0_ n1_ n2_ n3_; clear hb hbox hg; have hcz24_0 : w23.cell? ⟨gb107, 0, none⟩ = some (.int .i64 0) := (blk_cell BK107.out 0).trans rfl; have hcz24_1 : w23.cell? ⟨gb107, 1, none⟩ = some (.int .i64 0) := (blk_cell BK107.out 1).trans rfl; have hfz24_0 := blk_frozen BK107.out 0; have hfz24_1 := blk_frozen BK107.out 1; have p108 : 0 ≤ ((ji19) : Int) := of_decide_eq_true (by first | (with_reducible assumption) | assumption); have q108 : (ji19) < (l0.length : Int) := of_decide_eq_true (by first | (with_reducible assumption) | assumption); obtain ⟨ad108, e108, hx108_0, hx108_1⟩ := at_T61 HR0.out (ji19) p108 q108; obtain rfl : ad106 = ad108 := (by injection e108); have hn108_0 : ad106.block ≠ gb107 := Nat.ne_of_lt (Nat.lt_of_lt_of_le (by have := World.block_lt_of_cell? _ _ hx108_0; first | rwa [add_block] at this | exact this) GW107.out); have hn108_1 : ad106.block ≠ gb107 := Nat.ne_of_lt (Nat.lt_of_lt_of_le (by have := World.block_lt_of_cell? _ _ hx108_0; first | rwa [add_block] at this | exact this) GW107.out); replace hx108_0 := (HB.out.cell (World.block_lt_of_cell? w _ hx108_0)).trans hx108_0; replace hx108_1 := (HB.out.cell (World.block_lt_of_cell? w _ hx108_1)).trans hx108_1; replace hx108_0 := (cell_far (p := ⟨gb107, 0, none⟩) (by first | (rw [add_block]; exact hn108_0) | (show (Addr.add _ _).block ≠ _; rw [add_block]; exact hn108_0) | exact hn108_0) (.int .i64 ((rd_T61 l0 x10_1).f0))).trans hx108_0; replace hx108_1 := (cell_far (p := ⟨gb107, 0, none⟩) (by first | (rw [add_block]; exact hn108_0) | (show (Addr.add _ _).block ≠ _; rw [add_block]; exact hn108_0) | exact hn108_0) (.int .i64 ((rd_T61 l0 x10_1).f0))).trans hx108_1; replace hx108_0 := (cell_far (p := ⟨gb107, 1, none⟩) (by first | (rw [add_block]; exact hn108_1) | (show (Addr.add _ _).block ≠ _; rw [add_block]; exact hn108_1) | exact hn108_1) (.int .i64 ((rd_T61 l0 x10_1).f1))).trans hx108_0; replace hx108_1 := (cell_far (p := ⟨gb107, 1, none⟩) (by first | (rw [add_block]; exact hn108_1) | (show (Addr.add _ _).block ≠ _; rw [add_block]; exact hn108_1) | exact hn108_1) (.int .i64 ((rd_T61 l0 x10_1).f1))).trans hx108_1; (try have hy108_0 := fun (n_ : Nat) => (show ((((w23.drewN n_).setCell ⟨gb107, 0, none⟩ (.int .i64 ((rd_T61 l0 x10_1).f0))).setCell ⟨gb107, 1, none⟩ (.int .i64 ((rd_T61 l0 x10_1).f1)))).cell? _ = some _ from hx108_0)); (try have hy108_1 := fun (n_ : Nat) => (show ((((w23.drewN n_).setCell ⟨gb107, 0, none⟩ (.int .i64 ((rd_T61 l0 x10_1).f0))).setCell ⟨gb107, 1, none⟩ (.int .i64 ((rd_T61 l0 x10_1).f1)))).cell? _ = some _ from hx108_1)); clear hn108_0; clear hn108_1; replace p108 := eq_true p108; replace q108 := eq_true q108)); try go_wp2_with (first | ((with_reducible refine gate_dst (N := 4) rfl ?_); refine box_event ?hg (N := 4) ?hd (cs := #[.int .i64 0, .int .i64 0]) (t := 61) ?hr ?_; (case hd => rfl); (case hg => rfl); (case hr => first | (go_simp; done) | (go_simp; rfl)); intro gb107 hg w23 hbox hb; have n0_ := Aside0.mk (below_step (by repeat (first | (with_reducible first | exact HB.out | apply below_alloc | apply pw_below_drewN | apply below_drew1) | exact HB.out)) hb); have n1_ := Aside0.mk (hbox); have n2_ := Aside0.mk ((by rw [hg]; exact (below_size (by repeat (first | (with_reducible first | exact HB.out | apply below_alloc | apply pw_below_drewN | apply below_drew1) | exact HB.out))) : w.heap.size ≤ gb107)); have n3_ := Aside0.mk ((by rw [hg]; exact (below_size (by repeat (first | (with_reducible first | exact HB.out | apply below_alloc | apply pw_below_drewN | apply below_drew1) | exact HB.out))) : w.heap.size ≤ gb107)); clear HB; have HB := n0_; have BK107 := n1_; have GW107 := n2_; have GE107 := n3_; clear n0_ n1_ n2_ n3_; clear hb hbox hg; have hcz24_0 : w23.cell? ⟨gb107, 0, none⟩ = some (.int .i64 0) := (blk_cell BK107.out 0).trans rfl; have hcz24_1 : w23.cell? ⟨gb107, 1, none⟩ = some (.int .i64 0) := (blk_cell BK107.out 1).trans rfl; have hfz24_0 := blk_frozen BK107.out 0; have hfz24_1 := blk_frozen BK107.out 1; have p108 : 0 ≤ ((ji19) : Int) := of_decide_eq_true (by first | (with_reducible assumption) | assumption); have q108 : (ji19) < (l0.length : Int) := of_decide_eq_true (by first | (with_reducible assumption) | assumption); obtain ⟨ad108, e108, hx108_0, hx108_1⟩ := at_T61 HR0.out (ji19) p108 q108; obtain rfl : ad106 = ad108 := (by injection e108); have hn108_0 : ad106.block ≠ gb107 := Nat.ne_of_lt (Nat.lt_of_lt_of_le (by have := World.block_lt_of_cell? _ _ hx108_0; first | rwa [add_block] at this | exact this) GW107.out); have hn108_1 : ad106.block ≠ gb107 := Nat.ne_of_lt (Nat.lt_of_lt_of_le (by have := World.block_lt_of_cell? _ _ hx108_0; first | rwa [add_block] at this | exact this) GW107.out); replace hx108_0 := (HB.out.cell (World.block_lt_of_cell? w _ hx108_0)).trans hx108_0; replace hx108_1 := (HB.out.cell (World.block_lt_of_cell? w _ hx108_1)).trans hx108_1; replace hx108_0 := (cell_far (p := ⟨gb107, 0, none⟩) (by first | (rw [add_block]; exact hn108_0) | (show (Addr.add _ _).block ≠ _; rw [add_block]; exact hn108_0) | exact hn108_0) (.int .i64 ((rd_T61 l0 x10_1).f0))).trans hx108_0; replace hx108_1 := (cell_far (p := ⟨gb107, 0, none⟩) (by first | (rw [add_block]; exact hn108_0) | (show (Addr.add _ _).block ≠ _; rw [add_block]; exact hn108_0) | exact hn108_0) (.int .i64 ((rd_T61 l0 x10_1).f0))).trans hx108_1; replace hx108_0 := (cell_far (p := ⟨gb107, 1, none⟩) (by first | (rw [add_block]; exact hn108_1) | (show (Addr.add _ _).block ≠ _; rw [add_block]; exact hn108_1) | exact hn108_1) (.int .i64 ((rd_T61 l0 x10_1).f1))).trans hx108_0; replace hx108_1 := (cell_far (p := ⟨gb107, 1, none⟩) (by first | (rw [add_block]; exact hn108_1) | (show (Addr.add _ _).block ≠ _; rw [add_block]; exact hn108_1) | exact hn108_1) (.int .i64 ((rd_T61 l0 x10_1).f1))).trans hx108_1; (try have hy108_0 := fun (n_ : Nat) => (show ((((w23.drewN n_).setCell ⟨gb107, 0, none⟩ (.int .i64 ((rd_T61 l0 x10_1).f0))).setCell ⟨gb107, 1, none⟩ (.int .i64 ((rd_T61 l0 x10_1).f1)))).cell? _ = some _ from hx108_0)); (try have hy108_1 := fun (n_ : Nat) => (show ((((w23.drewN n_).setCell ⟨gb107, 0, none⟩ (.int .i64 ((rd_T61 l0 x10_1).f0))).setCell ⟨gb107, 1, none⟩ (.int .i64 ((rd_T61 l0 x10_1).f1)))).cell? _ = some _ from hx108_1)); clear hn108_0; clear hn108_1; replace p108 := eq_true p108; replace q108 := eq_true q108)))
                              go_ret
                              exact ⟨by first | rfl | (simp [errW_none, errW_some] <;> rfl) | (simp only [← hji19]; first | rfl | (simp [errW_none, errW_some] <;> rfl)) | (simp [*, errW_none, errW_some] <;> rfl), by repeat (first | (with_reducible first | exact HB.out | apply below_alloc | apply pw_below_drewN | apply below_drew1 | refine below_set ?_ GE107.out) | exact HB.out)⟩
                            · rw [if_neg c22] at H
                              have c22b0 : decide (((rd_T61 l0 x10_1).f0) ≤ ((rd_T61 l0 (ji19)).f0)) = false := decide_eq_false c22
                              clear c22
                              have H' := Aside0.mk H
                              clear H
                              have p106 : 0 ≤ (x10_1 : Int) := of_decide_eq_true (by first | (with_reducible assumption) | assumption)
                              have q106 : x10_1 < (l0.length : Int) := of_decide_eq_true (by first | (with_reducible assumption) | assumption)
                              obtain ⟨ad106, e106, hx106_0, hx106_1⟩ := at_T61 HR0.out x10_1 p106 q106
                              cases e106
                              replace hx106_0 := (HB.out.cell (World.block_lt_of_cell? w _ hx106_0)).trans hx106_0
                              replace hx106_1 := (HB.out.cell (World.block_lt_of_cell? w _ hx106_1)).trans hx106_1
                              replace p106 := eq_true p106
                              replace q106 := eq_true q106
                              go_wp2_with (first | ((with_reducible refine gate_dst (N := 4) rfl ?_); refine box_event ?hg (N := 4) ?hd (cs := #[.int .i64 0, .int .i64 0]) (t := 61) ?hr ?_; (case hd => rfl); (case hg => rfl); (case hr => first | (go_simp; done) | (go_simp; rfl)); intro gb107 hg w25 hbox hb; have n0_ := Aside0.mk (below_step (by repeat (first | (with_reducible first | exact HB.out | apply below_alloc | apply pw_below_drewN | apply below_drew1) | exact HB.out)) hb); have n1_ := Aside0.mk (hbox); have n2_ := Aside0.mk ((by rw [hg]; exact (below_size (by repeat (first | (with_reducible first | exact HB.out | apply below_alloc | apply pw_below_drewN | apply below_drew1) | exact HB.out))) : w.heap.size ≤ gb107)); have n3_ := Aside0.mk ((by rw [hg]; exact (below_size (by repeat (first | (with_reducible first | exact HB.out | apply below_alloc | apply pw_below_drewN | apply below_drew1) | exact HB.out))) : w.heap.size ≤ gb107)); clear HB; have HB := n0_; have BK107 := n1_; have GW107 := n2_; have GE107 := n3_; clear n0_ n1_ n2_ n3_; clear hb hbox hg; have hcz26_0 : w25.cell? ⟨gb107, 0, none⟩ = some (.int .i64 0) := (blk_cell BK107.out 0).trans rfl; have hcz26_1 : w25.cell? ⟨gb107, 1, none⟩ = some (.int .i64 0) := (blk_cell BK107.out 1).trans rfl; have hfz26_0 := blk_frozen BK107.out 0; have hfz26_1 := blk_frozen BK107.out 1; have p108 : 0 ≤ ((ji19) : Int) := of_decide_eq_true (by first | (with_reducible assumption) | assumption); have q108 : (ji19) < (l0.length : Int) := of_decide_eq_true (by first | (with_reducible assumption) | assumption); obtain ⟨ad108, e108, hx108_0, hx108_1⟩ := at_T61 HR0.out (ji19) p108 q108; obtain rfl : ad106 = ad108 := (by injection e108); have hn108_0 : ad106.block ≠ gb107 := Nat.ne_of_lt (Nat.lt_of_lt_of_le (by have := World.block_lt_of_cell? _ _ hx108_0; first | rwa [add_block] at this | exact this) GW107.out); have hn108_1 : ad106.block ≠ gb107 := Nat.ne_of_lt (Nat.lt_of_lt_of_le (by have := World.block_lt_of_cell? _ _ hx108_0; first | rwa [add_block] at this | exact this) GW107.out); replace hx108_0 := (HB.out.cell (World.block_lt_of_cell? w _ hx108_0)).trans hx108_0; replace hx108_1 := (HB.out.cell (World.block_lt_of_cell? w _ hx108_1)).trans hx108_1; replace hx108_0 := (cell_far (p := ⟨gb107, 0, none⟩) (by first | (rw [add_block]; exact hn108_0) | (show (Addr.add _ _).block ≠ _; rw [add_block]; exact hn108_0) | exact hn108_0) (.int .i64 ((rd_T61 l0 x10_1).f0))).trans hx108_0; replace hx108_1 := (cell_far (p := ⟨gb107, 0, none⟩) (by first | (rw [add_block]; exact hn108_0) | (show (Addr.add _ _).block ≠ _; rw [add_block]; exact hn108_0) | exact hn108_0) (.int .i64 ((rd_T61 l0 x10_1).f0))).trans hx108_1; replace hx108_0 := (cell_far (p := ⟨gb107, 1, none⟩) (by first | (rw [add_block]; exact hn108_1) | (show (Addr.add _ _).block ≠ _; rw [add_block]; exact hn108_1) | exact hn108_1) (.int .i64 ((rd_T61 l0 x10_1).f1))).trans hx108_0; replace hx108_1 := (cell_far (p := ⟨gb107, 1, none⟩) (by first | (rw [add_block]; exact hn108_1) | (show (Addr.add _ _).block ≠ _; rw [add_block]; exact hn108_1) | exact hn108_1) (.int .i64 ((rd_T61 l0 x10_1).f1))).trans hx108_1; (try have hy108_0 := fun (n_ : Nat) => (show ((((w25.drewN n_).setCell ⟨gb107, 0, none⟩ (.int .i64 ((rd_T61 l0 x10_1).f0))).setCell ⟨gb107, 1, none⟩ (.int .i64 ((rd_T61 l0 x10_1).f1)))).cell? _ = some _ from hx108_0)); (try have hy108_1 := fun (n_ : Nat) => (show ((((w25.drewN n_).setCell ⟨gb107, 0, none⟩ (.int .i64 ((rd_T61 l0 x10_1).f0))).setCell ⟨gb107, 1, none⟩ (.int .i64 ((rd_T61 l0 x10_1).f1)))).cell? _ = some _ from hx108_1)); clear hn108_0; clear hn108_1; replace p108 := eq_true p108; replace q108 := eq_true q108))
                              repeat (go_quiet (first | ((with_reducible refine gate_dst (N := 4) rfl ?_); refine box_event ?hg (N := 4) ?hd (cs := #[.int .i64 0, .int .i64 0]) (t := 61) ?hr ?_; (case hd => rfl); (case hg => rfl); (case hr => first | (go_simp; done) | (go_simp; rfl)); intro gb107 hg w25 hbox hb; have n0_ := Aside0.mk (below_step (by repeat (first | (with_reducible first | exact HB.out | apply below_alloc | apply pw_below_drewN | apply below_drew1) | exact HB.out)) hb); have n1_ := Aside0.mk (hbox); have n2_ := Aside0.mk ((by rw [hg]; exact (below_size (by repeat (first | (with_reducible first | exact HB.out | apply below_alloc | apply pw_below_drewN | apply below_drew1) | exact HB.out))) : w.heap.size ≤ gb107)); have n3_ := Aside0.mk ((by rw [hg]; exact (below_size (by repeat (first | (with_reducible first | exact HB.out | apply below_alloc | apply pw_below_drewN | apply below_drew1) | exact HB.out))) : w.heap.size ≤ gb107)); clear HB; have HB := n0_; have BK107 := n1_; have GW107 := n2_; have GE107 := n3_; clear n0_ n1_ n2_ n3_; clear hb hbox hg; have hcz26_0 : w25.cell? ⟨gb107, 0, none⟩ = some (.int .i64 0) := (blk_cell BK107.out 0).trans rfl; have hcz26_1 : w25.cell? ⟨gb107, 1, none⟩ = some (.int .i64 0) := (blk_cell BK107.out 1).trans rfl; have hfz26_0 := blk_frozen BK107.out 0; have hfz26_1 := blk_frozen BK107.out 1; have p108 : 0 ≤ ((ji19) : Int) := of_decide_eq_true (by first | (with_reducible assumption) | assumption); have q108 : (ji19) < (l0.length : Int) := of_decide_eq_true (by first | (with_reducible assumption) | assumption); obtain ⟨ad108, e108, hx108_0, hx108_1⟩ := at_T61 HR0.out (ji19) p108 q108; obtain rfl : ad106 = ad108 := (by injection e108); have hn108_0 : ad106.block ≠ gb107 := Nat.ne_of_lt (Nat.lt_of_lt_of_le (by have := World.block_lt_of_cell? _ _ hx108_0; first | rwa [add_block] at this | exact this) GW107.out); have hn108_1 : ad106.block ≠ gb107 := Nat.ne_of_lt (Nat.lt_of_lt_of_le (by have := World.block_lt_of_cell? _ _ hx108_0; first | rwa [add_block] at this | exact this) GW107.out); replace hx108_0 := (HB.out.cell (World.block_lt_of_cell? w _ hx108_0)).trans hx108_0; replace hx108_1 := (HB.out.cell (World.block_lt_of_cell? w _ hx108_1)).trans hx108_1; replace hx108_0 := (cell_far (p := ⟨gb107, 0, none⟩) (by first | (rw [add_block]; exact hn108_0) | (show (Addr.add _ _).block ≠ _; rw [add_block]; exact hn108_0) | exact hn108_0) (.int .i64 ((rd_T61 l0 x10_1).f0))).trans hx108_0; replace hx108_1 := (cell_far (p := ⟨gb107, 0, none⟩) (by first | (rw [add_block]; exact hn108_0) | (show (Addr.add _ _).block ≠ _; rw [add_block]; exact hn108_0) | exact hn108_0) (.int .i64 ((rd_T61 l0 x10_1).f0))).trans hx108_1; replace hx108_0 := (cell_far (p := ⟨gb107, 1, none⟩) (by first | (rw [add_block]; exact hn108_1) | (show (Addr.add _ _).block ≠ _; rw [add_block]; exact hn108_1) | exact hn108_1) (.int .i64 ((rd_T61 l0 x10_1).f1))).trans hx108_0; replace hx108_1 := (cell_far (p := ⟨gb107, 1, none⟩) (by first | (rw [add_block]; exact hn108_1) | (show (Addr.add _ _).block ≠ _; rw [add_block]; exact hn108_1) | exact hn108_1) (.int .i64 ((rd_T61 l0 x10_1).f1))).trans hx108_1; (try have hy108_0 := fun (n_ : Nat) => (show ((((w25.drewN n_).setCell ⟨gb107, 0, none⟩ (.int .i64 ((rd_T61 l0 x10_1).f0))).setCell ⟨gb107, 1, none⟩ (.int .i64 ((rd_T61 l0 x10_1).f1)))).cell? _ = some _ from hx108_0)); (try have hy108_1 := fun (n_ : Nat) => (show ((((w25.drewN n_).setCell ⟨gb107, 0, none⟩ (.int .i64 ((rd_T61 l0 x10_1).f0))).setCell ⟨gb107, 1, none⟩ (.int .i64 ((rd_T61 l0 x10_1).f1)))).cell? _ = some _ from hx108_1)); clear hn108_0; clear hn108_1; replace p108 := eq_true p108; replace q108 := eq_true q108)); try go_wp2_with (first | ((with_reducible refine gate_dst (N := 4) rfl ?_); refine box_event ?hg (N := 4) ?hd (cs := #[.int .i64 0, .int .i64 0]) (t := 61) ?hr ?_; (case hd => rfl); (case hg => rfl); (case hr => first | (go_simp; done) | (go_simp; rfl)); intro gb107 hg w25 hbox hb; have n0_ := Aside0.mk (below_step (by repeat (first | (with_reducible first | exact HB.out | apply below_alloc | apply pw_below_drewN | apply below_drew1) | exact HB.out)) hb); have n1_ := Aside0.mk (hbox); have n2_ := Aside0.mk ((by rw [hg]; exact (below_size (by repeat (first | (with_reducible first | exact HB.out | apply below_alloc | apply pw_below_drewN | apply below_drew1) | exact HB.out))) : w.heap.size ≤ gb107)); have n3_ := Aside0.mk ((by rw [hg]; exact (below_size (by repeat (first | (with_reducible first | exact HB.out | apply below_alloc | apply pw_below_drewN | apply below_drew1) | exact HB.out))) : w.heap.size ≤ gb107)); clear HB; have HB := n0_; have BK107 := n1_; have GW107 := n2_; have GE107 := n3_; clear n0_ n1_ n2_ n3_; clear hb hbox hg; have hcz26_0 : w25.cell? ⟨gb107, 0, none⟩ = some (.int .i64 0) := (blk_cell BK107.out 0).trans rfl; have hcz26_1 : w25.cell? ⟨gb107, 1, none⟩ = some (.int .i64 0) := (blk_cell BK107.out 1).trans rfl; have hfz26_0 := blk_frozen BK107.out 0; have hfz26_1 := blk_frozen BK107.out 1; have p108 : 0 ≤ ((ji19) : Int) := of_decide_eq_true (by first | (with_reducible assumption) | assumption); have q108 : (ji19) < (l0.length : Int) := of_decide_eq_true (by first | (with_reducible assumption) | assumption); obtain ⟨ad108, e108, hx108_0, hx108_1⟩ := at_T61 HR0.out (ji19) p108 q108; obtain rfl : ad106 = ad108 := (by injection e108); have hn108_0 : ad106.block ≠ gb107 := Nat.ne_of_lt (Nat.lt_of_lt_of_le (by have := World.block_lt_of_cell? _ _ hx108_0; first | rwa [add_block] at this | exact this) GW107.out); have hn108_1 : ad106.block ≠ gb107 := Nat.ne_of_lt (Nat.lt_of_lt_of_le (by have := World.block_lt_of_cell? _ _ hx108_0; first | rwa [add_block] at this | exact this) GW107.out); replace hx108_0 := (HB.out.cell (World.block_lt_of_cell? w _ hx108_0)).trans hx108_0; replace hx108_1 := (HB.out.cell (World.block_lt_of_cell? w _ hx108_1)).trans hx108_1; replace hx108_0 := (cell_far (p := ⟨gb107, 0, none⟩) (by first | (rw [add_block]; exact hn108_0) | (show (Addr.add _ _).block ≠ _; rw [add_block]; exact hn108_0) | exact hn108_0) (.int .i64 ((rd_T61 l0 x10_1).f0))).trans hx108_0; replace hx108_1 := (cell_far (p := ⟨gb107, 0, none⟩) (by first | (rw [add_block]; exact hn108_0) | (show (Addr.add _ _).block ≠ _; rw [add_block]; exact hn108_0) | exact hn108_0) (.int .i64 ((rd_T61 l0 x10_1).f0))).trans hx108_1; replace hx108_0 := (cell_far (p := ⟨gb107, 1, none⟩) (by first | (rw [add_block]; exact hn108_1) | (show (Addr.add _ _).block ≠ _; rw [add_block]; exact hn108_1) | exact hn108_1) (.int .i64 ((rd_T61 l0 x10_1).f1))).trans hx108_0; replace hx108_1 := (cell_far (p := ⟨gb107, 1, none⟩) (by first | (rw [add_block]; exact hn108_1) | (show (Addr.add _ _).block ≠ _; rw [add_block]; exact hn108_1) | exact hn108_1) (.int .i64 ((rd_T61 l0 x10_1).f1))).trans hx108_1; (try have hy108_0 := fun (n_ : Nat) => (show ((((w25.drewN n_).setCell ⟨gb107, 0, none⟩ (.int .i64 ((rd_T61 l0 x10_1).f0))).setCell ⟨gb107, 1, none⟩ (.int .i64 ((rd_T61 l0 x10_1).f1)))).cell? _ = some _ from hx108_0)); (try have hy108_1 := fun (n_ : Nat) => (show ((((w25.drewN n_).setCell ⟨gb107, 0, none⟩ (.int .i64 ((rd_T61 l0 x10_1).f0))).setCell ⟨gb107, 1, none⟩ (.int .i64 ((rd_T61 l0 x10_1).f1)))).cell? _ = some _ from hx108_1)); clear hn108_0; clear hn108_1; replace p108 := eq_true p108; replace q108 := eq_true q108)))
                              go_roundg k1
                              case measure => have := HK1.out; omega
                              case rel => exact ⟨(wrap64 (x10_1 + 1)), (by first | rfl | (simp; done) | (simp [*]; done)), H', ⟨by have := HK1.out; omega⟩, ⟨by repeat (first | (with_reducible first | exact HB.out | apply below_alloc | apply pw_below_drewN | apply below_drew1 | refine below_set ?_ GE107.out) | exact HB.out)⟩⟩
                          · rw [if_neg c21] at H
                            exact absurd H (by simp)
                        · rw [if_neg c20] at H
                          exact absurd H (by simp)
                      · rw [if_neg c18] at H
                        have c18b0 : decide (0 < x10_1) = false := decide_eq_false c18
                        clear c18
                        have H' := Aside0.mk H
                        clear H
                        have p106 : 0 ≤ (x10_1 : Int) := of_decide_eq_true (by first | (with_reducible assumption) | assumption)
                        have q106 : x10_1 < (l0.length : Int) := of_decide_eq_true (by first | (with_reducible assumption) | assumption)
                        obtain ⟨ad106, e106, hx106_0, hx106_1⟩ := at_T61 HR0.out x10_1 p106 q106
                        cases e106
                        replace hx106_0 := (HB.out.cell (World.block_lt_of_cell? w _ hx106_0)).trans hx106_0
                        replace hx106_1 := (HB.out.cell (World.block_lt_of_cell? w _ hx106_1)).trans hx106_1
                        replace p106 := eq_true p106
                        replace q106 := eq_true q106
                        go_wp2_with (first | ((with_reducible refine gate_dst (N := 4) rfl ?_); refine box_event ?hg (N := 4) ?hd (cs := #[.int .i64 0, .int .i64 0]) (t := 61) ?hr ?_; (case hd => rfl); (case hg => rfl); (case hr => first | (go_simp; done) | (go_simp; rfl)); intro gb107 hg w27 hbox hb; have n0_ := Aside0.mk (below_step (by repeat (first | (with_reducible first | exact HB.out | apply below_alloc | apply pw_below_drewN | apply below_drew1) | exact HB.out)) hb); have n1_ := Aside0.mk (hbox); have n2_ := Aside0.mk ((by rw [hg]; exact (below_size (by repeat (first | (with_reducible first | exact HB.out | apply below_alloc | apply pw_below_drewN | apply below_drew1) | exact HB.out))) : w.heap.size ≤ gb107)); have n3_ := Aside0.mk ((by rw [hg]; exact (below_size (by repeat (first | (with_reducible first | exact HB.out | apply below_alloc | apply pw_below_drewN | apply below_drew1) | exact HB.out))) : w.heap.size ≤ gb107)); clear HB; have HB := n0_; have BK107 := n1_; have GW107 := n2_; have GE107 := n3_; clear n0_ n1_ n2_ n3_; clear hb hbox hg; have hcz28_0 : w27.cell? ⟨gb107, 0, none⟩ = some (.int .i64 0) := (blk_cell BK107.out 0).trans rfl; have hcz28_1 : w27.cell? ⟨gb107, 1, none⟩ = some (.int .i64 0) := (blk_cell BK107.out 1).trans rfl; have hfz28_0 := blk_frozen BK107.out 0; have hfz28_1 := blk_frozen BK107.out 1))
                        repeat (go_quiet (first | ((with_reducible refine gate_dst (N := 4) rfl ?_); refine box_event ?hg (N := 4) ?hd (cs := #[.int .i64 0, .int .i64 0]) (t := 61) ?hr ?_; (case hd => rfl); (case hg => rfl); (case hr => first | (go_simp; done) | (go_simp; rfl)); intro gb107 hg w27 hbox hb; have n0_ := Aside0.mk (below_step (by repeat (first | (with_reducible first | exact HB.out | apply below_alloc | apply pw_below_drewN | apply below_drew1) | exact HB.out)) hb); have n1_ := Aside0.mk (hbox); have n2_ := Aside0.mk ((by rw [hg]; exact (below_size (by repeat (first | (with_reducible first | exact HB.out | apply below_alloc | apply pw_below_drewN | apply below_drew1) | exact HB.out))) : w.heap.size ≤ gb107)); have n3_ := Aside0.mk ((by rw [hg]; exact (below_size (by repeat (first | (with_reducible first | exact HB.out | apply below_alloc | apply pw_below_drewN | apply below_drew1) | exact HB.out))) : w.heap.size ≤ gb107)); clear HB; have HB := n0_; have BK107 := n1_; have GW107 := n2_; have GE107 := n3_; clear n0_ n1_ n2_ n3_; clear hb hbox hg; have hcz28_0 : w27.cell? ⟨gb107, 0, none⟩ = some (.int .i64 0) := (blk_cell BK107.out 0).trans rfl; have hcz28_1 : w27.cell? ⟨gb107, 1, none⟩ = some (.int .i64 0) := (blk_cell BK107.out 1).trans rfl; have hfz28_0 := blk_frozen BK107.out 0; have hfz28_1 := blk_frozen BK107.out 1)); try go_wp2_with (first | ((with_reducible refine gate_dst (N := 4) rfl ?_); refine box_event ?hg (N := 4) ?hd (cs := #[.int .i64 0, .int .i64 0]) (t := 61) ?hr ?_; (case hd => rfl); (case hg => rfl); (case hr => first | (go_simp; done) | (go_simp; rfl)); intro gb107 hg w27 hbox hb; have n0_ := Aside0.mk (below_step (by repeat (first | (with_reducible first | exact HB.out | apply below_alloc | apply pw_below_drewN | apply below_drew1) | exact HB.out)) hb); have n1_ := Aside0.mk (hbox); have n2_ := Aside0.mk ((by rw [hg]; exact (below_size (by repeat (first | (with_reducible first | exact HB.out | apply below_alloc | apply pw_below_drewN | apply below_drew1) | exact HB.out))) : w.heap.size ≤ gb107)); have n3_ := Aside0.mk ((by rw [hg]; exact (below_size (by repeat (first | (with_reducible first | exact HB.out | apply below_alloc | apply pw_below_drewN | apply below_drew1) | exact HB.out))) : w.heap.size ≤ gb107)); clear HB; have HB := n0_; have BK107 := n1_; have GW107 := n2_; have GE107 := n3_; clear n0_ n1_ n2_ n3_; clear hb hbox hg; have hcz28_0 : w27.cell? ⟨gb107, 0, none⟩ = some (.int .i64 0) := (blk_cell BK107.out 0).trans rfl; have hcz28_1 : w27.cell? ⟨gb107, 1, none⟩ = some (.int .i64 0) := (blk_cell BK107.out 1).trans rfl; have hfz28_0 := blk_frozen BK107.out 0; have hfz28_1 := blk_frozen BK107.out 1)))
                        go_roundg k1
                        case measure => have := HK1.out; omega
                        case rel => exact ⟨(wrap64 (x10_1 + 1)), (by first | rfl | (simp; done) | (simp [*]; done)), H', ⟨by have := HK1.out; omega⟩, ⟨by repeat (first | (with_reducible first | exact HB.out | apply below_alloc | apply pw_below_drewN | apply below_drew1 | refine below_set ?_ GE107.out) | exact HB.out)⟩⟩
            · rw [if_neg c5] at H
              exact absurd H (by simp)
          · rw [if_neg c4] at H
            exact absurd H (by simp)
        · rw [if_neg c3] at H
          have c3b0 : decide (x10_1 < (l0.length : Int)) = false := decide_eq_false c3
          clear c3
          obtain rfl := Option.some.inj H
          go_wp2
          repeat (go_quiet (fail); try go_wp2)
          go_ret
          exact ⟨by first | rfl | (simp [errW_none, errW_some] <;> rfl) | (simp [*, errW_none, errW_some] <;> rfl), by repeat (first | (with_reducible first | exact HB.out | apply below_alloc | apply pw_below_drewN | apply below_drew1) | exact HB.out)⟩

end Go.Proofs.Ytcelibdkicfgkaa.P

/-! Part PF24. -/
namespace Go.Proofs.Ytcelibdkicfgkaa.P
open Go.RowKit Go.Proofs.YtcelibdkicfgkaaW.PrintWords Go.Proofs.YtcelibdkicfgkaaW.PrintLast Go.Proofs.YtcelibdkicfgkaaW.PrintMore
attribute [local go_sem] max2_int min2_int max_two min_two max_three min_three max_four min_four   -- for this text's walks alone
set_option linter.unusedVariables false
set_option linter.unusedSimpArgs false

/-! ### wash_mass: function 24 -/
def wash_mass.l0 : Nat → Int → List (S61) → Int → Int → Option (Int)
  | 0, _, _, _, _ => none
  | k + 1, x3, x6, x7, x8 => if x8 < x7 then (if 0 ≤ x8 then (if x8 < (x6.length : Int) then (wash_mass.l0 k (wrap64 (x3 + ((rd_T61 x6 x8).f1))) x6 x7 (wrap64 (x8 + 1))) else (none)) else (none)) else (some x3)
def wash_mass.f (k : Nat) (l0 : List (S61)) : Option (Int) := wash_mass.l0 k 0 l0 (l0.length : Int) 0
theorem wash_mass.mono_l : ∀ k, (∀ y0 y1 y2 y3, LeO (wash_mass.l0 k y0 y1 y2 y3) (wash_mass.l0 (k + 1) y0 y1 y2 y3))
  | 0 => fun _ _ _ _ r h => by simp [wash_mass.l0] at h
  | k + 1 => by
    have ih0 := wash_mass.mono_l k
    · intro y0 y1 y2 y3
      unfold wash_mass.l0
      repeat' first
      | (with_reducible exact ih0 _ _ _ _)
      | (with_reducible exact LeO.refl _)
      | (with_reducible exact LeO.none _)
      | (with_reducible refine LeO.ite ?_ ?_)
      | (with_reducible refine LeO.bind ?_ (fun _ => ?_))
      | exact ih0 _ _ _ _
      | exact LeO.none _
      | refine LeO.ite ?_ ?_
      | refine LeO.bind ?_ (fun _ => ?_)
theorem wash_mass.mono : ∀ a0 k, LeO (wash_mass.f k a0) (wash_mass.f (k + 1) a0) := by
  intro a0 k
  have ih0 := wash_mass.mono_l k
  unfold wash_mass.f
  repeat' first
      | (with_reducible exact ih0 _ _ _ _)
      | (with_reducible exact LeO.refl _)
      | (with_reducible exact LeO.none _)
      | (with_reducible refine LeO.ite ?_ ?_)
      | (with_reducible refine LeO.bind ?_ (fun _ => ?_))
      | exact ih0 _ _ _ _
      | exact LeO.none _
      | refine LeO.ite ?_ ?_
      | refine LeO.bind ?_ (fun _ => ?_)
set_option maxHeartbeats 8000000 in
set_option maxRecDepth 100000 in
theorem wash_mass.calls (k : Nat) (A0 : Option Addr) (c0 : Nat) (l0 : List (S61)) (r : Int) (w : World) (hr0 : Kd.C k61 w A0 l0.length l0) (hc0 : l0.length ≤ c0) (h : wash_mass.f k l0 = some r) :
    Calls Try.prog 24 #[.slice A0 l0.length c0] w fun e w' => e = .returned (.int .i64 r) ∧ Below w.heap.size w w' := by
  have hu61 := Try.underlying61
  have HR0 := Aside0.mk hr0
  have HC0 := Aside0.mk hc0
  clear hr0 hc0
  have HB := Aside0.mk (Below.refl w.heap.size w)
  have H : (wash_mass.l0 k 0 l0 (l0.length : Int) 0) = some r := h
  clear h
  have H' := Aside0.mk H
  clear H
  go_enter Try.func24, Try.ntmps24
  go_wp2
  go_loopg [3, 8] k (fun kq v3 v8 w' => ∃ (x3_1 : Int) (x8_1 : Int), v3 = .int .i64 x3_1 ∧ v8 = .int .i64 x8_1 ∧ Aside0 (wash_mass.l0 kq x3_1 l0 (l0.length : Int) x8_1 = some r) ∧ Aside0 (kq ≤ k) ∧ Aside0 (Below w.heap.size w w'))
  case atStart => exact ⟨(0), (0), (by first | rfl | (simp; done) | (simp [*]; done)), (by first | rfl | (simp; done) | (simp [*]; done)), H', ⟨Nat.le_refl _⟩, ⟨by repeat (first | (with_reducible first | exact HB.out | apply below_alloc | apply pw_below_drewN | apply below_drew1) | exact HB.out)⟩⟩
  case round =>
    clear H'
    obtain ⟨x3_1, x8_1, rfl, rfl, HA, HK1, HB⟩ := hrel
    cases gk with
    | zero => exact absurd HA.out (by simp [wash_mass.l0])
    | succ k1 =>
      have H := HA.out
      clear HA
      simp only [wash_mass.l0] at H
      by_cases c2 : x8_1 < (l0.length : Int)
      · rw [if_pos c2] at H
        have c2b0 : decide (x8_1 < (l0.length : Int)) = true := decide_eq_true c2
        clear c2
        by_cases c3 : 0 ≤ x8_1
        · rw [if_pos c3] at H
          have c3b0 : decide (0 ≤ x8_1) = true := decide_eq_true c3
          clear c3
          by_cases c4 : x8_1 < (l0.length : Int)
          · rw [if_pos c4] at H
            have c4b0 : decide (x8_1 < (l0.length : Int)) = true := decide_eq_true c4
            clear c4
            have H' := Aside0.mk H
            clear H
            have p109 : 0 ≤ (x8_1 : Int) := of_decide_eq_true (by first | (with_reducible assumption) | assumption)
            have q109 : x8_1 < (l0.length : Int) := of_decide_eq_true (by first | (with_reducible assumption) | assumption)
            obtain ⟨ad109, e109, hx109_0, hx109_1⟩ := at_T61 HR0.out x8_1 p109 q109
            cases e109
            replace hx109_0 := (HB.out.cell (World.block_lt_of_cell? w _ hx109_0)).trans hx109_0
            replace hx109_1 := (HB.out.cell (World.block_lt_of_cell? w _ hx109_1)).trans hx109_1
            replace p109 := eq_true p109
            replace q109 := eq_true q109
            go_wp2_with (first | ((with_reducible refine gate_dst (N := 5) rfl ?_); refine box_event ?hg (N := 5) ?hd (cs := #[.int .i64 0, .int .i64 0]) (t := 61) ?hr ?_; (case hd => rfl); (case hg => rfl); (case hr => first | (go_simp; done) | (go_simp; rfl)); intro gb110 hg w5 hbox hb; have n0_ := Aside0.mk (below_step (by repeat (first | (with_reducible first | exact HB.out | apply below_alloc | apply pw_below_drewN | apply below_drew1) | exact HB.out)) hb); have n1_ := Aside0.mk (hbox); have n2_ := Aside0.mk ((by rw [hg]; exact (below_size (by repeat (first | (with_reducible first | exact HB.out | apply below_alloc | apply pw_below_drewN | apply below_drew1) | exact HB.out))) : w.heap.size ≤ gb110)); have n3_ := Aside0.mk ((by rw [hg]; exact (below_size (by repeat (first | (with_reducible first | exact HB.out | apply below_alloc | apply pw_below_drewN | apply below_drew1) | exact HB.out))) : w.heap.size ≤ gb110)); clear HB; have HB := n0_; have BK110 := n1_; have GW110 := n2_; have GE110 := n3_; clear n0_ n1_ n2_ n3_; clear hb hbox hg; have hcz6_0 : w5.cell? ⟨gb110, 0, none⟩ = some (.int .i64 0) := (blk_cell BK110.out 0).trans rfl; have hcz6_1 : w5.cell? ⟨gb110, 1, none⟩ = some (.int .i64 0) := (blk_cell BK110.out 1).trans rfl; have hfz6_0 := blk_frozen BK110.out 0; have hfz6_1 := blk_frozen BK110.out 1))
            go_roundg k1
            case measure => have := HK1.out; omega
            case rel => exact ⟨(wrap64 (x3_1 + ((rd_T61 l0 x8_1).f1))), (wrap64 (x8_1 + 1)), (by first | rfl | (simp; done) | (simp [*]; done)), (by first | rfl | (simp; done) | (simp [*]; done)), H', ⟨by have := HK1.out; omega⟩, ⟨by repeat (first | (with_reducible first | exact HB.out | apply below_alloc | apply pw_below_drewN | apply below_drew1 | refine below_set ?_ GE110.out) | exact HB.out)⟩⟩
          · rw [if_neg c4] at H
            exact absurd H (by simp)
        · rw [if_neg c3] at H
          exact absurd H (by simp)
      · rw [if_neg c2] at H
        have c2b0 : decide (x8_1 < (l0.length : Int)) = false := decide_eq_false c2
        clear c2
        obtain rfl := Option.some.inj H
        go_wp2
        go_ret
        exact ⟨by first | rfl | (simp [errW_none, errW_some] <;> rfl) | (simp [*, errW_none, errW_some] <;> rfl), by repeat (first | (with_reducible first | exact HB.out | apply below_alloc | apply pw_below_drewN | apply below_drew1) | exact HB.out)⟩

end Go.Proofs.Ytcelibdkicfgkaa.P
