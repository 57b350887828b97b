/- Parts of the proof of the law TopSecrets: walks of functions that it reaches, and plain facts about numbers, lists and curves; without a condition. -/
import Derived.Test.YthlbjdiicmojfaaProg
import Derived.Below
import Derived.Deep.Draws
import Derived.Deep.AppendLies
import Derived.Maps.AppendAt
import Derived.OwnWalk
import Derived.Laws.BytesArg
import Derived.Laws.MakeOwn
import Derived.Laws.OwnMore
import Derived.Deep.OwnRows
import Derived.Tactics
import Derived.Lib.ConvBytes
import Derived.Laws.Slices
import Derived.WalkKit
import Derived.KernelRfl
import Derived.RowKit3
import Derived.Deep.LoopGhost
import Derived.Deep.QuietTactic
import Derived.BigQuiet
import Derived.WideLaws
import Derived.Deep.DeepCutAuto
import Derived.Deep.CutBlock
import Derived.Deep.RegionHeld3
import Derived.Laws.Rows
import Derived.Lib.AppendStr
import Derived.ArgAppend
import Derived.Laws.IdiomCopy
import Derived.OrdersHeld
import Derived.Laws.BitsLemmas
import Derived.RowKit
import Derived.Test.YthlbjdiicmojfaaVWords
import Derived.Test.YthlbjdiicmojfaaVLast
import Derived.Test.YthlbjdiicmojfaaVTab
import Derived.Test.YthlbjdiicmojfaaVFour
import Derived.Test.YthlbjdiicmojfaaVQPut
import Derived.Test.YthlbjdiicmojfaaVApart
import Derived.Test.YthlbjdiicmojfaaVArr
import Derived.Test.YthlbjdiicmojfaaVZeros
import Derived.Test.YthlbjdiicmojfaaVFoot
import Derived.Test.YthlbjdiicmojfaaVKept
import Derived.Test.YthlbjdiicmojfaaVShare
import Derived.Test.YthlbjdiicmojfaaVN
import Derived.Test.YthlbjdiicmojfaaVFootNe
import Derived.Test.YthlbjdiicmojfaaVAt
import Derived.Test.YthlbjdiicmojfaaVEqStruct
import Derived.Test.YthlbjdiicmojfaaVRepsOne
import Derived.Test.YthlbjdiicmojfaaVInv
import Derived.Test.YthlbjdiicmojfaaVInvWords
import Derived.Test.YthlbjdiicmojfaaVGuard
import Derived.Test.YthlbjdiicmojfaaVNEv
import Derived.Test.YthlbjdiicmojfaaVMore
import Derived.Test.YthlbjdiicmojfaaVSized
import Derived.Deep.SlicePairs
import Derived.ProofKit
import Derived.Shelf.Abstract
import Derived.RangeFuncNested
import Derived.RangeFuncBound
import Derived.RangeFuncCalls
import Derived.RangeFuncLeaves
import Derived.RangeFuncBox
import Derived.OwnWalkIn
import Derived.TacticsInMore
import Derived.LoopNIn
import Derived.LoopIn
/-! Part P0. -/
-- Written for this claim by wip/print_more.py (a session's program that runs the kit's printer with hand-proved functions beside). Lean checks it.
namespace Go.Proofs.Ythlbjdiicmojfaa.P
open Go.RowKit Go.Proofs.YthlbjdiicmojfaaW.PrintWords Go.Proofs.YthlbjdiicmojfaaW.PrintLast Go.Proofs.YthlbjdiicmojfaaW.PrintMore
attribute [local go_sem] max2_int min2_int max_two min_two max_three min_three max_four min_four   -- for this text's walks alone
set_option linter.unusedVariables false
set_option linter.unusedSimpArgs false



def errW : Option Int → Value
  | none => .nilIface
  | some c => .iface 0 (.int .i64 c)
theorem errW_none : errW none = .nilIface := rfl
theorem errW_some (c : Int) : errW (some c) = .iface 0 (.int .i64 c) := rfl

theorem info3 : (Try.prog.info? 3).map (fun i => (i.zero, i.size, i.bytes)) = some (some (.int .i64 0), 1, 8) := by kernel_rfl
theorem info43 : (Try.prog.info? 43).map (fun i => (i.zero, i.size, i.bytes)) = some (some (.agg #[(.int .i64 0), (.int .i64 0)]), 2, 16) := by kernel_rfl
-- the values' own types
/-! #### struct type 43 -/
structure S43 where
  f0 : Int
  f1 : Int
def z43 : S43 := ⟨(0 : Int), (0 : Int)⟩
def k43 : Kd S43 := Kd.iso (Kd.pair (Kd.int .i64) (Kd.int .i64)) (fun x : S43 => (x.f0, x.f1))
theorem k43_open {w : World} {x : S43} {cs : List Value} (h : k43.K w x cs) : cs = [.int .i64 x.f0, .int .i64 x.f1] := by
  obtain ⟨_, _, rfl, rfl, rfl⟩ := h
  exact rfl
theorem k43_openM {w : World} {base : Nat} {ok : Nat → Prop} {x : S43} {cs : List Value} (h : k43.M w base ok x cs) : cs = [.int .i64 x.f0, .int .i64 x.f1] := by
  obtain ⟨_, _, rfl, rfl, rfl⟩ := h
  exact rfl
theorem k43_mkM (w : World) (base : Nat) (ok : Nat → Prop) (x : S43)  : k43.M w base ok x [.int .i64 x.f0, .int .i64 x.f1] := ⟨[.int .i64 x.f0], [.int .i64 x.f1], rfl, rfl, rfl⟩
def rd_T43 (xs : List S43) (i : Int) : S43 := xs.getD i.toNat z43
theorem at_T43 {w : World} {A : Option Addr} {n : Nat} {xs : List S43} (h : Kd.C k43 w A n xs) (i : Int) (h0 : 0 ≤ i) (h1 : i < n) : ∃ ad , A = some ad ∧ w.cell? (ad.add (i.toNat * 2)) = some (.int .i64 (rd_T43 xs i).f0) ∧ w.cell? ⟨(ad.add (i.toNat * 2)).block, (ad.add (i.toNat * 2)).off + 1, none⟩ = some (.int .i64 (rd_T43 xs i).f1) := by
  obtain ⟨ad, c, e, _, hK, hc0⟩ := Kd.C_get h z43 i h0 h1
  have hc : ∀ j u, c[j]? = some u → w.cell? (ad.add (i.toNat * 2 + j)) = some u := hc0
  obtain rfl := k43_open hK
  exact ⟨ad, e, hc 0 _ rfl, by rw [← add_field _ _ 1 (by omega)]; exact hc 1 _ rfl⟩

end Go.Proofs.Ythlbjdiicmojfaa.P

/-! Part Spec. -/
namespace Go.Proofs.Ythlbjdiicmojfaa.P
open Go.RowKit Go.Proofs.YthlbjdiicmojfaaW.PrintWords Go.Proofs.YthlbjdiicmojfaaW.PrintLast Go.Proofs.YthlbjdiicmojfaaW.PrintMore

/-- A number of the chapter: from 0 to 250. -/
def num (n : Int) : Bool := decide (0 ≤ n) && decide (n ≤ 250)
/-- A part in range. -/
def okP (p : S43) : Bool := decide (1 ≤ p.f0) && decide (p.f0 ≤ 250) && num p.f1
/-- The first error of parts. -/
def valid (l : List S43) : Int := if 12 < l.length then 3 else if l.all okP = true then (if (l.map S43.f0).Nodup then 0 else 6) else 1
/-- The error of a curve. -/
def curveErr (c : List Int) : Int := if 1 ≤ c.length ∧ c.length ≤ 6 then (if c.all num = true then 0 else 1) else 3
/-- A curve at x, by Horner's way. -/
def atI (c : List Int) (x : Int) : Int := c.foldr (fun n acc => (acc * x + n) % 251) 0
/-- x times n, d times over; and the number whose product with n is 1: n to the power of 249. -/
def powIt (n : Int) : Nat → Int → Int
  | 0, x => x
  | d + 1, x => powIt n d ((x * n) % 251)
def invI (n : Int) : Int := powIt n 249 1
/-- A curve times (x - less), and then times m; 'carry' is what comes from below. -/
def timesL : List Int → Int → Int → Int → List Int
  | [], _, _, carry => [carry % 251]
  | n :: c, less, m, carry => (carry - n * less * m) % 251 :: timesL c less m (n * m)
/-- The sum of two curves of one length. -/
def plusL (c d : List Int) : List Int := List.zipWith (fun a b => (a + b) % 251) c d
/-- A curve times all (x - xj) / (xi - xj). -/
def basis (xi : Int) (others : List Int) (c : List Int) : List Int := others.foldl (fun c xj => timesL c xj (invI ((xi - xj) % 251)) 0) c
/-- The curve that is y at place i, and 0 at the others. -/
def oneL (pts : List (Int × Int)) (i : Nat) : List Int := basis (pts.getD i (0, 0)).1 ((pts.map Prod.fst).eraseIdx i) [(pts.getD i (0, 0)).2]
/-- The first m of these, added. -/
def interpTo (pts : List (Int × Int)) (m : Nat) : List Int := (List.range m).foldl (fun out i => plusL out (oneL pts i)) (List.replicate pts.length 0)
/-- The curve through points. -/
def interp (pts : List (Int × Int)) : List Int := interpTo pts pts.length
def pts (l : List S43) : List (Int × Int) := l.map fun p => (p.f0, p.f1)
/-- Whether parts lie on a curve with so many numbers. -/
def lies (l : List S43) (need : Nat) : Bool := decide (l.length ≤ need) || l.all fun p => atI (interp (pts (l.take need))) p.f0 == p.f1

def secret_Validate.f (l0 : List S43) : Option Int := some (valid l0)
def secret_isCurve.f (l0 : List Int) : Option Int := some (curveErr l0)
def secret_curve_at.f (l0 : List Int) (a1 : Int) : Option Int := if (l0.all num && num a1 && decide (l0.length ≤ 12)) = true then some (atI l0 a1) else none
def secret_of.f (l0 : List S43) : Option (List Int) := if valid l0 = 0 then some (interp (pts l0)) else none
def secret_Complete.f (l0 : List S43) (a1 : Int) : Option (List Int × Int) :=
  if valid l0 = 0 then (if num a1 = true then (if 6 ≤ l0.length then some ([], 3) else some (interp ((0, a1) :: pts l0), 0)) else some ([], 1)) else some ([], valid l0)
def api_Part_93.f (l0 : List S43) : Option (List S43) := if l0.length ≤ 12 then some l0 else none
def secret_lieOn.f (l0 : List S43) (a1 : Int) : Option Bool := if valid l0 = 0 ∧ 1 ≤ a1 ∧ a1 ≤ 6 then some (lies l0 a1.toNat) else none
def secret_Add.f (l0 l1 : List S43) : Option (List S43 × Int) :=
  if valid l0 = 0 then (if valid l1 = 0 then (if l0.map S43.f0 = l1.map S43.f0 then some (List.zipWith (fun p q => ⟨p.f0, (p.f1 + q.f1) % 251⟩) l0 l1, 0) else some ([], 5)) else some ([], valid l1)) else some ([], valid l0)
def secret_Renew.f (l0 : List S43) (l1 : List Int) : Option (List S43 × Int) :=
  if valid l0 = 0 then (if curveErr l1 = 0 then (if l1.getD 0 0 = 0 then some (l0.map fun p => ⟨p.f0, (p.f1 + atI l1 p.f0) % 251⟩, 0) else some ([], 8)) else some ([], curveErr l1)) else some ([], valid l0)
end Go.Proofs.Ythlbjdiicmojfaa.P

/-! Part PF96. -/
-- Written for this claim by wip/print_more.py (a session's program that runs the kit's printer with hand-proved functions beside). Lean checks it.
namespace Go.Proofs.Ythlbjdiicmojfaa.P
open Go.RowKit Go.Proofs.YthlbjdiicmojfaaW.PrintWords Go.Proofs.YthlbjdiicmojfaaW.PrintLast Go.Proofs.YthlbjdiicmojfaaW.PrintMore
attribute [local go_sem] max2_int min2_int max_two min_two max_three min_three max_four min_four   -- for this text's walks alone
set_option linter.unusedVariables false
set_option linter.unusedSimpArgs false

/-! ### secret_rest: function 96 -/
def secret_rest.f (a0 : Int) : Option (Int) := some (Int.tmod (wrap64 ((Int.tmod a0 251) + 251)) 251)
set_option maxHeartbeats 8000000 in
set_option maxRecDepth 100000 in
theorem secret_rest.calls (a0 : Int) (r : Int) (w : World) (h : secret_rest.f a0 = some r) :
    Calls Try.prog 96 #[.int .i64 a0] w fun e w' => e = .returned (.int .i64 r) ∧ Drawn0 w w' := by
  have H : (some (Int.tmod (wrap64 ((Int.tmod a0 251) + 251)) 251)) = some r := h
  clear h
  obtain rfl := Option.some.inj H
  go_enter Try.func96, Try.ntmps96
  go_wp2
  go_ret
  exact ⟨by first | rfl | (simp; done) | (simp [*]; done), by repeat (first | exact Drawn0.refl _ | apply Drawn0.step)⟩

end Go.Proofs.Ythlbjdiicmojfaa.P

/-! Part PF104. -/
-- Written for this claim by wip/print_more.py (a session's program that runs the kit's printer with hand-proved functions beside). Lean checks it.
namespace Go.Proofs.Ythlbjdiicmojfaa.P
open Go.RowKit Go.Proofs.YthlbjdiicmojfaaW.PrintWords Go.Proofs.YthlbjdiicmojfaaW.PrintLast Go.Proofs.YthlbjdiicmojfaaW.PrintMore
attribute [local go_sem] max2_int min2_int max_two min_two max_three min_three max_four min_four   -- for this text's walks alone
set_option linter.unusedVariables false
set_option linter.unusedSimpArgs false

/-! ### verditerref08_mod: function 104 -/
def verditerref08_mod.f (a0 : Int) : Option (Int) := some (Int.tmod (wrap64 ((Int.tmod a0 251) + 251)) 251)
end Go.Proofs.Ythlbjdiicmojfaa.P

/-! Part Bas. -/
namespace Go.Proofs.Ythlbjdiicmojfaa.P
open Go.RowKit Go.Proofs.YthlbjdiicmojfaaW.PrintWords Go.Proofs.YthlbjdiicmojfaaW.PrintLast Go.Proofs.YthlbjdiicmojfaaW.PrintMore

theorem tmod_rest (a : Int) : Int.tmod (wrap64 (Int.tmod a 251 + 251)) 251 = a % 251 := by
  have h1 := Int.tmod_lt_of_pos a (b := 251) (by omega)
  have h2 := Int.lt_tmod_of_pos a (b := 251) (by omega)
  have h3 := Int.tmod_add_mul_tdiv a 251
  have h4 : wrap64 (Int.tmod a 251 + 251) = Int.tmod a 251 + 251 := by
    generalize Int.tmod a 251 = t at *
    unfold wrap64; omega
  rw [h4, Int.tmod_eq_emod_of_nonneg (by omega)]
  generalize Int.tmod a 251 = t at *
  generalize Int.tdiv a 251 = q at *
  omega
theorem rest_eq (a : Int) : secret_rest.f a = some (a % 251) := by
  unfold secret_rest.f; rw [tmod_rest]
theorem mod_eq (a : Int) : verditerref08_mod.f a = some (a % 251) := by
  unfold verditerref08_mod.f; rw [tmod_rest]
theorem wrap_id {a : Int} (h0 : -9223372036854775808 ≤ a) (h1 : a ≤ 9223372036854775807) : wrap64 a = a := by
  unfold wrap64; omega
theorem num_iff {n : Int} : num n = true ↔ 0 ≤ n ∧ n ≤ 250 := by
  unfold num; simp
theorem num_mod (a : Int) : num (a % 251) = true := by
  rw [num_iff]; omega
theorem mul_range {a b : Int} (ha0 : 0 ≤ a) (ha : a ≤ 250) (hb0 : 0 ≤ b) (hb : b ≤ 250) : 0 ≤ a * b ∧ a * b ≤ 62500 := by
  have h1 : 0 ≤ a * b := Int.mul_nonneg ha0 hb0
  have h2 : a * b ≤ 250 * 250 := Int.mul_le_mul ha hb hb0 (by omega)
  omega
theorem okP_iff {p : S43} : okP p = true ↔ 1 ≤ p.f0 ∧ p.f0 ≤ 250 ∧ 0 ≤ p.f1 ∧ p.f1 ≤ 250 := by
  unfold okP num; simp; omega
theorem valid_iff {l : List S43} : valid l = 0 ↔ l.length ≤ 12 ∧ (∀ p ∈ l, okP p = true) ∧ (l.map S43.f0).Nodup := by
  unfold valid
  split
  · constructor
    · intro h; omega
    · intro h; omega
  · split
    · rename_i hl ha
      rw [List.all_eq_true] at ha
      split
      · rename_i hn; exact ⟨fun _ => ⟨by omega, ha, hn⟩, fun _ => rfl⟩
      · rename_i hn; exact ⟨fun h => by omega, fun h => absurd h.2.2 hn⟩
    · rename_i hl ha
      rw [List.all_eq_true] at ha
      exact ⟨fun h => by omega, fun h => absurd h.2.1 ha⟩
theorem curveErr_iff {c : List Int} : curveErr c = 0 ↔ 1 ≤ c.length ∧ c.length ≤ 6 ∧ ∀ n ∈ c, num n = true := by
  unfold curveErr
  split
  · rename_i h
    split
    · rename_i ha
      rw [List.all_eq_true] at ha
      exact ⟨fun _ => ⟨h.1, h.2, ha⟩, fun _ => rfl⟩
    · rename_i ha
      rw [List.all_eq_true] at ha
      exact ⟨fun h => by omega, fun h => absurd h.2.2 ha⟩
  · rename_i h
    exact ⟨fun h => by omega, fun h' => absurd ⟨h'.1, h'.2.1⟩ h⟩
theorem num_atI (c : List Int) (x : Int) : num (atI c x) = true := by
  cases c with
  | nil => rfl
  | cons n c => exact num_mod _
end Go.Proofs.Ythlbjdiicmojfaa.P

/-! Part PE0. -/
-- Written for this claim by wip/print_more.py (a session's program that runs the kit's printer with hand-proved functions beside). Lean checks it.
namespace Go.Proofs.Ythlbjdiicmojfaa.P
open Go.RowKit Go.Proofs.YthlbjdiicmojfaaW.PrintWords Go.Proofs.YthlbjdiicmojfaaW.PrintLast Go.Proofs.YthlbjdiicmojfaaW.PrintMore
attribute [local go_sem] max2_int min2_int max_two min_two max_three min_three max_four min_four   -- for this text's walks alone
set_option linter.unusedVariables false
set_option linter.unusedSimpArgs false

theorem eqA43 (d : Nat) (w : World) (x0 y0 : Int) (x1 y1 : Int) :
    (Op.equalIn (d + 2) 43 (.agg #[.int .i64 x0, .int .i64 x1]) (.agg #[.int .i64 y0, .int .i64 y1])).run Try.prog w = .ok (x0 == y0 && (x1 == y1)) w := by
  refine eqA_of Try.underlying43 (by kernel_rfl) ?_
  refine eqf_cons (by rfl) (by go_simp; rfl) (by go_simp; rfl) (by go_simp) ?_
  exact eqf_last (by rfl) (by go_simp; rfl) (by go_simp; rfl) (by go_simp)
end Go.Proofs.Ythlbjdiicmojfaa.P

/-! Part HKeep. -/
namespace Go.Proofs.Ythlbjdiicmojfaa.P
open Go.RowKit Go.Proofs.YthlbjdiicmojfaaW.PrintWords Go.Proofs.YthlbjdiicmojfaaW.PrintLast Go.Proofs.YthlbjdiicmojfaaW.PrintMore
attribute [local go_sem high] eqA43
set_option linter.unusedVariables false

set_option maxHeartbeats 2000000 in
set_option maxRecDepth 100000 in
theorem keepInts (A : Option Addr) (n : Nat) (zs : List Int) (w : World) (hr : Kd.C (Kd.int .i64) w A zs.length zs) (hn : n ≤ zs.length) (hl : zs.length * 8 ≤ 140737488351232) :
    Calls Try.prog 22 #[.slice A n zs.length] w fun e w' => ∃ v, e = .returned v ∧ Kd.R (Kd.int .i64) 3 w' w.heap.size (fun _ => True) v zs ∧ Below w.heap.size w w' := by
  have HR0 := Aside0.mk hr
  have HB := Aside0.mk (Below.refl w.heap.size w)
  have hmax := Kd.C_max hr
  clear hr
  go_enter Try.func22, Try.ntmps22
  go_wp2_with (first | ((with_reducible refine gate_dst (N := 3) rfl ?_); refine Kd.R_lit (Kd.int .i64) _ 3 ?hg (N := 3) ?hd (xs := ([] : List Int)) (inner := []) (ok := fun _ => True) (okp := fun _ => True) ?hr ?hp (fun _ hk => hk) trivial (Below.refl _ _) (Nat.le_refl _) (by simp) ?_; (case hd => rfl); (case hg => rfl); (case hr => first | (go_simp; done) | (go_simp; rfl)); (case hp => exact (Reps.none _ _)); intro v1 w1 ho hb hg_ hnew_; clear hg_ hnew_; have HO := Aside0.mk ho; clear ho; have HB1 := Aside0.mk hb; clear hb) | ((with_reducible refine gate_builtin (b := .append) (xs := #[.tmp 3, .tmp 7]) rfl ?_); at_builtin; refine Kd.R_append_rows (Kd.int .i64) (w0 := w) w.heap.size rfl (.tmp 3) (.tmp 7) 26 3 (.int .i64 0) 8 rfl Try.underlying26 info3 rfl (by decide) (by omega) v1 [] zs _ _ _ (fun _ => True) (fun _ => False) rfl rfl ?aO ?aR (fun _ _ h => h) (fun _ h => h.elim) ?aF ?aB ?aS ?aL ?_; (case aR => exact Kd.C_below HR0.out HB1.out); (case aB => exact HB1.out); (case aF => exact fun _ _ => trivial); (case aO => exact HO.out); (case aS => exact HB1.out.size); (case aL => simp only [List.length_nil]; omega); intro v2 w2 ho2 hb2 hg2 hat2; have HO2 := Aside0.mk ho2; have HB2 := Aside0.mk hb2; clear ho2 hb2 hg2 hat2))
  go_ret
  exact ⟨_, rfl, HO2.out, HB2.out⟩

set_option maxHeartbeats 2000000 in
set_option maxRecDepth 100000 in
theorem keptInts (A1 : Option Addr) (c1 : Nat) (A : Option Addr) (n : Nat) (zs : List Int) (w : World) (hr1 : Kd.C (Kd.int .i64) w A1 zs.length zs) (hr : Kd.C (Kd.int .i64) w A zs.length zs) (hn : n ≤ zs.length) :
    Calls Try.prog 24 #[.slice A1 zs.length c1, .slice A n zs.length] w fun e w' => e = .returned (.bool true) ∧ Drawn0 w w' := by
  have HR1 := Aside0.mk hr1
  have HR0 := Aside0.mk hr
  have hmax := Kd.C_max hr
  clear hr hr1
  go_enter Try.func24, Try.ntmps24
  go_wp2
  go_loopg [5] zs.length (fun gg v5 w' => ∃ i : Nat, i ≤ zs.length ∧ zs.length - i ≤ gg ∧ v5 = .int .i64 i ∧ Drawn0 w w')
  case atStart => exact ⟨0, Nat.zero_le _, by omega, rfl, by repeat (first | exact Drawn0.refl _ | apply Drawn0.step)⟩
  case round =>
    obtain ⟨i, hi, hg, rfl, ⟨m1, rfl⟩⟩ := hrel
    by_cases hlt : i < zs.length
    · have hltz : (i : Int) < (zs.length : Int) := by omega
      have hq0 : (0 : Int) ≤ (i : Int) := by omega
      obtain ⟨ad1, e1, hx1⟩ := Kd.at_int HR1.out (i : Int) hq0 hltz
      obtain ⟨ad0, e0, hx0⟩ := Kd.at_int HR0.out (i : Int) hq0 hltz
      subst e1
      subst e0
      simp only [Int.toNat_natCast] at hx0 hx1
      go_wp2
      go_quiet (fail)
      go_wp2
      go_roundg (zs.length - (i + 1))
      case measure => omega
      case rel => exact ⟨i + 1, by omega, by omega, by go_num, by repeat (first | exact Drawn0.refl _ | apply Drawn0.step)⟩
    · have hltz : ¬ (i : Int) < (zs.length : Int) := by omega
      go_wp2
      go_ret
      exact ⟨rfl, by repeat (first | exact Drawn0.refl _ | apply Drawn0.step)⟩

end Go.Proofs.Ythlbjdiicmojfaa.P

/-! Part Out8. -/
namespace Go.Proofs.Ythlbjdiicmojfaa.P
open Go.RowKit Go.Proofs.YthlbjdiicmojfaaW.PrintWords Go.Proofs.YthlbjdiicmojfaaW.PrintLast Go.Proofs.YthlbjdiicmojfaaW.PrintMore
set_option linter.unusedVariables false

set_option maxHeartbeats 2000000 in
set_option maxRecDepth 100000 in
theorem out8 (A0 : Option Addr) (n0 : Nat) (zs0 : List Int) (A1 : Option Addr) (n1 : Nat) (zs1 : List Int) (a1 a2 : Int) (w : World)
    (hr0 : Kd.C (Kd.int .i64) w A0 zs0.length zs0) (hn0 : n0 ≤ zs0.length) (hl0 : zs0.length * 8 ≤ 140737488351232) (hr1 : Kd.C (Kd.int .i64) w A1 zs1.length zs1) (hn1 : n1 ≤ zs1.length) (hl1 : zs1.length * 8 ≤ 140737488351232)
    (HI : Aside0 (∀ w1, Below w.heap.size w w1 → Calls Try.prog 28 #[.agg #[.slice A0 n0 zs0.length, .slice A1 n1 zs1.length], .int .i64 a1, .int .i64 a2] w1 fun e w' => e = .returned (.bool true) ∧ Below w1.heap.size w1 w')) :
    Calls Try.prog 8 #[.agg #[.slice A0 n0 zs0.length, .slice A1 n1 zs1.length], .int .i64 a1, .int .i64 a2] w fun e w' => e = .returned (.bool true) ∧ Below w.heap.size w w' := by
  have hu31 := Try.underlying31
  have HR0 := Aside0.mk hr0
  have HR1 := Aside0.mk hr1
  obtain ⟨wb, hwb⟩ : ∃ wb, wb = w.alloc (.cells #[.slice A0 n0 zs0.length, .slice A1 n1 zs1.length] 31) := ⟨_, rfl⟩
  have hbb : Below w.heap.size w wb := by rw [hwb]; exact below_alloc (Below.refl _ _) _
  have hc0 : wb.cell? ⟨w.heap.size, 0, none⟩ = some (.slice A0 n0 zs0.length) := by rw [hwb, World.cell?_alloc_new]; rfl
  have hc1 : wb.cell? ⟨w.heap.size, 1, none⟩ = some (.slice A1 n1 zs1.length) := by rw [hwb, World.cell?_alloc_new]; rfl
  have hsz : w.heap.size < wb.heap.size := by rw [hwb, World.size_alloc]; omega
  have HK0 := Aside0.mk (keepInts A0 n0 zs0 wb (Kd.C_below hr0 hbb) hn0 hl0)
  have HK1 := Aside0.mk (fun (w1 : World) (hb : Below w.heap.size w w1) => keepInts A1 n1 zs1 w1 (Kd.C_below hr1 hb) hn1 hl1)
  have HN0 := Aside0.mk hn0
  have HN1 := Aside0.mk hn1
  have HWB := Aside0.mk hwb
  have HB := Aside0.mk hbb
  have HC0 := Aside0.mk hc0
  have HC1 := Aside0.mk hc1
  have HSZ := Aside0.mk hsz
  clear hr0 hr1 hn0 hn1 hl0 hl1 hwb hbb hc0 hc1 hsz
  go_enter Try.func8, Try.ntmps8
  go_wp2_with fail
  rw [← HWB.out]
  with_reducible refine HK0.out.mono ?_
  rintro e w1 ⟨v, rfl, hv, hb⟩
  obtain ⟨B0, c0, rfl, hcc0, hc⟩ := Kd.R_reads hv
  have HD0 := Aside0.mk hc
  have hx0 := pw_cell_below hb HC0.out
  have hx1 := pw_cell_below hb HC1.out
  have hbx := below_step HB.out hb
  clear HB; have HB := Aside0.mk hbx
  clear HC0 HC1 hc hv hb hbx
  go_wp2_with fail
  with_reducible refine (HK1.out w1 HB.out).mono ?_
  rintro e w2 ⟨v, rfl, hv, hb⟩
  obtain ⟨B1, c1, rfl, hcc1, hc⟩ := Kd.R_reads hv
  have HD1 := Aside0.mk hc
  have hcx := Kd.C_below HD0.out hb
  clear HD0; have HD0 := Aside0.mk hcx
  have hy0 := pw_cell_below hb hx0
  have hy1 := pw_cell_below hb hx1
  have hbx := below_step HB.out hb
  clear HB; have HB := Aside0.mk hbx
  clear hc hv hb hbx hcx hx0 hx1
  go_wp2_with fail
  with_reducible refine (HI.out w2 HB.out).mono ?_
  rintro e w3 ⟨rfl, hb⟩
  have hcx := Kd.C_below HD0.out hb
  clear HD0; have HD0 := Aside0.mk hcx
  have hcy := Kd.C_below HD1.out hb
  clear HD1; have HD1 := Aside0.mk hcy
  have hx0 := pw_cell_below hb hy0
  have hx1 := pw_cell_below hb hy1
  have hbx := below_step HB.out hb
  clear HB; have HB := Aside0.mk hbx
  clear hb hbx hcx hcy hy0 hy1
  go_wp2_with fail
  with_reducible refine (keptInts B0 c0 A0 n0 zs0 _ HD0.out (Kd.C_below HR0.out HB.out) HN0.out).mono ?_
  rintro e w4 ⟨rfl, ⟨m0, rfl⟩⟩
  have hy0 : (w3.drewN m0).cell? ⟨w.heap.size, 0, none⟩ = some (.slice A0 n0 zs0.length) := hx0
  have hy1 : (w3.drewN m0).cell? ⟨w.heap.size, 1, none⟩ = some (.slice A1 n1 zs1.length) := hx1
  have hcy := Kd.C_drewN HD1.out m0
  clear HD1; have HD1 := Aside0.mk hcy
  clear hcy
  go_wp2_with fail
  with_reducible refine (keptInts B1 c1 A1 n1 zs1 _ HD1.out (Kd.C_drewN (Kd.C_below HR1.out HB.out) m0) HN1.out).mono ?_
  rintro e w5 ⟨rfl, ⟨m1, rfl⟩⟩
  go_wp2_with fail
  go_ret
  exact ⟨rfl, pw_below_drewN HB.out _⟩
end Go.Proofs.Ythlbjdiicmojfaa.P

/-! Part Open. -/
namespace Go.Proofs.Ythlbjdiicmojfaa.P
open Go.RowKit Go.Proofs.YthlbjdiicmojfaaW.PrintWords Go.Proofs.YthlbjdiicmojfaaW.PrintLast Go.Proofs.YthlbjdiicmojfaaW.PrintMore
open Go.ChangeShapes Go.WideShapes Go.Deep
set_option linter.unusedVariables false

theorem open_intlist {H : Type} {enc : TypeId × Value → H} {W : World} {base : Nat} {held : Bool} {a : Option Addr} {len cap : Nat} {d : DataW H} {ps : List MemPlace} {ts : List TypeId} {ds : List (DataW H)} {j : Nat}
    (hsz : (DataW.weightsEach Try.prog ts ds).all (· ≤ reachBytes) = true) (ht : ts[j]? = some 26) (hd : ds[j]? = some d)
    (h : DataW.Trod enc Try.prog W base (fun _ => true) held 26 (.slice a len cap) d ps) :
    ∃ zs : List Int, cap = zs.length ∧ len ≤ zs.length ∧ Kd.C (Kd.int .i64) W a zs.length zs ∧ zs.length * 8 ≤ 140737488351232 ∧ ∀ z ∈ zs, (Lit.int .i64 z).wf = true := by
  obtain ⟨fuel, hf⟩ := h
  rcases open_ints Try.underlying26 Try.underlying3 (by kernel_rfl) hf with ⟨hcs, _⟩ | ⟨x, l, c, zs, hcs, _, hl, hm, hz, hx, hcell, hwz⟩
  · simp [Value.cells] at hcs
    obtain ⟨rfl, rfl, rfl⟩ := hcs
    exact ⟨[], rfl, Nat.le_refl _, Kd.C_nil _ _, by simp, by simp⟩
  · simp [Value.cells] at hcs
    obtain ⟨rfl, rfl, rfl⟩ := hcs
    simp only [if_true] at hz
    obtain ⟨hx, _⟩ := Prod.mk.inj hx
    subst hx
    have z := sized_slice hsz ht hd Try.underlying26
    have h1 : (lits (H := H) .i64 (zs.take len)).length + (lits (H := H) .i64 (zs.drop len)).length = zs.length := by
      simp [lits]
      omega
    rw [h1, show Try.prog.bytesOf 3 = 8 by kernel_rfl] at z
    refine ⟨zs, hz.symm, by omega, Kd.C_of_reads (enc := Value.int .i64) (d := (0 : Int)) (h1 := fun _ => rfl) ⟨rfl, by rw [hz]; simp only [maxLen] at hm; omega, fun _ => ⟨x, rfl, fun j hj => ?_⟩⟩, z, hwz⟩
    exact hcell j hj

end Go.Proofs.Ythlbjdiicmojfaa.P

/-! Part Open8. -/
namespace Go.Proofs.Ythlbjdiicmojfaa.P
open Go.RowKit Go.Proofs.YthlbjdiicmojfaaW.PrintWords Go.Proofs.YthlbjdiicmojfaaW.PrintLast Go.Proofs.YthlbjdiicmojfaaW.PrintMore
open Go.ChangeShapes Go.WideShapes Go.Deep
set_option linter.unusedVariables false
theorem open_intcells {H : Type} {enc : TypeId × Value → H} {W : World} {base : Nat} {held : Bool} {cs : List Value} {d : DataW H} {ps : List MemPlace} {ts : List TypeId} {ds : List (DataW H)} {j : Nat} {fuel : Nat}
    (hsz : (DataW.weightsEach Try.prog ts ds).all (· ≤ reachBytes) = true) (ht : ts[j]? = some 26) (hd : ds[j]? = some d)
    (hf : DataW.trod enc Try.prog W base (fun _ => true) held fuel 26 cs = some (d, ps)) :
    ∃ (a : Option Addr) (len : Nat) (zs : List Int), cs = [.slice a len zs.length] ∧ len ≤ zs.length ∧ Kd.C (Kd.int .i64) W a zs.length zs ∧ zs.length * 8 ≤ 140737488351232 := by
  have key : ∃ (a : Option Addr) (len cap : Nat), cs = [.slice a len cap] := by
    rcases open_ints Try.underlying26 Try.underlying3 (by kernel_rfl) hf with ⟨hcs, _⟩ | ⟨x, l, c, zs, hcs, _⟩
    · exact ⟨_, _, _, hcs⟩
    · exact ⟨_, _, _, hcs⟩
  obtain ⟨a, len, cap, rfl⟩ := key
  obtain ⟨zs, rfl, h1, h2, h3, _⟩ := open_intlist (a := a) (len := len) (cap := cap) hsz ht hd ⟨fuel, by simpa [Value.cells] using hf⟩
  exact ⟨a, len, zs, rfl, h1, h2, h3⟩
theorem open_two {H : Type} {enc : TypeId × Value → H} {W : World} {base : Nat} {held : Bool} {cs : Array Value} {d : DataW H} {ps : List MemPlace} {ts : List TypeId} {ds : List (DataW H)} {j : Nat}
    (hsz : (DataW.weightsEach Try.prog ts ds).all (· ≤ reachBytes) = true) (ht : ts[j]? = some 31) (hd : ds[j]? = some d)
    (h : DataW.Trod enc Try.prog W base (fun _ => true) held 31 (.agg cs) d ps) :
    ∃ (a0 : Option Addr) (n0 : Nat) (z0 : List Int) (a1 : Option Addr) (n1 : Nat) (z1 : List Int), cs = #[.slice a0 n0 z0.length, .slice a1 n1 z1.length] ∧
      n0 ≤ z0.length ∧ Kd.C (Kd.int .i64) W a0 z0.length z0 ∧ z0.length * 8 ≤ 140737488351232 ∧ n1 ≤ z1.length ∧ Kd.C (Kd.int .i64) W a1 z1.length z1 ∧ z1.length * 8 ≤ 140737488351232 := by
  obtain ⟨fuel, hf⟩ := h
  obtain ⟨y0, y1, n, hx, hlen, t0, t1⟩ := trod_struct2 Try.underlying31 hf
  obtain ⟨rfl, _⟩ := Prod.mk.inj hx
  rw [show Try.prog.cellsOf 31 = 2 by kernel_rfl] at hlen
  have hin : (DataW.weightsEach Try.prog [26, 26] [y0.1, y1.1]).all (· ≤ reachBytes) = true := by
    rw [List.all_eq_true]
    intro m hm
    refine List.all_eq_true.1 hsz m (DataW.weights_mem_each ht hd m ?_)
    simp only [DataW.weights, Try.underlying31]
    exact hm
  match cs, hlen with
  | ⟨[v0, v1]⟩, _ =>
    have u0 : DataW.trod enc Try.prog W base (fun _ => true) held n 26 [v0] = some (y0.1, y0.2) := by
      have := t0
      rw [show Try.prog.cellsOf 26 = 1 by kernel_rfl] at this
      exact this
    have u1 : DataW.trod enc Try.prog W base (fun _ => true) held n 26 [v1] = some (y1.1, y1.2) := by
      have := t1
      rw [show Try.prog.cellsOf 26 = 1 by kernel_rfl] at this
      exact this
    obtain ⟨a0, n0, z0, e0, g1, g2, g3⟩ := open_intcells hin (j := 0) rfl rfl u0
    obtain ⟨a1, n1, z1, e1, g4, g5, g6⟩ := open_intcells hin (j := 1) rfl rfl u1
    simp only [List.cons.injEq, and_true] at e0 e1
    subst e0; subst e1
    exact ⟨a0, n0, z0, a1, n1, z1, rfl, g1, g2, g3, g4, g5, g6⟩
end Go.Proofs.Ythlbjdiicmojfaa.P

/-! Part PF43. -/
-- Written for this claim by wip/print_more.py (a session's program that runs the kit's printer with hand-proved functions beside). Lean checks it.
namespace Go.Proofs.Ythlbjdiicmojfaa.P
open Go.RowKit Go.Proofs.YthlbjdiicmojfaaW.PrintWords Go.Proofs.YthlbjdiicmojfaaW.PrintLast Go.Proofs.YthlbjdiicmojfaaW.PrintMore
attribute [local go_sem] max2_int min2_int max_two min_two max_three min_three max_four min_four   -- for this text's walks alone
set_option linter.unusedVariables false
set_option linter.unusedSimpArgs false

/-! ### verditerref08_SameInts: function 43 -/
def verditerref08_SameInts.l0 : Nat → List Int → List Int → Int → Option (Bool)
  | 0, _, _, _ => none
  | k + 1, x0, x1, x5 => if x5 < (x0.length : Int) then (if 0 ≤ x5 then (if x5 < (x1.length : Int) then (if (rd x0 x5) = (rd x1 x5) then (verditerref08_SameInts.l0 k x0 x1 (wrap64 (x5 + 1))) else (some false)) else (none)) else (none)) else (some true)
def verditerref08_SameInts.f (k : Nat) (l0 : List Int) (l1 : List Int) : Option (Bool) := if (l0.length : Int) = (l1.length : Int) then (verditerref08_SameInts.l0 k l0 l1 0) else (some false)
set_option maxHeartbeats 8000000 in
set_option maxRecDepth 100000 in
theorem verditerref08_SameInts.calls (k : Nat) (A0 : Option Addr) (c0 : Nat) (l0 : List Int) (A1 : Option Addr) (c1 : Nat) (l1 : List Int) (r : Bool) (w : World) (hr0 : Kd.C (Kd.int .i64) w A0 l0.length l0) (hc0 : l0.length ≤ c0) (hr1 : Kd.C (Kd.int .i64) w A1 l1.length l1) (hc1 : l1.length ≤ c1) (h : verditerref08_SameInts.f k l0 l1 = some r) :
    Calls Try.prog 43 #[.slice A0 l0.length c0, .slice A1 l1.length c1] w fun e w' => e = .returned (.bool r) ∧ Drawn0 w w' := by
  have HR0 := Aside0.mk hr0
  have HC0 := Aside0.mk hc0
  clear hr0 hc0
  have HR1 := Aside0.mk hr1
  have HC1 := Aside0.mk hc1
  clear hr1 hc1
  have H : (if (l0.length : Int) = (l1.length : Int) then (verditerref08_SameInts.l0 k l0 l1 0) else (some false)) = some r := h
  clear h
  by_cases c3 : (l0.length : Int) = (l1.length : Int)
  · rw [if_pos c3] at H
    have c3b0 : ((l0.length : Int) == (l1.length : Int)) = true := beq_iff_eq.mpr c3
    have c3b1 : ((l0.length : Int) != (l1.length : Int)) = false := bne_eq_false_iff_eq.mpr c3
    have c3b2 : (l0.length == l1.length) = true := by first | simpa using c3 | (simp at c3 ⊢; omega)
    clear c3
    have H' := Aside0.mk H
    clear H
    go_enter Try.func43, Try.ntmps43
    go_wp2
    repeat (go_quiet (fail); try go_wp2)
    go_loopg [5] k (fun kq v5 w' => ∃ (x5_1 : Int), v5 = .int .i64 x5_1 ∧ Aside0 (verditerref08_SameInts.l0 kq l0 l1 x5_1 = some r) ∧ Aside0 (kq ≤ k) ∧ Drawn0 w w')
    case atStart => exact ⟨(0), (by first | rfl | (simp; done) | (simp [*]; done)), H', ⟨Nat.le_refl _⟩, by repeat (first | exact Drawn0.refl _ | apply Drawn0.step)⟩
    case round =>
      clear H'
      try clear c1
      try clear p2
      try clear c3
      try clear c3b0
      try clear c3b1
      try clear c3b2
      obtain ⟨x5_1, rfl, HA, HK1, ⟨m1, rfl⟩⟩ := hrel
      cases gk with
      | zero => exact absurd HA.out (by simp [verditerref08_SameInts.l0])
      | succ k1 =>
        have H := HA.out
        clear HA
        simp only [verditerref08_SameInts.l0] at H
        by_cases c4 : x5_1 < (l0.length : Int)
        · rw [if_pos c4] at H
          have c4b0 : decide (x5_1 < (l0.length : Int)) = true := decide_eq_true c4
          clear c4
          by_cases c5 : 0 ≤ x5_1
          · rw [if_pos c5] at H
            have c5b0 : decide (0 ≤ x5_1) = true := decide_eq_true c5
            clear c5
            by_cases c6 : x5_1 < (l1.length : Int)
            · rw [if_pos c6] at H
              have c6b0 : decide (x5_1 < (l1.length : Int)) = true := decide_eq_true c6
              clear c6
              by_cases c7 : (rd l0 x5_1) = (rd l1 x5_1)
              · rw [if_pos c7] at H
                have c7b0 : ((rd l0 x5_1) == (rd l1 x5_1)) = true := beq_iff_eq.mpr c7
                have c7b1 : ((rd l0 x5_1) != (rd l1 x5_1)) = false := bne_eq_false_iff_eq.mpr c7
                clear c7
                have H' := Aside0.mk H
                clear H
                have p113 : 0 ≤ (x5_1 : Int) := of_decide_eq_true (by first | (with_reducible assumption) | assumption)
                have q113 : x5_1 < (l0.length : Int) := of_decide_eq_true (by first | (with_reducible assumption) | assumption)
                obtain ⟨ad113, e113, hx113_0⟩ := Kd.at_int HR0.out x5_1 p113 q113
                cases e113
                replace p113 := eq_true p113
                replace q113 := eq_true q113
                have p114 : 0 ≤ (x5_1 : Int) := of_decide_eq_true (by first | (with_reducible assumption) | assumption)
                have q114 : x5_1 < (l1.length : Int) := of_decide_eq_true (by first | (with_reducible assumption) | assumption)
                obtain ⟨ad114, e114, hx114_0⟩ := Kd.at_int HR1.out x5_1 p114 q114
                cases e114
                replace p114 := eq_true p114
                replace q114 := eq_true q114
                go_wp2
                repeat (go_quiet (fail); try go_wp2)
                go_roundg k1
                case measure => have := HK1.out; omega
                case rel => exact ⟨(wrap64 (x5_1 + 1)), (by first | rfl | (simp; done) | (simp [*]; done)), H', ⟨by have := HK1.out; omega⟩, by repeat (first | exact Drawn0.refl _ | apply Drawn0.step)⟩
              · rw [if_neg c7] at H
                have c7b0 : ((rd l0 x5_1) == (rd l1 x5_1)) = false := beq_eq_false_iff_ne.mpr c7
                have c7b1 : ((rd l0 x5_1) != (rd l1 x5_1)) = true := bne_iff_ne.mpr c7
                obtain rfl := Option.some.inj H
                have p113 : 0 ≤ (x5_1 : Int) := of_decide_eq_true (by first | (with_reducible assumption) | assumption)
                have q113 : x5_1 < (l0.length : Int) := of_decide_eq_true (by first | (with_reducible assumption) | assumption)
                obtain ⟨ad113, e113, hx113_0⟩ := Kd.at_int HR0.out x5_1 p113 q113
                cases e113
                replace p113 := eq_true p113
                replace q113 := eq_true q113
                have p114 : 0 ≤ (x5_1 : Int) := of_decide_eq_true (by first | (with_reducible assumption) | assumption)
                have q114 : x5_1 < (l1.length : Int) := of_decide_eq_true (by first | (with_reducible assumption) | assumption)
                obtain ⟨ad114, e114, hx114_0⟩ := Kd.at_int HR1.out x5_1 p114 q114
                cases e114
                replace p114 := eq_true p114
                replace q114 := eq_true q114
                go_wp2
                repeat (go_quiet (fail); try go_wp2)
                go_ret
                exact ⟨by first | rfl | (simp; done) | (simp [*]; done), by repeat (first | exact Drawn0.refl _ | apply Drawn0.step)⟩
            · rw [if_neg c6] at H
              exact absurd H (by simp)
          · rw [if_neg c5] at H
            exact absurd H (by simp)
        · rw [if_neg c4] at H
          have c4b0 : decide (x5_1 < (l0.length : Int)) = false := decide_eq_false c4
          clear c4
          obtain rfl := Option.some.inj H
          go_wp2
          repeat (go_quiet (fail); try go_wp2)
          go_ret
          exact ⟨by first | rfl | (simp; done) | (simp [*]; done), by repeat (first | exact Drawn0.refl _ | apply Drawn0.step)⟩
  · rw [if_neg c3] at H
    have c3b0 : ((l0.length : Int) == (l1.length : Int)) = false := beq_eq_false_iff_ne.mpr c3
    have c3b1 : ((l0.length : Int) != (l1.length : Int)) = true := bne_iff_ne.mpr c3
    have c3b2 : (l0.length == l1.length) = false := by first | simpa using c3 | (simp at c3 ⊢; omega)
    obtain rfl := Option.some.inj H
    go_enter Try.func43, Try.ntmps43
    go_wp2
    repeat (go_quiet (fail); try go_wp2)
    go_ret
    exact ⟨by first | rfl | (simp; done) | (simp [*]; done), by repeat (first | exact Drawn0.refl _ | apply Drawn0.step)⟩

end Go.Proofs.Ythlbjdiicmojfaa.P

/-! Part PF88. -/
-- Written for this claim by wip/print_more.py (a session's program that runs the kit's printer with hand-proved functions beside). Lean checks it.
namespace Go.Proofs.Ythlbjdiicmojfaa.P
open Go.RowKit Go.Proofs.YthlbjdiicmojfaaW.PrintWords Go.Proofs.YthlbjdiicmojfaaW.PrintLast Go.Proofs.YthlbjdiicmojfaaW.PrintMore
attribute [local go_sem] max2_int min2_int max_two min_two max_three min_three max_four min_four   -- for this text's walks alone
set_option linter.unusedVariables false
set_option linter.unusedSimpArgs false

/-! ### secret_within: function 88 -/
def secret_within.f (a0 : Int) (a1 : Int) (a2 : Int) : Option (Bool) := if a0 ≥ a1 then (some (decide (a0 ≤ a2))) else (some false)
set_option maxHeartbeats 8000000 in
set_option maxRecDepth 100000 in
theorem secret_within.calls (a0 : Int) (a1 : Int) (a2 : Int) (r : Bool) (w : World) (h : secret_within.f a0 a1 a2 = some r) :
    Calls Try.prog 88 #[.int .i64 a0, .int .i64 a1, .int .i64 a2] w fun e w' => e = .returned (.bool r) ∧ Drawn0 w w' := by
  have H : (if a0 ≥ a1 then (some (decide (a0 ≤ a2))) else (some false)) = some r := h
  clear h
  by_cases c4 : a0 ≥ a1
  · rw [if_pos c4] at H
    have c4b0 : decide (a1 ≤ a0) = true := decide_eq_true c4
    clear c4
    obtain rfl := Option.some.inj H
    go_enter Try.func88, Try.ntmps88
    go_wp2
    go_ret
    exact ⟨by first | rfl | (simp; done) | (simp [*]; done), by repeat (first | exact Drawn0.refl _ | apply Drawn0.step)⟩
  · rw [if_neg c4] at H
    have c4b0 : decide (a1 ≤ a0) = false := decide_eq_false c4
    clear c4
    obtain rfl := Option.some.inj H
    go_enter Try.func88, Try.ntmps88
    go_wp2
    go_ret
    exact ⟨by first | rfl | (simp; done) | (simp [*]; done), by repeat (first | exact Drawn0.refl _ | apply Drawn0.step)⟩

end Go.Proofs.Ythlbjdiicmojfaa.P

/-! Part PF77. -/
-- Written for this claim by wip/print_more.py (a session's program that runs the kit's printer with hand-proved functions beside). Lean checks it.
namespace Go.Proofs.Ythlbjdiicmojfaa.P
open Go.RowKit Go.Proofs.YthlbjdiicmojfaaW.PrintWords Go.Proofs.YthlbjdiicmojfaaW.PrintLast Go.Proofs.YthlbjdiicmojfaaW.PrintMore
attribute [local go_sem] max2_int min2_int max_two min_two max_three min_three max_four min_four   -- for this text's walks alone
set_option linter.unusedVariables false
set_option linter.unusedSimpArgs false

/-! ### secret_isNumber: function 77 -/
def secret_isNumber.f (a0 : Int) : Option (Bool) := (secret_within.f a0 0 250).bind fun t101 => (some t101)
set_option maxHeartbeats 8000000 in
set_option maxRecDepth 100000 in
theorem secret_isNumber.calls (a0 : Int) (r : Bool) (w : World) (h : secret_isNumber.f a0 = some r) :
    Calls Try.prog 77 #[.int .i64 a0] w fun e w' => e = .returned (.bool r) ∧ Drawn0 w w' := by
  have H : ((secret_within.f a0 0 250).bind fun t101 => (some t101)) = some r := h
  clear h
  replace H := Option.bind_eq_some_iff.mp H
  obtain ⟨t101, A20, H⟩ := H
  replace H : (some t101) = some r := H
  have A2 := Aside0.mk A20
  clear A20
  obtain rfl := Option.some.inj H
  go_enter Try.func77, Try.ntmps77
  go_wp2_with (first | ((with_reducible refine gate_callee (f := 88) rfl ?_); refine goesL_ (some 4) rfl rfl Try.func88 (by kernel_rfl) rfl #[.int .i64 a0, .int .i64 0, .int .i64 250] rfl (by (try simp only [List.map_toArray, List.map_cons, List.map_nil]); first | done | rfl | (simp only [List.length_drop, List.length_take]; rfl)) ?_; (with_reducible refine (secret_within.calls a0 0 250 t101 _ A2.out).mono ?_); rintro e w' ⟨rfl, ⟨nd, rfl⟩⟩; refine ⟨_, rfl, ?_⟩))
  go_ret
  exact ⟨by first | rfl | (simp; done) | (simp [*]; done), by repeat (first | exact Drawn0.refl _ | apply Drawn0.step)⟩

end Go.Proofs.Ythlbjdiicmojfaa.P

/-! Part H98. -/
namespace Go.Proofs.Ythlbjdiicmojfaa.P
open Go.RowKit Go.Proofs.YthlbjdiicmojfaaW.PrintWords Go.Proofs.YthlbjdiicmojfaaW.PrintLast Go.Proofs.YthlbjdiicmojfaaW.PrintMore
set_option linter.unusedVariables false

/-- What is asked of a predicate that is handed to the library: at each x of xs it answers p x, and turns nothing that was there. -/
def PredB {α : Type} (g : Nat) (lb : Array Value) (enc : α → Value) (p : α → Bool) (xs : List α) (w : World) : Prop :=
  ∀ (W : World) (x : α), x ∈ xs → Below w.heap.size w W → Calls Try.prog g (#[enc x] ++ lb) W fun e w' => e = .returned (.bool (p x)) ∧ Below W.heap.size W w'
def enc43 (x : S43) : Value := .agg #[.int .i64 x.f0, .int .i64 x.f1]
/-- The first place at which p holds, or -1. -/
def idxI {α : Type} (p : α → Bool) (l : List α) : Int := if l.findIdx p < l.length then (l.findIdx p : Int) else -1
theorem idxI_hit {α : Type} {p : α → Bool} {l : List α} {k : Nat} (hk : k < l.length) (h : p l[k] = true) (hb : ∀ j (hj : j < k), p (l[j]'(by omega)) = false) : idxI p l = k := by
  have e : l.findIdx p = k := by
    rw [List.findIdx_eq hk]; exact ⟨h, fun j hj => hb j hj⟩
  unfold idxI; rw [e, if_pos hk]
theorem idxI_miss {α : Type} {p : α → Bool} {l : List α} (h : ∀ j (hj : j < l.length), p l[j] = false) : idxI p l = -1 := by
  have e : l.findIdx p = l.length := by
    rw [List.findIdx_eq_length]
    intro x hx
    obtain ⟨j, hj, rfl⟩ := List.getElem_of_mem hx
    simp [h j hj]
  unfold idxI; rw [e, if_neg (by omega)]
theorem idxI_any {α : Type} (p : α → Bool) (l : List α) : decide (0 ≤ idxI p l) = l.any p := by
  unfold idxI
  split
  · rename_i h
    rw [List.findIdx_lt_length] at h
    have : l.any p = true := by rw [List.any_eq_true]; exact h
    rw [this]; simp
  · rename_i h
    rw [List.findIdx_lt_length] at h
    have : l.any p = false := by
      rw [Bool.eq_false_iff]; intro h'; rw [List.any_eq_true] at h'; exact h h'
    rw [this]; simp
theorem rd43_get (l : List S43) (k : Nat) (hk : k < l.length) : rd_T43 l (k : Int) = l[k] := by
  unfold rd_T43; simp [hk]

set_option maxHeartbeats 2000000 in
theorem index43 (A0 : Option Addr) (c0 : Nat) (l0 : List S43) (g : Nat) (lb : Array Value) (p : S43 → Bool) (eg : ∀ args w, (callFunc g args).run Try.prog w = .ok (.enter g args) w) (w : World)
    (hr0 : Kd.C k43 w A0 l0.length l0) (hp : PredB g lb enc43 p l0 w) :
    Calls Try.prog 98 #[.slice A0 l0.length c0, .func (.func g) #[] lb] w fun e w' => e = .returned (.int .i64 (idxI p l0)) ∧ Below w.heap.size w w' := by
  have hu43 := Try.underlying43
  have HR0 := Aside0.mk hr0
  have HP := Aside0.mk hp
  have hmax := Kd.C_max hr0
  clear hr0 hp
  go_enter Try.func98, Try.ntmps98
  go_wp2
  go_loopg [5, 8] l0.length (fun gg _ s8 wr => ∃ kk : Nat, kk ≤ l0.length ∧ l0.length - kk ≤ gg ∧ s8 = .int .i64 kk ∧ Aside0 (Below w.heap.size w wr) ∧ Aside0 (∀ j (hj : j < kk) (hl : j < l0.length), p l0[j] = false))
  case atStart => exact ⟨0, Nat.zero_le _, by omega, rfl, ⟨Below.refl _ w⟩, ⟨fun j hj => absurd hj (Nat.not_lt_zero _)⟩⟩
  case round =>
    obtain ⟨kk, hkk, hg, rfl, HB, HA⟩ := hrel
    by_cases hlt : kk < l0.length
    · have hltz : (kk : Int) < (l0.length : Int) := by omega
      have hq0 : (0 : Int) ≤ (kk : Int) := by omega
      obtain ⟨ad, e1, hx0, hx1⟩ := at_T43 (Kd.C_below HR0.out HB.out) (kk : Int) hq0 hltz
      cases e1
      rw [rd43_get l0 kk hlt] at hx0 hx1
      have hcall := HP.out wr l0[kk] (List.getElem_mem hlt) HB.out
      have hhit := fun h => idxI_hit (p := p) hlt h (fun j hj => HA.out j hj (by omega))
      have Hhit := Aside0.mk hhit
      clear hhit
      unfold enc43 at hcall
      generalize hy : l0[kk] = y at hx0 hx1 hcall Hhit
      have HY := Aside0.mk hy
      clear hy
      simp only [Int.toNat_natCast] at hx0 hx1
      cases hq : p y with
      | true =>
        rw [hq] at hcall
        go_wp2_with fail
        with_reducible refine hcall.mono ?_
        rintro e w' ⟨rfl, hb'⟩
        go_wp2_with fail
        go_ret
        exact ⟨by rw [Hhit.out hq]; rfl, below_step HB.out hb'⟩
      | false =>
        rw [hq] at hcall
        go_wp2_with fail
        with_reducible refine hcall.mono ?_
        rintro e w' ⟨rfl, hb'⟩
        go_wp2_with fail
        go_roundg (l0.length - (kk + 1))
        case measure => omega
        case rel =>
          refine ⟨kk + 1, by omega, by omega, by go_num, ⟨below_step HB.out hb'⟩, ⟨fun j hj hl => ?_⟩⟩
          by_cases e : j = kk
          · subst e
            rw [HY.out]; exact hq
          · exact HA.out j (by omega) hl
    · have hltz : ¬ (kk : Int) < (l0.length : Int) := by omega
      have : kk = l0.length := by omega
      have HK := Aside0.mk this
      clear this
      go_wp2
      go_ret
      exact ⟨by rw [idxI_miss (fun j hj => HA.out j (by rw [HK.out]; exact hj) hj)]; rfl, HB.out⟩

set_option maxHeartbeats 2000000 in
theorem contains43 (A0 : Option Addr) (c0 : Nat) (l0 : List S43) (g : Nat) (lb : Array Value) (p : S43 → Bool) (eg : ∀ args w, (callFunc g args).run Try.prog w = .ok (.enter g args) w) (w : World)
    (hr0 : Kd.C k43 w A0 l0.length l0) (hp : PredB g lb enc43 p l0 w) :
    Calls Try.prog 101 #[.slice A0 l0.length c0, .func (.func g) #[] lb] w fun e w' => e = .returned (.bool (l0.any p)) ∧ Below w.heap.size w w' := by
  have HR0 := Aside0.mk hr0
  have HP := Aside0.mk hp
  clear hr0 hp
  go_enter Try.func101, Try.ntmps101
  go_wp2_with (go_at_call 98; refine (index43 A0 c0 l0 g lb p eg _ HR0.out HP.out).mono ?_; rintro e w' ⟨rfl, hb'⟩)
  go_ret
  exact ⟨by rw [← idxI_any]; rfl, hb'⟩
end Go.Proofs.Ythlbjdiicmojfaa.P

/-! Part H79. -/
namespace Go.Proofs.Ythlbjdiicmojfaa.P
open Go.RowKit Go.Proofs.YthlbjdiicmojfaaW.PrintWords Go.Proofs.YthlbjdiicmojfaaW.PrintLast Go.Proofs.YthlbjdiicmojfaaW.PrintMore
set_option linter.unusedVariables false

def encI (n : Int) : Value := .int .i64 n
theorem rdI_get (l : List Int) (k : Nat) (hk : k < l.length) : rd l (k : Int) = l[k] := by
  unfold rd; simp [hk]
theorem within_eq (n lo hi : Int) : secret_within.f n lo hi = some (decide (lo ≤ n) && decide (n ≤ hi)) := by
  unfold secret_within.f
  split
  · rename_i h; simp [show lo ≤ n from h]
  · rename_i h; simp [show ¬ lo ≤ n from h]
theorem isNumber_eq (n : Int) : secret_isNumber.f n = some (num n) := by
  unfold secret_isNumber.f; rw [within_eq]; rfl

set_option maxHeartbeats 2000000 in
theorem indexI (A0 : Option Addr) (c0 : Nat) (l0 : List Int) (g : Nat) (lb : Array Value) (p : Int → Bool) (eg : ∀ args w, (callFunc g args).run Try.prog w = .ok (.enter g args) w) (w : World)
    (hr0 : Kd.C (Kd.int .i64) w A0 l0.length l0) (hp : PredB g lb encI p l0 w) :
    Calls Try.prog 115 #[.slice A0 l0.length c0, .func (.func g) #[] lb] w fun e w' => e = .returned (.int .i64 (idxI p l0)) ∧ Below w.heap.size w w' := by
  have HR0 := Aside0.mk hr0
  have HP := Aside0.mk hp
  have hmax := Kd.C_max hr0
  clear hr0 hp
  go_enter Try.func115, Try.ntmps115
  go_wp2
  go_loopg [5, 8] l0.length (fun gg _ s8 wr => ∃ kk : Nat, kk ≤ l0.length ∧ l0.length - kk ≤ gg ∧ s8 = .int .i64 kk ∧ Aside0 (Below w.heap.size w wr) ∧ Aside0 (∀ j (hj : j < kk) (hl : j < l0.length), p l0[j] = false))
  case atStart => exact ⟨0, Nat.zero_le _, by omega, rfl, ⟨Below.refl _ w⟩, ⟨fun j hj => absurd hj (Nat.not_lt_zero _)⟩⟩
  case round =>
    obtain ⟨kk, hkk, hg, rfl, HB, HA⟩ := hrel
    by_cases hlt : kk < l0.length
    · have hltz : (kk : Int) < (l0.length : Int) := by omega
      have hq0 : (0 : Int) ≤ (kk : Int) := by omega
      obtain ⟨ad, e1, hx0⟩ := Kd.at_int (Kd.C_below HR0.out HB.out) (kk : Int) hq0 hltz
      cases e1
      rw [rdI_get l0 kk hlt] at hx0
      have hcall := HP.out wr l0[kk] (List.getElem_mem hlt) HB.out
      have hhit := fun h => idxI_hit (p := p) hlt h (fun j hj => HA.out j hj (by omega))
      have Hhit := Aside0.mk hhit
      clear hhit
      unfold encI at hcall
      generalize hy : l0[kk] = y at hx0 hcall Hhit
      have HY := Aside0.mk hy
      clear hy
      simp only [Int.toNat_natCast] at hx0
      cases hq : p y with
      | true =>
        rw [hq] at hcall
        go_wp2_with fail
        with_reducible refine hcall.mono ?_
        rintro e w' ⟨rfl, hb'⟩
        go_wp2_with fail
        go_ret
        exact ⟨by rw [Hhit.out hq]; rfl, below_step HB.out hb'⟩
      | false =>
        rw [hq] at hcall
        go_wp2_with fail
        with_reducible refine hcall.mono ?_
        rintro e w' ⟨rfl, hb'⟩
        go_wp2_with fail
        go_roundg (l0.length - (kk + 1))
        case measure => omega
        case rel =>
          refine ⟨kk + 1, by omega, by omega, by go_num, ⟨below_step HB.out hb'⟩, ⟨fun j hj hl => ?_⟩⟩
          by_cases e : j = kk
          · subst e
            rw [HY.out]; exact hq
          · exact HA.out j (by omega) hl
    · have hltz : ¬ (kk : Int) < (l0.length : Int) := by omega
      have : kk = l0.length := by omega
      have HK := Aside0.mk this
      clear this
      go_wp2
      go_ret
      exact ⟨by rw [idxI_miss (fun j hj => HA.out j (by rw [HK.out]; exact hj) hj)]; rfl, HB.out⟩

set_option maxHeartbeats 2000000 in
theorem containsI (A0 : Option Addr) (c0 : Nat) (l0 : List Int) (g : Nat) (lb : Array Value) (p : Int → Bool) (eg : ∀ args w, (callFunc g args).run Try.prog w = .ok (.enter g args) w) (w : World)
    (hr0 : Kd.C (Kd.int .i64) w A0 l0.length l0) (hp : PredB g lb encI p l0 w) :
    Calls Try.prog 110 #[.slice A0 l0.length c0, .func (.func g) #[] lb] w fun e w' => e = .returned (.bool (l0.any p)) ∧ Below w.heap.size w w' := by
  have HR0 := Aside0.mk hr0
  have HP := Aside0.mk hp
  clear hr0 hp
  go_enter Try.func110, Try.ntmps110
  go_wp2_with (go_at_call 115; refine (indexI A0 c0 l0 g lb p eg _ HR0.out HP.out).mono ?_; rintro e w' ⟨rfl, hb'⟩)
  go_ret
  exact ⟨by rw [← idxI_any]; rfl, hb'⟩

set_option maxHeartbeats 2000000 in
theorem notNumber (n : Int) (w : World) : Calls Try.prog 111 #[.int .i64 n] w fun e w' => e = .returned (.bool (!num n)) ∧ Below w.heap.size w w' := by
  go_enter Try.func111, Try.ntmps111
  go_wp2_with fail
  with_reducible refine (secret_isNumber.calls n _ w (isNumber_eq n)).mono ?_
  rintro e w' ⟨rfl, ⟨nd, rfl⟩⟩
  go_wp2_with fail
  go_ret
  exact ⟨rfl, pw_below_drewN (Below.refl _ _) _⟩

theorem eg111 : ∀ args w, (callFunc 111 args).run Try.prog w = .ok (.enter 111 args) w := enters_of Try.func111 (by kernel_rfl) rfl

theorem curveErr_large {c : List Int} (h : (decide ((1 : Int) ≤ c.length) && decide ((c.length : Int) ≤ 6)) = false) : curveErr c = 3 := by
  unfold curveErr
  rw [if_neg]
  simp at h
  omega
theorem curveErr_in {c : List Int} (h : (decide ((1 : Int) ≤ c.length) && decide ((c.length : Int) ≤ 6)) = true) : curveErr c = if (c.any fun n => !num n) = true then 1 else 0 := by
  unfold curveErr
  simp at h
  rw [if_pos (by omega)]
  cases hb : c.all num with
  | true =>
    have : (c.any fun n => !num n) = false := by
      rw [Bool.eq_false_iff]; intro h'; rw [List.any_eq_true] at h'; obtain ⟨x, hx, hn⟩ := h'
      rw [List.all_eq_true] at hb; simp [hb x hx] at hn
    simp [this]
  | false =>
    have : (c.any fun n => !num n) = true := by
      rw [List.all_eq_false] at hb; obtain ⟨x, hx, hn⟩ := hb
      rw [List.any_eq_true]; exact ⟨x, hx, by simpa using hn⟩
    simp [this]

set_option maxHeartbeats 2000000 in
theorem secret_isCurve.calls (A0 : Option Addr) (c0 : Nat) (l0 : List Int) (r : Int) (w : World) (hr0 : Kd.C (Kd.int .i64) w A0 l0.length l0) (hc0 : l0.length ≤ c0) (h : secret_isCurve.f l0 = some r) :
    Calls Try.prog 79 #[.slice A0 l0.length c0] w fun e w' => e = .returned (.int .i64 r) ∧ Below w.heap.size w w' := by
  have hr : curveErr l0 = r := Option.some.inj h
  have HR := Aside0.mk hr
  have HR0 := Aside0.mk hr0
  clear h hr hr0 hc0
  cases hw : (decide ((1 : Int) ≤ l0.length) && decide ((l0.length : Int) ≤ 6)) with
  | false =>
    have HE := Aside0.mk (curveErr_large hw)
    have HW := within_eq (l0.length : Int) 1 6
    rw [hw] at HW
    have HW := Aside0.mk HW
    clear hw
    go_enter Try.func79, Try.ntmps79
    go_wp2_with fail
    with_reducible refine (secret_within.calls _ _ _ _ _ HW.out).mono ?_
    rintro e w' ⟨rfl, ⟨nd, rfl⟩⟩
    go_wp2_with fail
    go_ret
    exact ⟨by rw [← HR.out, HE.out]; rfl, pw_below_drewN (Below.refl _ _) _⟩
  | true =>
    have HE := Aside0.mk (curveErr_in hw)
    have HW := within_eq (l0.length : Int) 1 6
    rw [hw] at HW
    have HW := Aside0.mk HW
    clear hw
    have hp : ∀ W, PredB 111 #[] encI (fun n => !num n) l0 W := fun W0 W x _ _ => notNumber x W
    have HP := Aside0.mk hp
    clear hp
    go_enter Try.func79, Try.ntmps79
    go_wp2_with fail
    with_reducible refine (secret_within.calls _ _ _ _ _ HW.out).mono ?_
    rintro e w' ⟨rfl, ⟨nd, rfl⟩⟩
    go_wp2_with fail
    with_reducible refine (containsI A0 c0 l0 111 #[] _ eg111 _ (Kd.C_drewN HR0.out nd) (HP.out _)).mono ?_
    rintro e w' ⟨rfl, hb⟩
    have HB := Aside0.mk (below_step (pw_below_drewN (Below.refl w.heap.size w) nd) hb)
    clear hb
    cases hq : (l0.any fun n => !num n) with
    | true =>
      go_wp2_with fail
      go_ret
      exact ⟨by rw [← HR.out, HE.out, hq]; rfl, HB.out⟩
    | false =>
      go_wp2_with fail
      go_ret
      exact ⟨by rw [← HR.out, HE.out, hq]; rfl, HB.out⟩
end Go.Proofs.Ythlbjdiicmojfaa.P

/-! Part H80. -/
namespace Go.Proofs.Ythlbjdiicmojfaa.P
open Go.RowKit Go.Shelf Go.Proofs.YthlbjdiicmojfaaW.PrintWords Go.Proofs.YthlbjdiicmojfaaW.PrintLast Go.Proofs.YthlbjdiicmojfaaW.PrintMore
attribute [local go_sem] Oper.semAt_some
set_option linter.unusedVariables false

/-- A number with its proof: what the loop's body is handed. -/
abbrev Nm := { n : Int // num n = true }
abbrev Ix2 := Int × Nm
def vals (zs : List Nm) : List Int := zs.map fun z => z.1
def val2 (p : Ix2) : Int := p.2.1
/-- What a round keeps: all below n, and block B. -/
def KpB (n B : Nat) (A C : World) : Prop := Below n A C ∧ C.heap[B]? = A.heap[B]?
theorem KpB.t {n B : Nat} {A C D : World} (h : KpB n B A C) (k : KpB n B C D) : KpB n B A D := ⟨h.1.trans k.1, k.2.trans h.2⟩

set_option maxRecDepth 100000 in
set_option maxHeartbeats 2000000 in
theorem back1_in (F : Fence) (n : Nat) (h116 : F.fn 116) (hro : F.round = none) (hn : 1 ≤ n) (l Bs : Nat) (w0 : World) (A : Option Addr) (cap : Nat) (zs : List Nm) (hC : Kd.C (Kd.int .i64) w0 A (vals zs).length (vals zs))
    (J Jx : List Ix2 → World → Prop)
    (hY : ∀ pre x W, J pre W → pre.length < zs.length → YieldAt F (n - 1) Try.prog l #[.int .i64 x.1, .int .i64 x.2.1] W fun e W' =>
      (e = .returned (.bool true) ∧ J (pre ++ [x]) W' ∧ KpB w0.heap.size Bs W W') ∨ (e = .returned (.bool false) ∧ Jx (pre ++ [x]) W'))
    (W : World) (hBs : W.heap[Bs]? = some (.cells #[.slice A zs.length cap] 68 (0, 0))) (hW : Below w0.heap.size w0 W) (h0 : J [] W) :
    CallsIn F n Try.prog 116 #[.func (.yield l) #[] #[], .pointer (some ⟨Bs, 0, none⟩)] W fun e W' => (∃ v, e = .returned v) ∧
      ((∃ ys, ys.map val2 = (vals zs).reverse ∧ J ys W') ∨ (∃ pre, True ∧ Jx pre W')) := by
  have hlen : (vals zs).length = zs.length := by simp [vals]
  have hmax := Kd.C_max hC
  rw [hlen] at hmax
  refine callsIn_of_wp Try.func116 rfl h116 ?_ hro
  simp only [Try.ntmps116, List.size_toArray, List.length_cons, List.length_nil, Nat.reduceAdd, Nat.reduceSub, Array.replicate_succ, Array.replicate_zero, List.push_toArray, List.append_toArray, List.nil_append, List.cons_append]
  have hcs : W.cell? ⟨Bs, 0, none⟩ = some (.slice A zs.length cap) := blk_cell hBs 0
  have HBs := Aside0.mk hBs
  have HL := Aside0.mk hlen
  have HC := Aside0.mk hC
  have HW := Aside0.mk hW
  clear hBs hlen hC hW
  gi_wp2
  gi_loopw [3] (fun i wr => ∃ (m : Nat) (pre : List Ix2), m ≤ zs.length ∧ i = .int .i64 ((m : Int) - 1) ∧ Aside0 (pre.map val2 = ((vals zs).drop m).reverse) ∧ J pre wr ∧ Aside0 (KpB w0.heap.size Bs W wr))
    (fun i _ => (intOf i + 1).toNat)
  case atStart => exact ⟨zs.length, [], Nat.le_refl _, rfl, ⟨by rw [List.drop_of_length_le (by rw [HL.out]; exact Nat.le_refl _)]; rfl⟩, h0, ⟨Below.refl _ _, rfl⟩⟩
  case round =>
    clear hcs
    obtain ⟨m, pre, hm, rfl, HP, hJs, HK⟩ := hrel
    have hcs : wr.cell? ⟨Bs, 0, none⟩ = some (.slice A zs.length cap) := blk_cell (HK.out.2.trans HBs.out) 0
    cases m with
    | zero =>
      gi_wp2
      go_end0
      exact ⟨⟨_, rfl⟩, .inl ⟨pre, by rw [HP.out]; rfl, hJs⟩⟩
    | succ m =>
      have hlt : m < zs.length := by omega
      have hplen : pre.length < zs.length := by
        have h1 := congrArg List.length HP.out
        rw [List.length_map, List.length_reverse, List.length_drop, HL.out] at h1
        omega
      obtain ⟨fn, tmps, assign, body, hy, hR⟩ := hY pre ((m : Int), zs[m]) wr hJs hplen
      dsimp only at hy
      have HM : Aside0 (((pre ++ [((m : Int), zs[m])]).map val2) = ((vals zs).drop m).reverse) := ⟨by
        rw [List.map_append, HP.out, List.drop_eq_getElem_cons (l := vals zs) (i := m) (by rw [HL.out]; exact hlt), List.reverse_cons]
        simp [vals, val2]⟩
      have hltz : (m : Int) < ((vals zs).length : Int) := by rw [HL.out]; omega
      obtain ⟨ad, e1, hx0⟩ := Kd.at_int (Kd.C_below HC.out (HW.out.trans HK.out.1)) (m : Int) (by omega) hltz
      subst e1
      have hrd : rd (vals zs) (m : Int) = zs[m].1 := by simp [rd, vals, hlt]
      rw [hrd] at hx0
      simp only [Int.toNat_natCast] at hx0
      clear hrd hltz hplen
      rw [show ((m + 1 : Nat) : Int) - 1 = (m : Int) by omega]
      gi_wp2
      refine hR.mono ?_
      rintro e W3 (⟨rfl, hJ3, hk3⟩ | ⟨rfl, hJx3⟩)
      · have HK3 := Aside0.mk (HK.out.t hk3)
        clear hk3
        gi_wp2
        go_roundw
        case rel => exact ⟨m, _, by omega, rfl, HM, hJ3, HK3⟩
        case measure => simp [intOf]
      · gi_wp2
        refine bodyPost_ret (results_none rfl _ _ _) rfl ?_
        exact ⟨⟨_, rfl⟩, .inr ⟨_, trivial, hJx3⟩⟩

set_option maxHeartbeats 1000000 in
theorem back_in (F : Fence) (n : Nat) (h112 : F.fn 112) (hro : F.round = none) (a : Option Addr) (len cap : Nat) (w : World) :
    CallsIn F n Try.prog 112 #[.slice a len cap] w fun e w' => e = .returned (.func (.func 116) #[] #[.pointer (some ⟨w.heap.size, 0, none⟩)]) ∧ w' = w.alloc (.cells #[.slice a len cap] 68) := by
  refine callsIn_of_wp Try.func112 rfl h112 ?_ hro
  simp only [Try.ntmps112, List.size_toArray, List.length_cons, List.length_nil, Nat.reduceAdd, Nat.reduceSub, Array.replicate_succ, Array.replicate_zero, List.push_toArray, List.append_toArray, List.nil_append, List.cons_append]
  gi_wp2
  go_ret
  exact ⟨rfl, rfl⟩

theorem back_stops (F : Fence) (n : Nat) (h116 : F.fn 116) (hro : F.round = none) (hn : 1 ≤ n) (Bs : Nat) (w0 : World) (A : Option Addr) (cap : Nat) (zs : List Nm) (hC : Kd.C (Kd.int .i64) w0 A (vals zs).length (vals zs))
    (w : World) (hBs : w.heap[Bs]? = some (.cells #[.slice A zs.length cap] 68 (0, 0))) (hw : Below w0.heap.size w0 w) :
    SeqStopsK F n Try.prog 116 #[.pointer (some ⟨Bs, 0, none⟩)] (fun x : Ix2 => #[Value.int .i64 x.1, Value.int .i64 x.2.1]) (KpB w0.heap.size Bs) (fun ys => ys.map val2 = (vals zs).reverse) (fun _ => True) zs.length w :=
  fun l J Jx W hW _ _ hY h0 => back1_in F n h116 hro hn l Bs w0 A cap zs hC J Jx hY W ((hW.block Bs (blk_lt hBs)).trans hBs) (hw.trans (hW.mono hw.size)) h0

/-- The fold of a curve's numbers, the highest first. -/
def foldX (x : Int) (pre : List Ix2) : Int := pre.foldl (fun acc p => (acc * x + p.2.1) % 251) 0
theorem foldX_snoc (x : Int) (pre : List Ix2) (p : Ix2) : foldX x (pre ++ [p]) = (foldX x pre * x + p.2.1) % 251 := by simp [foldX]
theorem foldX_range (x : Int) (pre : List Ix2) : 0 ≤ foldX x pre ∧ foldX x pre ≤ 250 := by
  rcases List.eq_nil_or_concat pre with rfl | ⟨q, p, rfl⟩
  · exact ⟨Int.le_refl _, by show (0 : Int) ≤ 250; omega⟩
  · rw [List.concat_eq_append, foldX_snoc]; omega
theorem foldX_atI (x : Int) (zs : List Nm) (ys : List Ix2) (h : ys.map val2 = (vals zs).reverse) : foldX x ys = atI (vals zs) x := by
  unfold atI
  rw [← List.reverse_reverse (vals zs), List.foldr_reverse, ← h, List.foldl_map]
  rfl

set_option maxRecDepth 100000 in
set_option maxHeartbeats 4000000 in
theorem at_in (F : Fence) (n : Nat) (h80 : F.fn 80) (h96 : F.fn 96) (h112 : F.fn 112) (h116 : F.fn 116) (hro : F.round = none) (hn : 3 ≤ n) (A : Option Addr) (cap : Nat) (x : Int) (hx : num x = true) (zs : List Nm) (w : World) (hC : Kd.C (Kd.int .i64) w A (vals zs).length (vals zs))
    (hrest : ∀ a W, CallsIn F (n - 1 - 1 - 1) Try.prog 96 #[.int .i64 a] W fun e W' => e = .returned (.int .i64 (a % 251)) ∧ Drawn0 W W') :
    CallsIn F n Try.prog 80 #[.slice A zs.length cap, .int .i64 x] w fun e W' => e = .returned (.int .i64 (atI (vals zs) x)) ∧ Below w.heap.size w W' := by
  have h1 : 1 ≤ n := by omega
  refine callsIn_of_wp_marks Try.func80 rfl h80 ?_ hro
  simp only [Try.ntmps80, List.size_toArray, List.length_cons, List.length_nil, Nat.reduceAdd, Nat.reduceSub, Array.replicate_succ, Array.replicate_zero, List.push_toArray, List.append_toArray, List.nil_append, List.cons_append]
  gi_wp2_with (gi_at_call 112; refine (back_in F (n - 1) h112 hro _ _ _ _).mono ?_; rintro e w' ⟨rfl, rfl⟩)
  have bX := ((Boxed.new w 3 (.int .i64 x)).alloc (.cells #[.int .i64 0] 3)).alloc (.cells #[.slice A zs.length cap] 68)
  have bO := (Boxed.new (w.alloc (.cells #[.int .i64 x] 3)) 3 (.int .i64 0)).alloc (.cells #[.slice A zs.length cap] 68)
  have bS := Boxed.new ((w.alloc (.cells #[.int .i64 x] 3)).alloc (.cells #[.int .i64 0] 3)) 68 (.slice A zs.length cap)
  rw [World.size_alloc] at bO
  rw [World.size_alloc, World.size_alloc] at bS
  have hB0 : Below w.heap.size w (((w.alloc (.cells #[.int .i64 x] 3)).alloc (.cells #[.int .i64 0] 3)).alloc (.cells #[.slice A zs.length cap] 68)) := below_alloc (below_alloc (below_alloc (Below.refl _ w) _) _) _
  have hsz : (((w.alloc (.cells #[.int .i64 x] 3)).alloc (.cells #[.int .i64 0] 3)).alloc (.cells #[.slice A zs.length cap] 68)).heap.size = w.heap.size + 1 + 1 + 1 := by rw [World.size_alloc, World.size_alloc, World.size_alloc]
  obtain ⟨W3, hW3⟩ : ∃ W3, (((w.alloc (.cells #[.int .i64 x] 3)).alloc (.cells #[.int .i64 0] 3)).alloc (.cells #[.slice A zs.length cap] 68)) = W3 := ⟨_, rfl⟩
  rw [hW3] at bX bO bS hB0 hsz ⊢
  clear hW3
  have hx2 := num_iff.1 hx
  refine wpIn_rangeFunc_ownG hro h1 (gf := 116) (lb := #[.pointer (some ⟨w.heap.size + 1 + 1, 0, none⟩)]) rfl h116 (enters_of Try.func116 (by kernel_rfl) rfl)
    (back_stops F (n - 1) h116 hro (by omega) (w.heap.size + 1 + 1) w A cap zs hC W3 bS hB0) KpB.t
    (fun W l o o' hl h1 h2 h3 => ⟨belowK_b (w := W3) (by omega) W l o o' hl h1 h2 h3, World.putObj_heap_other (by omega)⟩) (Below.refl _ _) (fun _ => rfl)
    (fun pre W => (Boxed W (w.heap.size + 1) 3 (.int .i64 (foldX x pre)) ∧ Boxed W w.heap.size 3 (.int .i64 x)) ∧ Below w.heap.size w W)
    (fun _ _ _ => False)
    (OwnFrom.and (Own.from (fun s A B row hs hg hr => ⟨hs.1.kept hg (fun e => by obtain ⟨o, ho, hc⟩ := hr _ e.symm; rw [show A.heap[_]? = _ from hs.1] at ho; cases ho; cases hc), hs.2.kept hg (fun e => by obtain ⟨o, ho, hc⟩ := hr _ e.symm; rw [show A.heap[_]? = _ from hs.2] at ho; cases ho; cases hc)⟩) _) (ownFrom_below (Nat.le_refl _) (by omega)))
    (fun _ _ _ _ _ hs _ _ => hs)
    ⟨⟨bO, bX⟩, hB0⟩
    (fun p => { tmps := #[.slice A zs.length cap, .int .i64 x, undef, .pointer (some ⟨w.heap.size, 0, none⟩), .int .i64 0, .pointer (some ⟨w.heap.size + 1, 0, none⟩), undef, .int .i64 p.2.1, .slice A zs.length cap, .func (.func 116) #[] #[.pointer (some ⟨w.heap.size + 1 + 1, 0, none⟩)], .int .i64 p.1, .int .i64 p.2.1, undef, undef, undef, undef, undef, undef, undef], defers := [] }) ?assign ?body ?done ?stop
  case assign =>
    intro l p W K hK
    gi_wp2
    exact hK
  case body =>
    rintro l pre p W ⟨⟨hO, hX⟩, hB⟩ _
    have hcO := hO.cell
    have hfO := hO.frozen
    have hcX := hX.cell
    have HO := Aside0.mk hO
    have HX := Aside0.mk hX
    have HBB := Aside0.mk hB
    clear hO hX hB
    have hf := foldX_range x pre
    have hm := mul_range hf.1 hf.2 hx2.1 hx2.2
    have hp := num_iff.1 p.2.2
    obtain ⟨hm0, hm1⟩ := hm
    obtain ⟨hp0, hp1⟩ := hp
    have HF := Aside0.mk (foldX_snoc x pre p)
    clear hf
    have h11 : 1 ≤ n - 1 - 1 := by omega
    gi_wp2_with fail
    refine (CallsIn.inRound l (hrest _ _)).mono ?_
    rintro e w' ⟨rfl, ⟨nd, rfl⟩⟩
    gi_wp2_with fail
    have hKd : KeepsOthers W (W.drewN nd) := ⟨Nat.le_refl _, fun _ _ h _ => h⟩
    have hOd : Boxed (W.drewN nd) (w.heap.size + 1) 3 (.int .i64 (foldX x pre)) := HO.out
    have hXd : Boxed (W.drewN nd) w.heap.size 3 (.int .i64 x) := HX.out
    have hBd : Below w.heap.size w (W.drewN nd) := pw_below_drewN HBB.out nd
    refine ⟨(hKd.trans (KeepsOthers.setCell _ _ _)).from _, ⟨(pw_below_drewN (Below.refl _ W) nd).setCell (p := ⟨w.heap.size + 1, 0, none⟩) (Nat.le_succ _) _, ?_⟩, ⟨?_, ?_⟩, ?_⟩
    · exact Below.heap_setCell (W.drewN nd) ⟨w.heap.size + 1, 0, none⟩ _ _ (show w.heap.size + 1 + 1 ≠ w.heap.size + 1 by omega)
    · rw [HF.out]; exact hOd.set _
    · exact (Below.heap_setCell (W.drewN nd) ⟨w.heap.size + 1, 0, none⟩ _ _ (show w.heap.size ≠ w.heap.size + 1 by omega)).trans hXd
    · exact hBd.setCell (p := ⟨w.heap.size + 1, 0, none⟩) (Nat.le_succ _) _
  case done =>
    rintro D ys W hD hys ⟨⟨hO, hX⟩, hB⟩ hK
    have hcO := hO.cell
    gi_wp2
    refine ⟨by simp, .inl ⟨_, _, rfl, run_takeDeferred hK, ?_⟩⟩
    exact ⟨_, results_tmp rfl _ _ _, by rw [← foldX_atI x zs ys hys]; rfl, hB.trans (belowK_b (w := w) (Nat.le_refl _) W D _ _ (by omega) hK rfl rfl)⟩
  case stop =>
    rintro D c pre W _ _ h _
    exact h.elim

theorem exists_nm : ∀ (c : List Int), (∀ n ∈ c, num n = true) → ∃ zs : List Nm, vals zs = c
  | [], _ => ⟨[], rfl⟩
  | n :: c, h => by
    obtain ⟨zs, hz⟩ := exists_nm c (fun m hm => h m (List.mem_cons_of_mem _ hm))
    exact ⟨⟨n, h n List.mem_cons_self⟩ :: zs, congrArg (List.cons n) hz⟩

theorem secret_curve_at.calls (A0 : Option Addr) (c0 : Nat) (l0 : List Int) (a1 : Int) (r : Int) (w : World) (hr0 : Kd.C (Kd.int .i64) w A0 l0.length l0) (hc0 : l0.length ≤ c0) (h : secret_curve_at.f l0 a1 = some r) :
    Calls Try.prog 80 #[.slice A0 l0.length c0, .int .i64 a1] w fun e w' => e = .returned (.int .i64 r) ∧ Below w.heap.size w w' := by
  unfold secret_curve_at.f at h
  split at h
  · rename_i hg
    simp only [Bool.and_eq_true, List.all_eq_true, decide_eq_true_eq] at hg
    obtain ⟨⟨ha, hx⟩, _⟩ := hg
    obtain ⟨zs, rfl⟩ := exists_nm l0 ha
    obtain rfl := Option.some.inj h
    have hlen : (vals zs).length = zs.length := by simp [vals]
    have hin := at_in Fence.wide 3 trivial trivial trivial trivial rfl (Nat.le_refl _) A0 c0 a1 hx zs w hr0 (fun a W => callsIn_wide.2 (secret_rest.calls a _ W (rest_eq a)))
    rw [hlen]
    exact callsIn_wide.1 hin
  · cases h
end Go.Proofs.Ythlbjdiicmojfaa.P

/-! Part PF44. -/
-- Written for this claim by wip/print_more.py (a session's program that runs the kit's printer with hand-proved functions beside). Lean checks it.
namespace Go.Proofs.Ythlbjdiicmojfaa.P
open Go.RowKit Go.Proofs.YthlbjdiicmojfaaW.PrintWords Go.Proofs.YthlbjdiicmojfaaW.PrintLast Go.Proofs.YthlbjdiicmojfaaW.PrintMore
attribute [local go_sem] max2_int min2_int max_two min_two max_three min_three max_four min_four   -- for this text's walks alone
set_option linter.unusedVariables false
set_option linter.unusedSimpArgs false

/-! ### secret_At: function 44 -/
def secret_At.f (l0 : List Int) (a1 : Int) : Option (Int × Int) := (secret_isCurve.f l0).bind fun t220 => (if t220 = 0 then ((secret_isNumber.f a1).bind fun t221 => (if t221 = true then ((secret_curve_at.f l0 a1).bind fun t222 => (some (t222, 0))) else (some (0, 1)))) else (some (0, t220)))
set_option maxHeartbeats 8000000 in
set_option maxRecDepth 100000 in
theorem secret_At.calls (A0 : Option Addr) (c0 : Nat) (l0 : List Int) (a1 : Int) (r1 : Int) (r2 : Int) (w : World) (hr0 : Kd.C (Kd.int .i64) w A0 l0.length l0) (hc0 : l0.length ≤ c0) (h : secret_At.f l0 a1 = some (r1, r2)) :
    Calls Try.prog 44 #[.slice A0 l0.length c0, .int .i64 a1] w fun e w' => e = .returned (.tuple #[.int .i64 r1, .int .i64 r2]) ∧ Below w.heap.size w w' := by
  have HR0 := Aside0.mk hr0
  have HC0 := Aside0.mk hc0
  clear hr0 hc0
  have HB := Aside0.mk (Below.refl w.heap.size w)
  have H : ((secret_isCurve.f l0).bind fun t220 => (if t220 = 0 then ((secret_isNumber.f a1).bind fun t221 => (if t221 = true then ((secret_curve_at.f l0 a1).bind fun t222 => (some (t222, 0))) else (some (0, 1)))) else (some (0, t220)))) = some (r1, r2) := h
  clear h
  replace H := Option.bind_eq_some_iff.mp H
  obtain ⟨t220, A30, H⟩ := H
  replace H : (if t220 = 0 then ((secret_isNumber.f a1).bind fun t221 => (if t221 = true then ((secret_curve_at.f l0 a1).bind fun t222 => (some (t222, 0))) else (some (0, 1)))) else (some (0, t220))) = some (r1, r2) := H
  have A3 := Aside0.mk A30
  clear A30
  by_cases c4 : t220 = 0
  · rw [if_pos c4] at H
    have c4b0 : (t220 == 0) = true := beq_iff_eq.mpr c4
    have c4b1 : (t220 != 0) = false := bne_eq_false_iff_eq.mpr c4
    clear c4
    replace H := Option.bind_eq_some_iff.mp H
    obtain ⟨t221, A50, H⟩ := H
    replace H : (if t221 = true then ((secret_curve_at.f l0 a1).bind fun t222 => (some (t222, 0))) else (some (0, 1))) = some (r1, r2) := H
    have A5 := Aside0.mk A50
    clear A50
    by_cases c6 : t221 = true
    · subst c6
      have H1 : ((secret_curve_at.f l0 a1).bind fun t222 => (some (t222, 0))) = some (r1, r2) := by rw [if_pos rfl] at H; exact H
      clear H
      have H := H1
      clear H1
      replace H := Option.bind_eq_some_iff.mp H
      obtain ⟨t222, A70, H⟩ := H
      replace H : (some (t222, 0)) = some (r1, r2) := H
      have A7 := Aside0.mk A70
      clear A70
      simp only [Option.some.injEq, Prod.mk.injEq] at H
      obtain ⟨rfl, rfl⟩ := H
      go_enter Try.func44, Try.ntmps44
      go_wp2_with (first | ((with_reducible refine gate_callee (f := 79) rfl ?_); refine goesL_ (some 8) rfl rfl Try.func79 (by kernel_rfl) rfl #[.slice A0 l0.length c0] rfl (by (try simp only [List.map_toArray, List.map_cons, List.map_nil]); first | done | rfl | (simp only [List.length_drop, List.length_take]; rfl)) ?_; (with_reducible refine (secret_isCurve.calls _ _ l0 t220 _ ?side1 ?side2 A3.out).mono ?_); (case side1 => repeat (first | exact HR0.out | (with_reducible refine Kd.C_alloc ?_ _) | (with_reducible refine Kd.C_drewN ?_ _) | (with_reducible refine Kd.C_drew ?_))); (case side2 => exact HC0.out); rintro e w8 ⟨rfl, hb⟩; refine ⟨_, rfl, ?_⟩; have n0_ := Aside0.mk (below_step (by repeat (first | (with_reducible first | exact HB.out | apply below_alloc | apply pw_below_drewN | apply below_drew1) | exact HB.out)) hb); clear HB; have HB := n0_; clear n0_; (try clear hb); (try clear hb2); (try clear hk); (try clear hi)) | ((with_reducible refine gate_callee (f := 77) rfl ?_); refine goesL_ (some 13) rfl rfl Try.func77 (by kernel_rfl) rfl #[.int .i64 a1] rfl (by (try simp only [List.map_toArray, List.map_cons, List.map_nil]); first | done | rfl | (simp only [List.length_drop, List.length_take]; rfl)) ?_; (with_reducible refine (secret_isNumber.calls a1 true _ A5.out).mono ?_); rintro e w' ⟨rfl, ⟨nd, rfl⟩⟩; refine ⟨_, rfl, ?_⟩) | ((with_reducible refine gate_callee (f := 80) rfl ?_); refine goesL_ (some 17) rfl rfl Try.func80 (by kernel_rfl) rfl #[.slice A0 l0.length c0, .int .i64 a1] rfl (by (try simp only [List.map_toArray, List.map_cons, List.map_nil]); first | done | rfl | (simp only [List.length_drop, List.length_take]; rfl)) ?_; (with_reducible refine (secret_curve_at.calls _ _ l0 a1 t222 _ ?side1 ?side2 A7.out).mono ?_); (case side1 => repeat (first | exact (Kd.C_below HR0.out (by repeat (first | (with_reducible first | exact HB.out | apply below_alloc | apply pw_below_drewN | apply below_drew1) | exact HB.out))) | (with_reducible refine Kd.C_alloc ?_ _) | (with_reducible refine Kd.C_drewN ?_ _) | (with_reducible refine Kd.C_drew ?_))); (case side2 => exact HC0.out); rintro e w9 ⟨rfl, hb⟩; refine ⟨_, rfl, ?_⟩; have n0_ := Aside0.mk (below_step (by repeat (first | (with_reducible first | exact HB.out | apply below_alloc | apply pw_below_drewN | apply below_drew1) | exact HB.out)) hb); clear HB; have HB := n0_; clear n0_; (try clear hb); (try clear hb2); (try clear hk); (try clear hi)))
      go_ret2
      exact ⟨by first | rfl | (simp [errW_none, errW_some] <;> rfl) | (simp [*, errW_none, errW_some] <;> rfl), by repeat (first | (with_reducible first | exact HB.out | apply below_alloc | apply pw_below_drewN | apply below_drew1) | exact HB.out)⟩
    · replace c6 := Bool.eq_false_iff.mpr c6
      subst c6
      have H1 : (some (0, 1)) = some (r1, r2) := by rw [if_neg (show ¬ (false = true) by decide)] at H; exact H
      clear H
      have H := H1
      clear H1
      simp only [Option.some.injEq, Prod.mk.injEq] at H
      obtain ⟨rfl, rfl⟩ := H
      go_enter Try.func44, Try.ntmps44
      go_wp2_with (first | ((with_reducible refine gate_callee (f := 79) rfl ?_); refine goesL_ (some 8) rfl rfl Try.func79 (by kernel_rfl) rfl #[.slice A0 l0.length c0] rfl (by (try simp only [List.map_toArray, List.map_cons, List.map_nil]); first | done | rfl | (simp only [List.length_drop, List.length_take]; rfl)) ?_; (with_reducible refine (secret_isCurve.calls _ _ l0 t220 _ ?side1 ?side2 A3.out).mono ?_); (case side1 => repeat (first | exact HR0.out | (with_reducible refine Kd.C_alloc ?_ _) | (with_reducible refine Kd.C_drewN ?_ _) | (with_reducible refine Kd.C_drew ?_))); (case side2 => exact HC0.out); rintro e w10 ⟨rfl, hb⟩; refine ⟨_, rfl, ?_⟩; have n0_ := Aside0.mk (below_step (by repeat (first | (with_reducible first | exact HB.out | apply below_alloc | apply pw_below_drewN | apply below_drew1) | exact HB.out)) hb); clear HB; have HB := n0_; clear n0_; (try clear hb); (try clear hb2); (try clear hk); (try clear hi)) | ((with_reducible refine gate_callee (f := 77) rfl ?_); refine goesL_ (some 13) rfl rfl Try.func77 (by kernel_rfl) rfl #[.int .i64 a1] rfl (by (try simp only [List.map_toArray, List.map_cons, List.map_nil]); first | done | rfl | (simp only [List.length_drop, List.length_take]; rfl)) ?_; (with_reducible refine (secret_isNumber.calls a1 false _ A5.out).mono ?_); rintro e w' ⟨rfl, ⟨nd, rfl⟩⟩; refine ⟨_, rfl, ?_⟩))
      go_ret2
      exact ⟨by first | rfl | (simp [errW_none, errW_some] <;> rfl) | (simp [*, errW_none, errW_some] <;> rfl), by repeat (first | (with_reducible first | exact HB.out | apply below_alloc | apply pw_below_drewN | apply below_drew1) | exact HB.out)⟩
  · rw [if_neg c4] at H
    have c4b0 : (t220 == 0) = false := beq_eq_false_iff_ne.mpr c4
    have c4b1 : (t220 != 0) = true := bne_iff_ne.mpr c4
    simp only [Option.some.injEq, Prod.mk.injEq] at H
    obtain ⟨rfl, rfl⟩ := H
    go_enter Try.func44, Try.ntmps44
    go_wp2_with (first | ((with_reducible refine gate_callee (f := 79) rfl ?_); refine goesL_ (some 8) rfl rfl Try.func79 (by kernel_rfl) rfl #[.slice A0 l0.length c0] rfl (by (try simp only [List.map_toArray, List.map_cons, List.map_nil]); first | done | rfl | (simp only [List.length_drop, List.length_take]; rfl)) ?_; (with_reducible refine (secret_isCurve.calls _ _ l0 t220 _ ?side1 ?side2 A3.out).mono ?_); (case side1 => repeat (first | exact HR0.out | (with_reducible refine Kd.C_alloc ?_ _) | (with_reducible refine Kd.C_drewN ?_ _) | (with_reducible refine Kd.C_drew ?_))); (case side2 => exact HC0.out); rintro e w11 ⟨rfl, hb⟩; refine ⟨_, rfl, ?_⟩; have n0_ := Aside0.mk (below_step (by repeat (first | (with_reducible first | exact HB.out | apply below_alloc | apply pw_below_drewN | apply below_drew1) | exact HB.out)) hb); clear HB; have HB := n0_; clear n0_; (try clear hb); (try clear hb2); (try clear hk); (try clear hi)))
    go_ret2
    exact ⟨by first | rfl | (simp [errW_none, errW_some] <;> rfl) | (simp [*, errW_none, errW_some] <;> rfl), by repeat (first | (with_reducible first | exact HB.out | apply below_alloc | apply pw_below_drewN | apply below_drew1) | exact HB.out)⟩

end Go.Proofs.Ythlbjdiicmojfaa.P

/-! Part PF85. -/
-- Written for this claim by wip/print_more.py (a session's program that runs the kit's printer with hand-proved functions beside). Lean checks it.
namespace Go.Proofs.Ythlbjdiicmojfaa.P
open Go.RowKit Go.Proofs.YthlbjdiicmojfaaW.PrintWords Go.Proofs.YthlbjdiicmojfaaW.PrintLast Go.Proofs.YthlbjdiicmojfaaW.PrintMore
attribute [local go_sem] max2_int min2_int max_two min_two max_three min_three max_four min_four   -- for this text's walks alone
set_option linter.unusedVariables false
set_option linter.unusedSimpArgs false

/-! ### secret_inverse: function 85 -/
def secret_inverse.l0 : Nat → Int → Int → Int → Option (Int)
  | 0, _, _, _ => none
  | k + 1, x0, x3, x4 => if x4 < 249 then ((secret_rest.f (wrap64 (x3 * x0))).bind fun t102 => (secret_inverse.l0 k x0 t102 (wrap64 (x4 + 1)))) else (some x3)
def secret_inverse.f (k : Nat) (a0 : Int) : Option (Int) := secret_inverse.l0 k a0 1 0
set_option maxHeartbeats 8000000 in
set_option maxRecDepth 100000 in
theorem secret_inverse.calls (k : Nat) (a0 : Int) (r : Int) (w : World) (h : secret_inverse.f k a0 = some r) :
    Calls Try.prog 85 #[.int .i64 a0] w fun e w' => e = .returned (.int .i64 r) ∧ Drawn0 w w' := by
  have H : (secret_inverse.l0 k a0 1 0) = some r := h
  clear h
  have H' := Aside0.mk H
  clear H
  go_enter Try.func85, Try.ntmps85
  go_wp2
  go_loopg [3, 4] k (fun kq v3 v4 w' => ∃ (x3_1 : Int) (x4_1 : Int), v3 = .int .i64 x3_1 ∧ v4 = .int .i64 x4_1 ∧ Aside0 (secret_inverse.l0 kq a0 x3_1 x4_1 = some r) ∧ Aside0 (kq ≤ k) ∧ Drawn0 w w')
  case atStart => exact ⟨(1), (0), (by first | rfl | (simp; done) | (simp [*]; done)), (by first | rfl | (simp; done) | (simp [*]; done)), H', ⟨Nat.le_refl _⟩, by repeat (first | exact Drawn0.refl _ | apply Drawn0.step)⟩
  case round =>
    clear H'
    obtain ⟨x3_1, x4_1, rfl, rfl, HA, HK1, ⟨m1, rfl⟩⟩ := hrel
    cases gk with
    | zero => exact absurd HA.out (by simp [secret_inverse.l0])
    | succ k1 =>
      have H := HA.out
      clear HA
      simp only [secret_inverse.l0] at H
      by_cases c2 : x4_1 < 249
      · rw [if_pos c2] at H
        have c2b0 : decide (x4_1 < 249) = true := decide_eq_true c2
        clear c2
        replace H := Option.bind_eq_some_iff.mp H
        obtain ⟨t102, A30, H⟩ := H
        replace H : (secret_inverse.l0 k1 a0 t102 (wrap64 (x4_1 + 1))) = some r := H
        have A3 := Aside0.mk A30
        clear A30
        have H' := Aside0.mk H
        clear H
        go_wp2_with (first | ((with_reducible refine gate_callee (f := 96) rfl ?_); refine goesL_ (some 9) rfl rfl Try.func96 (by kernel_rfl) rfl #[.int .i64 (wrap64 (x3_1 * a0))] rfl (by (try simp only [List.map_toArray, List.map_cons, List.map_nil]); first | done | rfl | (simp only [List.length_drop, List.length_take]; rfl)) ?_; (with_reducible refine (secret_rest.calls (wrap64 (x3_1 * a0)) t102 _ A3.out).mono ?_); rintro e w' ⟨rfl, ⟨nd, rfl⟩⟩; refine ⟨_, rfl, ?_⟩))
        go_roundg k1
        case measure => have := HK1.out; omega
        case rel => exact ⟨(t102), (wrap64 (x4_1 + 1)), (by first | rfl | (simp; done) | (simp [*]; done)), (by first | rfl | (simp; done) | (simp [*]; done)), H', ⟨by have := HK1.out; omega⟩, by repeat (first | exact Drawn0.refl _ | apply Drawn0.step)⟩
      · rw [if_neg c2] at H
        have c2b0 : decide (x4_1 < 249) = false := decide_eq_false c2
        clear c2
        obtain rfl := Option.some.inj H
        go_wp2
        go_ret
        exact ⟨by first | rfl | (simp; done) | (simp [*]; done), by repeat (first | exact Drawn0.refl _ | apply Drawn0.step)⟩

end Go.Proofs.Ythlbjdiicmojfaa.P

/-! Part PF47. -/
-- Written for this claim by wip/print_more.py (a session's program that runs the kit's printer with hand-proved functions beside). Lean checks it.
namespace Go.Proofs.Ythlbjdiicmojfaa.P
open Go.RowKit Go.Proofs.YthlbjdiicmojfaaW.PrintWords Go.Proofs.YthlbjdiicmojfaaW.PrintLast Go.Proofs.YthlbjdiicmojfaaW.PrintMore
attribute [local go_sem] max2_int min2_int max_two min_two max_three min_three max_four min_four   -- for this text's walks alone
set_option linter.unusedVariables false
set_option linter.unusedSimpArgs false

/-! ### secret_Inverse: function 47 -/
def secret_Inverse.f (k : Nat) (a0 : Int) : Option (Int × Int) := if a0 = 0 then (some (0, 1)) else ((secret_isNumber.f a0).bind fun t252 => (if t252 = true then ((secret_inverse.f k a0).bind fun t253 => (some (t253, 0))) else (some (0, 1))))
set_option maxHeartbeats 8000000 in
set_option maxRecDepth 100000 in
theorem secret_Inverse.calls (k : Nat) (a0 : Int) (r1 : Int) (r2 : Int) (w : World) (h : secret_Inverse.f k a0 = some (r1, r2)) :
    Calls Try.prog 47 #[.int .i64 a0] w fun e w' => e = .returned (.tuple #[.int .i64 r1, .int .i64 r2]) ∧ Drawn0 w w' := by
  have H : (if a0 = 0 then (some (0, 1)) else ((secret_isNumber.f a0).bind fun t252 => (if t252 = true then ((secret_inverse.f k a0).bind fun t253 => (some (t253, 0))) else (some (0, 1))))) = some (r1, r2) := h
  clear h
  by_cases c2 : a0 = 0
  · rw [if_pos c2] at H
    have c2b0 : (a0 == 0) = true := beq_iff_eq.mpr c2
    have c2b1 : (a0 != 0) = false := bne_eq_false_iff_eq.mpr c2
    clear c2
    simp only [Option.some.injEq, Prod.mk.injEq] at H
    obtain ⟨rfl, rfl⟩ := H
    go_enter Try.func47, Try.ntmps47
    go_wp2
    go_ret2
    exact ⟨by first | rfl | (simp; done) | (simp [*]; done), by repeat (first | exact Drawn0.refl _ | apply Drawn0.step)⟩
  · rw [if_neg c2] at H
    have c2b0 : (a0 == 0) = false := beq_eq_false_iff_ne.mpr c2
    have c2b1 : (a0 != 0) = true := bne_iff_ne.mpr c2
    replace H := Option.bind_eq_some_iff.mp H
    obtain ⟨t252, A30, H⟩ := H
    replace H : (if t252 = true then ((secret_inverse.f k a0).bind fun t253 => (some (t253, 0))) else (some (0, 1))) = some (r1, r2) := H
    have A3 := Aside0.mk A30
    clear A30
    by_cases c4 : t252 = true
    · subst c4
      have H1 : ((secret_inverse.f k a0).bind fun t253 => (some (t253, 0))) = some (r1, r2) := by rw [if_pos rfl] at H; exact H
      clear H
      have H := H1
      clear H1
      replace H := Option.bind_eq_some_iff.mp H
      obtain ⟨t253, A50, H⟩ := H
      replace H : (some (t253, 0)) = some (r1, r2) := H
      have A5 := Aside0.mk A50
      clear A50
      simp only [Option.some.injEq, Prod.mk.injEq] at H
      obtain ⟨rfl, rfl⟩ := H
      go_enter Try.func47, Try.ntmps47
      go_wp2_with (first | (go_at_call 77; (with_reducible refine (secret_isNumber.calls a0 true _ A3.out).mono ?_); rintro e w' ⟨rfl, ⟨nd, rfl⟩⟩) | ((with_reducible refine gate_callee (f := 85) rfl ?_); refine goesL_ (some 12) rfl rfl Try.func85 (by kernel_rfl) rfl #[.int .i64 a0] rfl (by (try simp only [List.map_toArray, List.map_cons, List.map_nil]); first | done | rfl | (simp only [List.length_drop, List.length_take]; rfl)) ?_; (with_reducible refine (secret_inverse.calls k a0 t253 _ A5.out).mono ?_); rintro e w' ⟨rfl, ⟨nd, rfl⟩⟩; refine ⟨_, rfl, ?_⟩))
      go_ret2
      exact ⟨by first | rfl | (simp; done) | (simp [*]; done), by repeat (first | exact Drawn0.refl _ | apply Drawn0.step)⟩
    · replace c4 := Bool.eq_false_iff.mpr c4
      subst c4
      have H1 : (some (0, 1)) = some (r1, r2) := by rw [if_neg (show ¬ (false = true) by decide)] at H; exact H
      clear H
      have H := H1
      clear H1
      simp only [Option.some.injEq, Prod.mk.injEq] at H
      obtain ⟨rfl, rfl⟩ := H
      go_enter Try.func47, Try.ntmps47
      go_wp2_with (first | (go_at_call 77; (with_reducible refine (secret_isNumber.calls a0 false _ A3.out).mono ?_); rintro e w' ⟨rfl, ⟨nd, rfl⟩⟩))
      go_ret2
      exact ⟨by first | rfl | (simp; done) | (simp [*]; done), by repeat (first | exact Drawn0.refl _ | apply Drawn0.step)⟩

end Go.Proofs.Ythlbjdiicmojfaa.P

/-! Part PF86. -/
-- Written for this claim by wip/print_more.py (a session's program that runs the kit's printer with hand-proved functions beside). Lean checks it.
namespace Go.Proofs.Ythlbjdiicmojfaa.P
open Go.RowKit Go.Proofs.YthlbjdiicmojfaaW.PrintWords Go.Proofs.YthlbjdiicmojfaaW.PrintLast Go.Proofs.YthlbjdiicmojfaaW.PrintMore
attribute [local go_sem] max2_int min2_int max_two min_two max_three min_three max_four min_four   -- for this text's walks alone
set_option linter.unusedVariables false
set_option linter.unusedSimpArgs false

/-! ### secret_some: function 86 -/
def secret_some.f (l0 : List (S43)) : Option (Int) := if (l0.length : Int) = 0 then (some 4) else (if (l0.length : Int) > 6 then (some 3) else (some 0))
set_option maxHeartbeats 8000000 in
set_option maxRecDepth 100000 in
theorem secret_some.calls (A0 : Option Addr) (c0 : Nat) (l0 : List (S43)) (r : Int) (w : World) (hr0 : Kd.C k43 w A0 l0.length l0) (hc0 : l0.length ≤ c0) (h : secret_some.f l0 = some r) :
    Calls Try.prog 86 #[.slice A0 l0.length c0] w fun e w' => e = .returned (.int .i64 r) ∧ Drawn0 w w' := by
  have HR0 := Aside0.mk hr0
  have HC0 := Aside0.mk hc0
  clear hr0 hc0
  have H : (if (l0.length : Int) = 0 then (some 4) else (if (l0.length : Int) > 6 then (some 3) else (some 0))) = some r := h
  clear h
  by_cases c2 : (l0.length : Int) = 0
  · rw [if_pos c2] at H
    have c2b0 : ((l0.length : Int) == 0) = true := beq_iff_eq.mpr c2
    have c2b1 : ((l0.length : Int) != 0) = false := bne_eq_false_iff_eq.mpr c2
    clear c2
    obtain rfl := Option.some.inj H
    go_enter Try.func86, Try.ntmps86
    go_wp2
    go_ret
    exact ⟨by first | rfl | (simp; done) | (simp [*]; done), by repeat (first | exact Drawn0.refl _ | apply Drawn0.step)⟩
  · rw [if_neg c2] at H
    have c2b0 : ((l0.length : Int) == 0) = false := beq_eq_false_iff_ne.mpr c2
    have c2b1 : ((l0.length : Int) != 0) = true := bne_iff_ne.mpr c2
    have c2b2 : ¬ (l0 = []) := fun h_ => c2 (by rw [h_]; rfl)
    by_cases c3 : (l0.length : Int) > 6
    · rw [if_pos c3] at H
      have c3b0 : decide (6 < (l0.length : Int)) = true := decide_eq_true c3
      have c3b1 : decide (6 < l0.length) = true := decide_eq_true (by omega)
      clear c3
      obtain rfl := Option.some.inj H
      go_enter Try.func86, Try.ntmps86
      go_wp2
      go_ret
      exact ⟨by first | rfl | (simp; done) | (simp [*]; done), by repeat (first | exact Drawn0.refl _ | apply Drawn0.step)⟩
    · rw [if_neg c3] at H
      have c3b0 : decide (6 < (l0.length : Int)) = false := decide_eq_false c3
      have c3b1 : decide (6 < l0.length) = false := decide_eq_false (by omega)
      clear c3
      obtain rfl := Option.some.inj H
      go_enter Try.func86, Try.ntmps86
      go_wp2
      go_ret
      exact ⟨by first | rfl | (simp; done) | (simp [*]; done), by repeat (first | exact Drawn0.refl _ | apply Drawn0.step)⟩

end Go.Proofs.Ythlbjdiicmojfaa.P

/-! Part H65. -/
namespace Go.Proofs.Ythlbjdiicmojfaa.P
open Go.RowKit Go.Proofs.YthlbjdiicmojfaaW.PrintWords Go.Proofs.YthlbjdiicmojfaaW.PrintLast Go.Proofs.YthlbjdiicmojfaaW.PrintMore
set_option linter.unusedVariables false

set_option maxHeartbeats 2000000 in
theorem bad102 (x y : Int) (w : World) : Calls Try.prog 102 #[.agg #[.int .i64 x, .int .i64 y]] w fun e w' => e = .returned (.bool (!okP ⟨x, y⟩)) ∧ Below w.heap.size w w' := by
  have hu43 := Try.underlying43
  cases hx : (x == 0) with
  | true =>
    have hr : (!okP ⟨x, y⟩) = true := by
      have := beq_iff_eq.1 hx; subst this; rfl
    have HR := Aside0.mk hr
    clear hr
    go_enter Try.func102, Try.ntmps102
    go_wp2_with fail
    go_ret
    exact ⟨by rw [HR.out]; rfl, (Below.refl _ _).alloc (Nat.le_refl _) _⟩
  | false =>
    cases hn : num x with
    | false =>
      have hr : (!okP ⟨x, y⟩) = true := by
        unfold num at hn; unfold okP
        simp at hn ⊢; omega
      have HR := Aside0.mk hr
      have HN := isNumber_eq x
      rw [hn] at HN
      have HN := Aside0.mk HN
      clear hr hn
      go_enter Try.func102, Try.ntmps102
      go_wp2_with fail
      with_reducible refine (secret_isNumber.calls _ _ _ HN.out).mono ?_
      rintro e w' ⟨rfl, ⟨nd, rfl⟩⟩
      go_wp2_with fail
      go_ret
      exact ⟨by rw [HR.out]; rfl, pw_below_drewN ((Below.refl _ _).alloc (Nat.le_refl _) _) _⟩
    | true =>
      have hr : okP ⟨x, y⟩ = num y := by
        unfold num at hn; unfold okP
        have hx0 : x ≠ 0 := by simpa using hx
        simp at hn
        have h1 : decide (1 ≤ x) = true := by simp; omega
        have h2 : decide (x ≤ 250) = true := by simp; omega
        simp [h1, h2]
      have HR := Aside0.mk hr
      have HN := isNumber_eq x
      rw [hn] at HN
      have HN := Aside0.mk HN
      have HM := Aside0.mk (isNumber_eq y)
      clear hr hn
      go_enter Try.func102, Try.ntmps102
      go_wp2_with fail
      with_reducible refine (secret_isNumber.calls _ _ _ HN.out).mono ?_
      rintro e w' ⟨rfl, ⟨nd, rfl⟩⟩
      go_wp2_with fail
      with_reducible refine (secret_isNumber.calls _ _ _ HM.out).mono ?_
      rintro e w' ⟨rfl, ⟨nd2, rfl⟩⟩
      go_wp2_with fail
      go_ret
      exact ⟨by rw [HR.out]; rfl, pw_below_drewN ((Below.refl _ _).alloc (Nat.le_refl _) _) _⟩

set_option maxHeartbeats 2000000 in
set_option maxRecDepth 100000 in
theorem same103 (x y a b : Int) (B : Nat) (w : World) (hB : w.heap[B]? = some (.cells #[.int .i64 a, .int .i64 b] 43 (0, 0))) :
    Calls Try.prog 103 #[.agg #[.int .i64 x, .int .i64 y], .pointer (some ⟨B, 0, none⟩)] w fun e w' => e = .returned (.bool (a == x)) ∧ Below w.heap.size w w' := by
  have hu43 := Try.underlying43
  have hc : w.cell? ⟨B, 0, none⟩ = some (.int .i64 a) := blk_cell hB 0
  have hc1 : (w.alloc (.cells #[.int .i64 x, .int .i64 y] 43)).cell? ⟨B, 0, none⟩ = some (.int .i64 a) := pw_cell_below (below_alloc (Below.refl _ _) _) hc
  clear hB hc
  go_enter Try.func103, Try.ntmps103
  go_wp2_with fail
  go_ret
  exact ⟨rfl, below_alloc (Below.refl _ _) _⟩

theorem alloc_new (w : World) (o : Obj) : w.heap.size < (w.alloc o).heap.size ∧ (w.alloc o).heap[w.heap.size]? = some o := by
  have h : (w.alloc o).heap = w.heap.push o := rfl
  rw [h]; simp
theorem eg102 : ∀ args w, (callFunc 102 args).run Try.prog w = .ok (.enter 102 args) w := enters_of Try.func102 (by kernel_rfl) rfl
theorem eg103 : ∀ args w, (callFunc 103 args).run Try.prog w = .ok (.enter 103 args) w := enters_of Try.func103 (by kernel_rfl) rfl

theorem valid_large {l : List S43} (h : 12 < l.length) : valid l = 3 := by unfold valid; rw [if_pos h]
theorem valid_bad {l : List S43} (h : l.length ≤ 12) (hb : (l.any fun p => !okP p) = true) : valid l = 1 := by
  unfold valid
  rw [if_neg (by omega), if_neg]
  rw [List.any_eq_true] at hb; obtain ⟨x, hx, hn⟩ := hb
  intro h'; rw [List.all_eq_true] at h'; simp [h' x hx] at hn
theorem valid_good {l : List S43} (h : l.length ≤ 12) (hb : (l.any fun p => !okP p) = false) : valid l = if (l.map S43.f0).Nodup then 0 else 6 := by
  unfold valid
  rw [if_neg (by omega), if_pos]
  rw [List.all_eq_true]
  intro x hx
  rw [List.any_eq_false] at hb
  simpa using hb x hx
theorem nodup_step {l : List S43} {k : Nat} (hk : k < l.length) (h : ((l.take k).map S43.f0).Nodup) (hn : ((l.take k).any fun q => l[k].f0 == q.f0) = false) : ((l.take (k + 1)).map S43.f0).Nodup := by
  rw [List.take_succ_eq_append_getElem hk, List.map_append, List.nodup_append]
  refine ⟨h, by simp, ?_⟩
  intro a ha b hb
  simp at hb
  subst hb
  rw [List.any_eq_false] at hn
  simp only [List.mem_map] at ha
  obtain ⟨q, hq, rfl⟩ := ha
  have := hn q hq
  intro e; exact this (by simp [e])
theorem nodup_fell {l : List S43} {k : Nat} (hk : k < l.length) (hn : ((l.take k).any fun q => l[k].f0 == q.f0) = true) : ¬ (l.map S43.f0).Nodup := by
  intro h
  rw [← List.take_append_drop k l, List.map_append, List.nodup_append] at h
  rw [List.any_eq_true] at hn
  obtain ⟨q, hq, he⟩ := hn
  refine h.2.2 q.f0 (List.mem_map_of_mem hq) l[k].f0 ?_ (by simpa using (beq_iff_eq.1 he).symm)
  refine List.mem_map_of_mem ?_
  rw [List.drop_eq_getElem_cons hk]
  exact List.mem_cons_self

set_option maxHeartbeats 4000000 in
set_option maxRecDepth 100000 in
theorem secret_Validate.calls (A0 : Option Addr) (c0 : Nat) (l0 : List (S43)) (r : Int) (w : World) (hr0 : Kd.C k43 w A0 l0.length l0) (hc0 : l0.length ≤ c0) (h : secret_Validate.f l0 = some r) :
    Calls Try.prog 65 #[.slice A0 l0.length c0] w fun e w' => e = .returned (.int .i64 r) ∧ Below w.heap.size w w' := by
  have hu43 := Try.underlying43
  have hr : valid l0 = r := Option.some.inj h
  have HR := Aside0.mk hr
  have HR0 := Aside0.mk hr0
  have hmax := Kd.C_max hr0
  clear h hr hr0
  by_cases hlen : 12 < l0.length
  · have HV := Aside0.mk (valid_large hlen)
    go_enter Try.func65, Try.ntmps65
    go_wp2_with fail
    go_ret
    exact ⟨by rw [← HR.out, HV.out]; rfl, Below.refl _ _⟩
  · have hle : l0.length ≤ 12 := by omega
    clear hlen
    have hp : ∀ W, PredB 102 #[] enc43 (fun p => !okP p) l0 W := fun W0 W x _ _ => bad102 x.f0 x.f1 W
    have HP := Aside0.mk hp
    clear hp
    cases hq : (l0.any fun p => !okP p) with
    | true =>
      have HV := Aside0.mk (valid_bad hle hq)
      have HQ := Aside0.mk hq
      clear hq
      go_enter Try.func65, Try.ntmps65
      go_wp2_with fail
      with_reducible refine (contains43 A0 c0 l0 102 #[] _ eg102 _ HR0.out (HP.out _)).mono ?_
      rw [HQ.out]
      rintro e w' ⟨rfl, hb⟩
      go_wp2_with fail
      go_ret
      exact ⟨by rw [← HR.out, HV.out]; rfl, hb⟩
    | false =>
      have HV := Aside0.mk (valid_good hle hq)
      have HQ := Aside0.mk hq
      clear hq
      go_enter Try.func65, Try.ntmps65
      go_wp2_with fail
      with_reducible refine (contains43 A0 c0 l0 102 #[] _ eg102 _ HR0.out (HP.out _)).mono ?_
      rw [HQ.out]
      rintro e w1 ⟨rfl, hb⟩
      have HB := Aside0.mk hb
      clear hb
      go_wp2_with fail
      go_loopg [12] l0.length (fun gg s12 wr => ∃ kk : Nat, kk ≤ l0.length ∧ l0.length - kk ≤ gg ∧ s12 = .int .i64 kk ∧ Aside0 (Below w.heap.size w wr) ∧ Aside0 ((l0.take kk).map S43.f0).Nodup)
      case atStart => exact ⟨0, Nat.zero_le _, by omega, rfl, HB, ⟨by simp⟩⟩
      case round =>
        clear HB
        obtain ⟨kk, hkk, hg, rfl, HB, HA⟩ := hrel
        by_cases hlt : kk < l0.length
        · have hltz : (kk : Int) < (l0.length : Int) := by omega
          have hq0 : (0 : Int) ≤ (kk : Int) := by omega
          obtain ⟨ad, e1, hx0, hx1⟩ := at_T43 (Kd.C_below HR0.out HB.out) (kk : Int) hq0 hltz
          cases e1
          rw [rd43_get l0 kk hlt] at hx0 hx1
          simp only [Int.toNat_natCast] at hx0 hx1
          have ht : (l0.take kk).length = kk := by rw [List.length_take]; omega
          have hcon := contains43 (some ad) c0 (l0.take kk) 103 #[.pointer (some ⟨wr.heap.size, 0, none⟩)] (fun q => l0[kk].f0 == q.f0) eg103 (wr.alloc (.cells #[.int .i64 l0[kk].f0, .int .i64 l0[kk].f1] 43))
            (Kd.C_take (Kd.C_alloc (Kd.C_below HR0.out HB.out) _) (by omega))
            (fun W' x _ hb => same103 x.f0 x.f1 l0[kk].f0 l0[kk].f1 wr.heap.size W' ((hb.block wr.heap.size (alloc_new wr _).1).trans (alloc_new wr _).2))
          rw [ht] at hcon
          have hstep := nodup_step hlt HA.out
          have hfell := nodup_fell hlt
          cases hq : ((l0.take kk).any fun q => l0[kk].f0 == q.f0) with
          | true =>
            rw [hq] at hcon
            have HF := Aside0.mk (hfell hq)
            clear hq hstep hfell ht
            have HC := Aside0.mk hcon
            clear hcon
            go_wp2_with fail
            with_reducible refine HC.out.mono ?_
            rintro e w' ⟨rfl, hb⟩
            have HB2 := Aside0.mk (below_step (below_alloc HB.out _) hb)
            clear hb
            go_wp2_with fail
            go_ret
            exact ⟨by rw [← HR.out, HV.out, if_neg HF.out]; rfl, HB2.out⟩
          | false =>
            rw [hq] at hcon
            have HS := Aside0.mk (hstep hq)
            clear hq hstep hfell ht
            have HC := Aside0.mk hcon
            clear hcon
            go_wp2_with fail
            with_reducible refine HC.out.mono ?_
            rintro e w' ⟨rfl, hb⟩
            have HB2 := Aside0.mk (below_step (below_alloc HB.out _) hb)
            clear hb
            go_wp2_with fail
            go_roundg (l0.length - (kk + 1))
            case measure => omega
            case rel => exact ⟨kk + 1, by omega, by omega, by go_num, HB2, HS⟩
        · have hltz : ¬ (kk : Int) < (l0.length : Int) := by omega
          have HK : Aside0 (l0.take kk = l0) := ⟨List.take_of_length_le (by omega)⟩
          go_wp2_with fail
          go_ret
          exact ⟨by rw [← HR.out, HV.out, if_pos (by have := HA.out; rw [HK.out] at this; exact this)]; rfl, HB.out⟩
end Go.Proofs.Ythlbjdiicmojfaa.P

/-! Part PF108. -/
-- Written for this claim by wip/print_more.py (a session's program that runs the kit's printer with hand-proved functions beside). Lean checks it.
namespace Go.Proofs.Ythlbjdiicmojfaa.P
open Go.RowKit Go.Proofs.YthlbjdiicmojfaaW.PrintWords Go.Proofs.YthlbjdiicmojfaaW.PrintLast Go.Proofs.YthlbjdiicmojfaaW.PrintMore
attribute [local go_sem] max2_int min2_int max_two min_two max_three min_three max_four min_four   -- for this text's walks alone
set_option linter.unusedVariables false
set_option linter.unusedSimpArgs false

/-! ### secret_curve_times: function 108 -/
def secret_curve_times.l0 : Nat → Int → Int → List Int → List Int → Int → Int → Option (List Int)
  | 0, _, _, _, _, _, _ => none
  | k + 1, x1, x2, x7, x14, x15, x16 => if x16 < x15 then (if 0 ≤ x16 then (if x16 < (x14.length : Int) then (if 0 ≤ (wrap64 (x16 + 1)) then (if (wrap64 (x16 + 1)) < (x7.length : Int) then ((secret_rest.f (wrap64 ((rd x7 (wrap64 (x16 + 1))) + (wrap64 ((rd x14 x16) * x2))))).bind fun t108 => ((some (x7.set ((wrap64 (x16 + 1)) : Int).toNat t108 : List Int)).bind fun y109 => (if x16 < (x7.length : Int) then ((secret_rest.f (wrap64 ((rd y109 x16) - (wrap64 ((wrap64 ((rd x14 x16) * x1)) * x2))))).bind fun t111 => (secret_curve_times.l0 k x1 x2 (y109.set (x16 : Int).toNat t111) x14 x15 (wrap64 (x16 + 1)))) else (none)))) else (none)) else (none)) else (none)) else (none)) else (some x7)
def secret_curve_times.f (k : Nat) (l0 : List Int) (a1 : Int) (a2 : Int) : Option (List Int) := if 0 ≤ (wrap64 ((l0.length : Int) + 1)) then (if (wrap64 ((l0.length : Int) + 1) : Int).toNat ≤ 35184372088832 then (secret_curve_times.l0 k a1 a2 (List.replicate (wrap64 ((l0.length : Int) + 1) : Int).toNat 0) l0 (l0.length : Int) 0) else (none)) else (none)
set_option maxHeartbeats 8000000 in
set_option maxRecDepth 100000 in
theorem secret_curve_times.calls (k : Nat) (A0 : Option Addr) (c0 : Nat) (l0 : List Int) (a1 : Int) (a2 : Int) (r : List Int) (w : World) (hr0 : Kd.C (Kd.int .i64) w A0 l0.length l0) (hc0 : l0.length ≤ c0) (h : secret_curve_times.f k l0 a1 a2 = some r) :
    Calls Try.prog 108 #[.slice A0 l0.length c0, .int .i64 a1, .int .i64 a2] w fun e w' => ∃ v0_ : Value, e = .returned (v0_) ∧ Kd.R (Kd.int .i64) 3 w' w.heap.size (fun _ => True) v0_ r ∧ Below w.heap.size w w' := by
  have HR0 := Aside0.mk hr0
  have HC0 := Aside0.mk hc0
  clear hr0 hc0
  have HB := Aside0.mk (Below.refl w.heap.size w)
  have H : (if 0 ≤ (wrap64 ((l0.length : Int) + 1)) then (if (wrap64 ((l0.length : Int) + 1) : Int).toNat ≤ 35184372088832 then (secret_curve_times.l0 k a1 a2 (List.replicate (wrap64 ((l0.length : Int) + 1) : Int).toNat 0) l0 (l0.length : Int) 0) else (none)) else (none)) = some r := h
  clear h
  obtain ⟨ji4, hji4⟩ : ∃ j_ : Int, (wrap64 ((l0.length : Int) + 1)) = j_ := ⟨_, rfl⟩
  replace H : (if 0 ≤ (ji4) then (if (ji4 : Int).toNat ≤ 35184372088832 then (secret_curve_times.l0 k a1 a2 (List.replicate (ji4 : Int).toNat 0) l0 (l0.length : Int) 0) else (none)) else (none)) = some r := by first | (rw [hji4] at H; exact H) | (simp only [hji4] at H ⊢; exact H)
  have hji4w : (IntKind.i64.wrap ((l0.length : Int) + 1)) = ji4 := (i64_w _).trans hji4
  by_cases c5 : 0 ≤ (ji4)
  · rw [if_pos c5] at H
    have c5b0 := eq_true c5
    have c5b1 : decide (0 ≤ (ji4)) = true := decide_eq_true c5
    clear c5
    by_cases c6 : (ji4 : Int).toNat ≤ 35184372088832
    · rw [if_pos c6] at H
      have c6b0 := eq_true c6
      have c6b1 : decide ((ji4 : Int).toNat ≤ 35184372088832) = true := decide_eq_true c6
      clear c6
      obtain ⟨y103, hy103⟩ : ∃ y_ : List Int, y_ = (List.replicate (ji4 : Int).toNat 0) := ⟨_, rfl⟩
      replace H : (secret_curve_times.l0 k a1 a2 y103 l0 (l0.length : Int) 0) = some r := by first | (rw [hy103]; with_reducible exact H) | (have H2_ := (Option.bind_some _ _).symm.trans H; rw [hy103]; with_reducible exact H2_) | (have H2_ := (Option.bind_some _ _).symm.trans H; with_reducible exact H2_) | with_reducible exact H | (rw [hy103]; exact H) | exact H
      have Ny103 := Aside0.mk hy103
      clear hy103
      have H' := Aside0.mk H
      clear H
      go_enter Try.func108, Try.ntmps108
      go_wp2_with (first | ((with_reducible refine gate_dst (N := 13) rfl ?_); refine Kd.R_make (Kd.int .i64) _ 3 rfl (N := 13) rfl 68 _ _ rfl ji4 rfl rfl Try.underlying68 (.int .i64 0) 8 info3 rfl (by decide) (by omega) 0 (ok := fun _ => True) (okp := fun _ => True) rfl (fun _ hk => hk) trivial (of_decide_eq_true (by first | (with_reducible assumption) | assumption)) (Nat.le_trans (Nat.mul_le_mul_right _ (of_decide_eq_true (by first | (with_reducible assumption) | assumption) : ji4.toNat ≤ 35184372088832)) (by omega)) (Below.refl _ _) (Nat.le_refl _) ?_; intro v104 w7 ho8 hb hg_ hnew_; clear hg_ hnew_; (first | rw [← Ny103.out] at ho8 | (simp only [Int.reduceToNat] at ho8; rw [← Ny103.out] at ho8)); have n0_ := Aside0.mk (Kd.R_lower ho8 (below_size (by repeat (first | (with_reducible first | exact HB.out | apply below_alloc | apply pw_below_drewN | apply below_drew1) | exact HB.out)))); have n1_ := Aside0.mk (below_step (by repeat (first | (with_reducible first | exact HB.out | apply below_alloc | apply pw_below_drewN | apply below_drew1) | exact HB.out)) hb); clear HB; have HO105 := n0_; have HB := n1_; clear n0_ n1_; clear hb ho8))
      go_loopg [16] k (fun kq v16 w' => ∃ (x7_1 : List Int) (x16_1 : Int), v16 = .int .i64 x16_1 ∧ Aside0 (secret_curve_times.l0 kq a1 a2 x7_1 l0 (l0.length : Int) x16_1 = some r) ∧ Aside0 (kq ≤ k) ∧ Aside0 (Kd.R (Kd.int .i64) 3 w' w.heap.size (fun _ => True) v104 x7_1) ∧ Aside0 (Below w.heap.size w w'))
      case atStart => exact ⟨(y103), (0), (by first | rfl | (simp; done) | (simp [*]; done)), H', ⟨Nat.le_refl _⟩, ⟨by (with_reducible repeat (first | apply Kd.R_alloc | apply Kd.R_drewN | apply Kd.R_drew)); exact HO105.out⟩, ⟨by repeat (first | (with_reducible first | exact HB.out | apply below_alloc | apply pw_below_drewN | apply below_drew1) | exact HB.out)⟩⟩
      case round =>
        clear H'
        try clear c1
        try clear p2
        try clear c5
        try clear c5b0
        try clear c5b1
        try clear c6
        try clear c6b0
        try clear c6b1
        try clear p6
        obtain ⟨x7_1, x16_1, rfl, HA, HK1, HO_7, HB⟩ := hrel
        cases gk with
        | zero => exact absurd HA.out (by simp [secret_curve_times.l0])
        | succ k1 =>
          have H := HA.out
          clear HA
          simp only [secret_curve_times.l0] at H
          by_cases c9 : x16_1 < (l0.length : Int)
          · rw [if_pos c9] at H
            have c9b0 : decide (x16_1 < (l0.length : Int)) = true := decide_eq_true c9
            clear c9
            by_cases c10 : 0 ≤ x16_1
            · rw [if_pos c10] at H
              have c10b0 : decide (0 ≤ x16_1) = true := decide_eq_true c10
              clear c10
              by_cases c11 : x16_1 < (l0.length : Int)
              · rw [if_pos c11] at H
                have c11b0 : decide (x16_1 < (l0.length : Int)) = true := decide_eq_true c11
                clear c11
                obtain ⟨ji12, hji12⟩ : ∃ j_ : Int, (wrap64 (x16_1 + 1)) = j_ := ⟨_, rfl⟩
                replace H : (if 0 ≤ (ji12) then (if (ji12) < (x7_1.length : Int) then ((secret_rest.f (wrap64 ((rd x7_1 (ji12)) + (wrap64 ((rd l0 x16_1) * a2))))).bind fun t108 => ((some (x7_1.set ((ji12) : Int).toNat t108 : List Int)).bind fun y109 => (if x16_1 < (x7_1.length : Int) then ((secret_rest.f (wrap64 ((rd y109 x16_1) - (wrap64 ((wrap64 ((rd l0 x16_1) * a1)) * a2))))).bind fun t111 => (secret_curve_times.l0 k1 a1 a2 (y109.set (x16_1 : Int).toNat t111) l0 (l0.length : Int) ji12)) else (none)))) else (none)) else (none)) = some r := by first | (rw [hji12] at H; exact H) | (simp only [hji12] at H ⊢; exact H)
                have hji12w : (IntKind.i64.wrap (x16_1 + 1)) = ji12 := (i64_w _).trans hji12
                by_cases c13 : 0 ≤ (ji12)
                · rw [if_pos c13] at H
                  have c13b0 : decide (0 ≤ (ji12)) = true := decide_eq_true c13
                  clear c13
                  by_cases c14 : (ji12) < (x7_1.length : Int)
                  · rw [if_pos c14] at H
                    have c14b0 : decide ((ji12) < (x7_1.length : Int)) = true := decide_eq_true c14
                    clear c14
                    replace H := Option.bind_eq_some_iff.mp H
                    obtain ⟨t108, A150, H⟩ := H
                    replace H : ((some (x7_1.set ((ji12) : Int).toNat t108 : List Int)).bind fun y109 => (if x16_1 < (x7_1.length : Int) then ((secret_rest.f (wrap64 ((rd y109 x16_1) - (wrap64 ((wrap64 ((rd l0 x16_1) * a1)) * a2))))).bind fun t111 => (secret_curve_times.l0 k1 a1 a2 (y109.set (x16_1 : Int).toNat t111) l0 (l0.length : Int) ji12)) else (none))) = some r := H
                    have A15 := Aside0.mk A150
                    clear A150
                    obtain ⟨y109, hy109⟩ : ∃ y_ : List Int, y_ = (x7_1.set ((ji12) : Int).toNat t108) := ⟨_, rfl⟩
                    replace H : (if x16_1 < (x7_1.length : Int) then ((secret_rest.f (wrap64 ((rd y109 x16_1) - (wrap64 ((wrap64 ((rd l0 x16_1) * a1)) * a2))))).bind fun t111 => (secret_curve_times.l0 k1 a1 a2 (y109.set (x16_1 : Int).toNat t111) l0 (l0.length : Int) ji12)) else (none)) = some r := by first | (rw [hy109]; with_reducible exact H) | (have H2_ := (Option.bind_some _ _).symm.trans H; rw [hy109]; with_reducible exact H2_) | (have H2_ := (Option.bind_some _ _).symm.trans H; with_reducible exact H2_) | with_reducible exact H | (rw [hy109]; exact H) | exact H
                    have Ny109 := Aside0.mk hy109
                    clear hy109
                    by_cases c17 : x16_1 < (x7_1.length : Int)
                    · rw [if_pos c17] at H
                      have c17b0 : decide (x16_1 < (x7_1.length : Int)) = true := decide_eq_true c17
                      clear c17
                      replace H := Option.bind_eq_some_iff.mp H
                      obtain ⟨t111, A180, H⟩ := H
                      replace H : (secret_curve_times.l0 k1 a1 a2 (y109.set (x16_1 : Int).toNat t111) l0 (l0.length : Int) ji12) = some r := H
                      have A18 := Aside0.mk A180
                      clear A180
                      obtain ⟨y112, hy112⟩ : ∃ y_ : List Int, y_ = (y109.set (x16_1 : Int).toNat t111) := ⟨_, rfl⟩
                      replace H : (secret_curve_times.l0 k1 a1 a2 y112 l0 (l0.length : Int) ji12) = some r := by first | (rw [hy112]; with_reducible exact H) | (have H2_ := (Option.bind_some _ _).symm.trans H; rw [hy112]; with_reducible exact H2_) | (have H2_ := (Option.bind_some _ _).symm.trans H; with_reducible exact H2_) | with_reducible exact H | (rw [hy112]; exact H) | exact H
                      have Ny112 := Aside0.mk hy112
                      clear hy112
                      have H' := Aside0.mk H
                      clear H
                      have p106 : 0 ≤ (x16_1 : Int) := of_decide_eq_true (by first | (with_reducible assumption) | assumption)
                      have q106 : x16_1 < (l0.length : Int) := of_decide_eq_true (by first | (with_reducible assumption) | assumption)
                      obtain ⟨ad106, e106, hx106_0⟩ := Kd.at_int HR0.out x16_1 p106 q106
                      cases e106
                      replace hx106_0 := (HB.out.cell (World.block_lt_of_cell? w _ hx106_0)).trans hx106_0
                      replace p106 := eq_true p106
                      replace q106 := eq_true q106
                      obtain ⟨Ao20, co20, eo20⟩ := Kd.R_slice HO_7.out
                      subst eo20
                      have p107 : 0 ≤ ((ji12) : Int) := of_decide_eq_true (by first | (with_reducible assumption) | assumption)
                      have q107 : (ji12) < (x7_1.length : Int) := of_decide_eq_true (by first | (with_reducible assumption) | assumption)
                      obtain ⟨ad107, e107, hx107_0⟩ := Kd.at_int (Kd.R_reads' HO_7.out).2.2 (ji12) p107 q107
                      cases e107
                      replace p107 := eq_true p107
                      replace q107 := eq_true q107
                      go_wp2_with (first | ((with_reducible refine gate_callee (f := 96) rfl ?_); refine goesL_ (some 33) rfl rfl Try.func96 (by kernel_rfl) rfl #[.int .i64 (wrap64 ((rd x7_1 (ji12)) + (wrap64 ((rd l0 x16_1) * a2))))] rfl (by (try simp only [List.map_toArray, List.map_cons, List.map_nil]); first | done | (simp only [hji12]; rfl) | rfl | (simp only [List.length_drop, List.length_take]; rfl)) ?_; (with_reducible refine (secret_rest.calls (wrap64 ((rd x7_1 (ji12)) + (wrap64 ((rd l0 x16_1) * a2)))) t108 _ A15.out).mono ?_); rintro e w' ⟨rfl, ⟨nd, rfl⟩⟩; refine ⟨_, rfl, ?_⟩; (try (rw [drewN_self wr]; generalize hq_ : World.drewN wr _ = wr; have n0_ : Aside0 (Kd.R (Kd.int .i64) 3 wr w.heap.size (fun _ => True) (.slice (some ad107) x7_1.length co20) x7_1) := ⟨by rw [← hq_]; exact (by (with_reducible repeat (first | apply Kd.R_alloc | apply Kd.R_drewN | apply Kd.R_drew)); exact HO_7.out)⟩; have n1_ : Aside0 (Below w.heap.size w wr) := ⟨by rw [← hq_]; exact (by repeat (first | (with_reducible first | exact HB.out | apply below_alloc | apply pw_below_drewN | apply below_drew1) | exact HB.out))⟩; clear HO_7 HB hq_; have HO_7 := n0_; have HB := n1_; clear n0_ n1_)); have p16 : 0 ≤ ((ji12) : Int) := of_decide_eq_true (by first | (with_reducible assumption) | assumption); have q16 : ((ji12) : Int) < ((x7_1.length : Int) : Int) := of_decide_eq_true (by first | (with_reducible assumption) | assumption); obtain ⟨go16, co16, eo16, gb16, gl16, cl16, HG16⟩ := Kd.R_form HO_7.out (by omega); (first | cases eo16 | (injection eo16 with ea_ en_ ec_; (first | subst ea_ | (injection ea_ with ea_; subst ea_)); subst ec_; clear en_)); have GB16 := Aside0.mk gb16; have GG16 := Aside0.mk HG16; clear gb16 gl16 HG16; (first | simp only [add_plain] at hx107_0 | skip); obtain ⟨hx16_0, hf16_0⟩ := Kd.R_celln 0 HO_7.out ((ji12) : Int) p16 q16; replace p16 := eq_true p16; replace q16 := eq_true q16; obtain ⟨hy21_, hz21_⟩ := Kd.R_celln 0 HO_7.out ((ji12) : Int) (of_decide_eq_true (by first | (with_reducible assumption) | assumption)) (of_decide_eq_true (by first | (with_reducible assumption) | assumption)); have HP21 := Kd.R_putg HO_7.out ((ji12) : Int) t108) | ((with_reducible refine gate_store (t := 3) (p := 34) rfl ?_); refine store_event (t := 3) (p := 34) (v := ?vo_w22) (w1 := (wr.setCell ⟨go16, ((ji12) : Int).toNat, none⟩ (.int .i64 t108))) ?hg ?ho ?hn ?hr ?_; (case ho => rfl); (case hg => rfl); (case hn => rfl); (case hr => first | (go_simp; done) | (go_simp; rfl)); intro w22 hw; have hg : wr.grownBy w22 (some go16) := (by rw [hw]; exact HP21.2); have hp_ : Kd.R (Kd.int .i64) 3 w22 w.heap.size (fun _ => True) (.slice (some ⟨go16, 0, none⟩) x7_1.length co20) y109 := (by rw [hw, Ny109.out]; exact HP21.1); clear HP21; have n0_ := Aside0.mk (hp_); have n1_ := Aside0.mk ((by rw [hw]; exact below_set (HB.out) GB16.out : Below w.heap.size w w22)); clear HO_7; clear HB; have HO_7 := n0_; have HB := n1_; clear n0_ n1_; clear hg hw hp_; have p110 : 0 ≤ (x16_1 : Int) := of_decide_eq_true (by first | (with_reducible assumption) | assumption); have q110 : x16_1 < (y109.length : Int) := (by have h_ : (x16_1 : Int) < ((x7_1.length : Int) : Int) := of_decide_eq_true (by first | (with_reducible assumption) | assumption); first | (have e_ := (Kd.R_reads' HO_7.out).1; omega) | simpa only [Ny109.out, List.length_set] using h_); have ql110 : ((x16_1 : Int) < ((x7_1.length : Int) : Int)) = True := eq_true (of_decide_eq_true (by first | (with_reducible assumption) | assumption)); obtain ⟨ad110, e110, hx110_0⟩ := Kd.at_int (Kd.R_reads' HO_7.out).2.2 x16_1 p110 q110; obtain rfl : (⟨go16, 0, none⟩ : Addr) = ad110 := (by injection e110); (first | simp only [add_plain] at hx110_0 | simp only [add_at] at hx110_0 | simp only [Addr.add, Nat.zero_add] at hx110_0 | skip); replace p110 := eq_true p110; replace q110 := eq_true q110) | ((with_reducible refine gate_callee (f := 96) rfl ?_); refine goesL_ (some 47) rfl rfl Try.func96 (by kernel_rfl) rfl #[.int .i64 (wrap64 ((rd y109 x16_1) - (wrap64 ((wrap64 ((rd l0 x16_1) * a1)) * a2))))] rfl (by (try simp only [List.map_toArray, List.map_cons, List.map_nil]); first | done | rfl | (simp only [List.length_drop, List.length_take]; rfl)) ?_; (with_reducible refine (secret_rest.calls (wrap64 ((rd y109 x16_1) - (wrap64 ((wrap64 ((rd l0 x16_1) * a1)) * a2)))) t111 _ A18.out).mono ?_); rintro e w' ⟨rfl, ⟨nd, rfl⟩⟩; refine ⟨_, rfl, ?_⟩; (try (rw [drewN_self w22]; generalize hq_ : World.drewN w22 _ = w22; have n0_ : Aside0 (Kd.R (Kd.int .i64) 3 w22 w.heap.size (fun _ => True) (.slice (some ⟨go16, 0, none⟩) x7_1.length co20) y109) := ⟨by rw [← hq_]; exact (by (with_reducible repeat (first | apply Kd.R_alloc | apply Kd.R_drewN | apply Kd.R_drew)); exact HO_7.out)⟩; have n1_ : Aside0 (Below w.heap.size w w22) := ⟨by rw [← hq_]; exact (by repeat (first | (with_reducible first | exact HB.out | apply below_alloc | apply pw_below_drewN | apply below_drew1) | exact HB.out))⟩; clear HO_7 HB hq_; have HO_7 := n0_; have HB := n1_; clear n0_ n1_)); have p19 : 0 ≤ (x16_1 : Int) := of_decide_eq_true (by first | (with_reducible assumption) | assumption); have q19 : (x16_1 : Int) < ((x7_1.length : Int) : Int) := of_decide_eq_true (by first | (with_reducible assumption) | assumption); obtain ⟨hx19_0, hf19_0⟩ := Kd.R_celln 0 HO_7.out (x16_1 : Int) p19 q19; replace p19 := eq_true p19; replace q19 := eq_true q19; obtain ⟨hy23_, hz23_⟩ := Kd.R_celln 0 HO_7.out (x16_1 : Int) (of_decide_eq_true (by first | (with_reducible assumption) | assumption)) (of_decide_eq_true (by first | (with_reducible assumption) | assumption)); have HP23 := Kd.R_putg HO_7.out (x16_1 : Int) t111) | ((with_reducible refine gate_store (t := 3) (p := 48) rfl ?_); refine store_event (t := 3) (p := 48) (v := ?vo_w24) (w1 := (w22.setCell ⟨go16, (x16_1 : Int).toNat, none⟩ (.int .i64 t111))) ?hg ?ho ?hn ?hr ?_; (case ho => rfl); (case hg => rfl); (case hn => rfl); (case hr => first | (go_simp; done) | (go_simp; rfl)); intro w24 hw; have hg : w22.grownBy w24 (some go16) := (by rw [hw]; exact HP23.2); have hp_ : Kd.R (Kd.int .i64) 3 w24 w.heap.size (fun _ => True) (.slice (some ⟨go16, 0, none⟩) x7_1.length co20) y112 := (by rw [hw, Ny112.out]; exact HP23.1); clear HP23; have n0_ := Aside0.mk (hp_); have n1_ := Aside0.mk ((by rw [hw]; exact below_set (HB.out) GB16.out : Below w.heap.size w w24)); clear HO_7; clear HB; have HO_7 := n0_; have HB := n1_; clear n0_ n1_; clear hg hw hp_))
                      go_roundg k1
                      case measure => have := HK1.out; omega
                      case rel => exact ⟨(y112), (ji12), (by first | rfl | (simp; done) | (simp only [← hji12] <;> (first | rfl | simp)) | (simp [*]; done)), H', ⟨by have := HK1.out; omega⟩, ⟨by (with_reducible repeat (first | apply Kd.R_alloc | apply Kd.R_drewN | apply Kd.R_drew)); exact HO_7.out⟩, ⟨by repeat (first | (with_reducible first | exact HB.out | apply below_alloc | apply pw_below_drewN | apply below_drew1) | exact HB.out)⟩⟩
                    · rw [if_neg c17] at H
                      exact absurd H (by simp)
                  · rw [if_neg c14] at H
                    exact absurd H (by simp)
                · rw [if_neg c13] at H
                  exact absurd H (by simp)
              · rw [if_neg c11] at H
                exact absurd H (by simp)
            · rw [if_neg c10] at H
              exact absurd H (by simp)
          · rw [if_neg c9] at H
            have c9b0 : decide (x16_1 < (l0.length : Int)) = false := decide_eq_false c9
            clear c9
            obtain rfl := Option.some.inj H
            go_wp2
            go_ret
            exact ⟨_, by first | rfl | (simp [errW_none, errW_some] <;> rfl) | (simp only [← hji4]; first | rfl | (simp [errW_none, errW_some] <;> rfl)) | (simp [*, errW_none, errW_some] <;> rfl), by (with_reducible repeat (first | apply Kd.R_alloc | apply Kd.R_drewN | apply Kd.R_drew)); exact HO_7.out, by repeat (first | (with_reducible first | exact HB.out | apply below_alloc | apply pw_below_drewN | apply below_drew1) | exact HB.out)⟩
    · rw [if_neg c6] at H
      exact absurd H (by simp)
  · rw [if_neg c5] at H
    exact absurd H (by simp)

end Go.Proofs.Ythlbjdiicmojfaa.P
