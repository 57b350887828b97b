/- Parts of the proof of the law SecretFalse: walks of functions that it reaches, and plain facts about numbers, lists and curves; without a condition. -/
import Derived.Test.YthlbjdiicmojfaaSecretFalseM9
import Derived.Test.YthlbjdiicmojfaaSecretFalseM4
import Derived.Test.YthlbjdiicmojfaaSecretFalseM1
import Derived.Test.YthlbjdiicmojfaaSecretFalseM8
import Derived.Test.YthlbjdiicmojfaaSecretFalseM6
import Derived.Test.YthlbjdiicmojfaaSecretFalseM2
import Derived.Test.YthlbjdiicmojfaaSecretFalseM7
/-! Part Eqs5. -/
namespace Go.Proofs.Ythlbjdiicmojfaa.P
open Go.RowKit Go.Proofs.YthlbjdiicmojfaaW.PrintWords Go.Proofs.YthlbjdiicmojfaaW.PrintLast Go.Proofs.YthlbjdiicmojfaaW.PrintMore
set_option linter.unusedVariables false

/-! ### Which part is false -/
/-- The places below i without which the others lie on a curve. -/
def cands (l : List S43) (n i : Nat) : List Nat := (List.range i).filter fun j => lies (l.eraseIdx j) n
def candR (F : List Nat) : Int × Bool := if F.length = 1 then (((F.getD 0 0 : Nat) : Int), true) else (0, false)
def wrongR (l : List S43) (n : Int) : Int × Bool × Int :=
  if neededR l n = 0 then (if (l.length : Int) < n + 2 then (0, false, 9) else if lies l n.toNat = true then (0, false, 0) else ((candR (cands l n.toNat l.length)).1, (candR (cands l n.toNat l.length)).2, 0)) else (0, false, neededR l n)
theorem cands_succ (l : List S43) (n i : Nat) : cands l n (i + 1) = cands l n i ++ (if lies (l.eraseIdx i) n = true then [i] else []) := by
  unfold cands
  rw [List.range_succ, List.filter_append]
  congr 1
  by_cases h : lies (l.eraseIdx i) n = true
  · rw [if_pos h]; simp [h]
  · rw [if_neg h]; simp [h]
theorem cands_length (l : List S43) (n i : Nat) : (cands l n i).length ≤ i := by
  unfold cands
  have := List.length_filter_le (fun j => lies (l.eraseIdx j) n) (List.range i)
  rw [List.length_range] at this
  exact this
theorem candR_one {F : List Nat} (h : (candR F).2 = true) : ∃ a, F = [a] ∧ (candR F).1 = (a : Int) := by
  unfold candR at h ⊢
  by_cases h1 : F.length = 1
  · obtain ⟨a, rfl⟩ := List.length_eq_one_iff.1 h1
    exact ⟨a, rfl, rfl⟩
  · rw [if_neg h1] at h; cases h
theorem getLastD_snoc (F : List Nat) (a d : Nat) : (F ++ [a]).getLastD d = a := by
  simp [List.getLastD_eq_getLast?]
theorem valid_erase {l : List S43} (hv : valid l = 0) (i : Nat) : valid (l.eraseIdx i) = 0 := valid_sub hv (List.eraseIdx_sublist l i)
theorem swrong_loop (l : List S43) (n : Int) (hv : valid l = 0) (h1 : 1 ≤ n) (h6 : n ≤ 6) : ∀ (d i k : Nat), i + d = l.length → d < k →
    secret_wrong.l0 k l n ((cands l n.toNat i).map Int.ofNat) (l.length : Int) (i : Int) = some (candR (cands l n.toNat l.length)) := by
  obtain ⟨hlen, _, _⟩ := valid_iff.1 hv
  intro d
  induction d with
  | zero =>
    intro i k hi hk
    obtain ⟨k, rfl⟩ : ∃ j, k = j + 1 := ⟨k - 1, by omega⟩
    rw [secret_wrong.l0, if_neg (by omega), show i = l.length by omega, List.length_map]
    unfold candR
    by_cases h : (cands l n.toNat l.length).length = 1
    · obtain ⟨a, ha⟩ := List.length_eq_one_iff.1 h
      rw [ha]; rfl
    · rw [if_neg (by omega), if_neg h]
  | succ d ih =>
    intro i k hi hk
    obtain ⟨k, rfl⟩ : ∃ j, k = j + 1 := ⟨k - 1, by omega⟩
    have hil : i < l.length := by omega
    have ih' := ih (i + 1) k (by omega) (by omega)
    rw [cands_succ, List.map_append] at ih'
    have hcl := cands_length l n.toNat i
    rw [secret_wrong.l0, if_pos (by omega), secret_without.f, if_pos ⟨hlen, by omega, by omega⟩, Option.bind_some, Int.toNat_natCast, secret_lieOn.f, if_pos ⟨valid_erase hv i, h1, h6⟩, Option.bind_some]
    by_cases h : lies (l.eraseIdx i) n.toNat = true
    · rw [if_pos h] at ih'
      rw [if_pos h, if_pos (by rw [List.length_map]; omega), wrap_succ i (by omega)]
      exact ih'
    · rw [if_neg h] at ih'
      rw [if_neg h, wrap_succ i (by omega)]
      rw [List.map_nil, List.append_nil] at ih'
      exact ih'
theorem swrong_eq (l : List S43) (n : Int) (hv : valid l = 0) (h1 : 1 ≤ n) (h6 : n ≤ 6) (k : Nat) (hk : 100 ≤ k) : secret_wrong.f k l n = some (if lies l n.toNat = true then (0, false) else candR (cands l n.toNat l.length)) := by
  obtain ⟨hlen, _, _⟩ := valid_iff.1 hv
  rw [secret_wrong.f, secret_lieOn.f, if_pos ⟨hv, h1, h6⟩, Option.bind_some]
  by_cases h : lies l n.toNat = true
  · rw [if_pos h, if_pos h]
  · rw [if_neg h, if_neg h]
    exact swrong_loop l n hv h1 h6 l.length 0 k (by omega) (by omega)
def moreR (l : List S43) (n : Int) : Int := if neededR l n = 0 then (if (l.length : Int) < n + 2 then 9 else 0) else neededR l n
theorem more_eq (l : List S43) (n : Int) : secret_more.f l n = some (moreR l n) := by
  rw [secret_more.f, needed_eq, Option.bind_some]
  unfold moreR
  by_cases h : neededR l n = 0
  · obtain ⟨hv, h1, h6⟩ := neededR_ok h
    rw [if_pos h, if_pos h, wrap_id (a := n + 2) (by omega) (by omega)]
    split <;> rfl
  · rw [if_neg h, if_neg h]
theorem sWrong_eq (l : List S43) (n : Int) (k : Nat) (hk : 100 ≤ k) : secret_Wrong.f k l n = some (wrongR l n) := by
  rw [secret_Wrong.f, more_eq, Option.bind_some]
  unfold wrongR moreR
  by_cases h : neededR l n = 0
  · obtain ⟨hv, h1, h6⟩ := neededR_ok h
    rw [if_pos h, if_pos h]
    by_cases hs : (l.length : Int) < n + 2
    · rw [if_pos hs, if_pos hs, if_neg (by decide)]
    · rw [if_neg hs, if_neg hs, if_pos rfl, swrong_eq l n hv h1 h6 k hk, Option.bind_some]
      by_cases hl : lies l n.toNat = true
      · rw [if_pos hl, if_pos hl]
      · rw [if_neg hl, if_neg hl]
  · rw [if_neg h, if_neg h, if_neg h]
theorem rwrong_loop (l : List S43) (n : Int) (hv : valid l = 0) (h1 : 1 ≤ n) (h6 : n ≤ 6) : ∀ (d i k : Nat), i + d = l.length → 7000 + d < k →
    verditerref08_Wrong.l0 k l n (((cands l n.toNat i).getLastD 0 : Nat) : Int) (((cands l n.toNat i).length : Nat) : Int) (i : Int) = some ((candR (cands l n.toNat l.length)).1, (candR (cands l n.toNat l.length)).2, 0) := by
  obtain ⟨hlen, _, _⟩ := valid_iff.1 hv
  intro d
  induction d with
  | zero =>
    intro i k hi hk
    obtain ⟨k, rfl⟩ : ∃ j, k = j + 1 := ⟨k - 1, by omega⟩
    rw [verditerref08_Wrong.l0, if_neg (by omega), show i = l.length by omega]
    unfold candR
    by_cases h : (cands l n.toNat l.length).length = 1
    · obtain ⟨a, ha⟩ := List.length_eq_one_iff.1 h
      rw [ha]; rfl
    · rw [if_neg (by omega), if_neg h]
  | succ d ih =>
    intro i k hi hk
    obtain ⟨k, rfl⟩ : ∃ j, k = j + 1 := ⟨k - 1, by omega⟩
    have hil : i < l.length := by omega
    have ih' := ih (i + 1) k (by omega) (by omega)
    have hcl := cands_length l n.toNat i
    rw [cands_succ] at ih'
    rw [verditerref08_Wrong.l0, if_pos (by omega), rwo_eq l i hil (by omega), Option.bind_some, rlie_eq _ n (valid_erase hv i) h1 h6 k (by omega), Option.bind_some]
    by_cases h : lies (l.eraseIdx i) n.toNat = true
    · rw [if_pos h] at ih'
      rw [if_pos h, wrap_succ i (by omega), wrap_succ _ (by omega)]
      rw [List.length_append, getLastD_snoc] at ih'
      exact ih'
    · rw [if_neg h, List.append_nil] at ih'
      rw [if_neg h, wrap_succ i (by omega)]
      exact ih'
theorem rWrong_eq (l : List S43) (n : Int) (k : Nat) (hk : 8000 ≤ k) : verditerref08_Wrong.f k l n = some (wrongR l n) := by
  rw [verditerref08_Wrong.f, rneeded_eq l n k (by omega), Option.bind_some]
  unfold wrongR
  by_cases h : neededR l n = 0
  · obtain ⟨hv, h1, h6⟩ := neededR_ok h
    obtain ⟨hlen, _, _⟩ := valid_iff.1 hv
    rw [if_pos h, if_pos h, wrap_id (a := n + 2) (by omega) (by omega)]
    by_cases hs : (l.length : Int) < n + 2
    · rw [if_pos hs, if_pos hs]
    · rw [if_neg hs, if_neg hs, rlie_eq l n hv h1 h6 k (by omega), Option.bind_some]
      by_cases hl : lies l n.toNat = true
      · rw [if_pos hl, if_pos hl]
      · rw [if_neg hl, if_neg hl]
        exact rwrong_loop l n hv h1 h6 l.length 0 k (by omega) (by omega)
  · rw [if_neg h, if_neg h]
theorem wrongR_true {l : List S43} {n : Int} (h : (wrongR l n).2.1 = true) : neededR l n = 0 ∧ n + 2 ≤ (l.length : Int) ∧ lies l n.toNat = false ∧ ∃ a, a < l.length ∧ cands l n.toNat l.length = [a] ∧ wrongR l n = ((a : Int), true, 0) ∧ lies (l.eraseIdx a) n.toNat = true := by
  unfold wrongR at h
  by_cases hn : neededR l n = 0
  · rw [if_pos hn] at h
    by_cases hs : (l.length : Int) < n + 2
    · rw [if_pos hs] at h; cases h
    · rw [if_neg hs] at h
      by_cases hl : lies l n.toNat = true
      · rw [if_pos hl] at h; cases h
      · rw [if_neg hl] at h
        obtain ⟨a, ha, he⟩ := candR_one h
        have hm : a ∈ cands l n.toNat l.length := by rw [ha]; simp
        unfold cands at hm
        rw [List.mem_filter, List.mem_range] at hm
        refine ⟨hn, by omega, Bool.eq_false_iff.2 hl, a, hm.1, ha, ?_, hm.2⟩
        unfold wrongR
        have h' : (candR (cands l n.toNat l.length)).2 = true := h
        rw [if_pos hn, if_neg hs, if_neg hl, he, h']
  · rw [if_neg hn] at h; cases h
end Go.Proofs.Ythlbjdiicmojfaa.P

/-! Part PF67. -/
-- Written for this claim by wip/print_more.py (a session's program that runs the kit's printer with hand-proved functions beside). Lean checks it.
namespace Go.Proofs.Ythlbjdiicmojfaa.P
open Go.RowKit Go.Proofs.YthlbjdiicmojfaaW.PrintWords Go.Proofs.YthlbjdiicmojfaaW.PrintLast Go.Proofs.YthlbjdiicmojfaaW.PrintMore
attribute [local go_sem] max2_int min2_int max_two min_two max_three min_three max_four min_four   -- for this text's walks alone
set_option linter.unusedVariables false
set_option linter.unusedSimpArgs false

/-! ### verditerref08_Scale: function 67 -/
def verditerref08_Scale.l0 : Nat → List (S43) → Int → List (S43) → Int → Option ((List (S43)) × Int)
  | 0, _, _, _, _ => none
  | k + 1, x0, x1, x7, x8 => if x8 < (x0.length : Int) then (if 0 ≤ x8 then ((verditerref08_mod.f (wrap64 (x1 * ((rd_T43 x0 x8).f1)))).bind fun t502 => (if x7.length < 8796093022208 then (verditerref08_Scale.l0 k x0 x1 (x7 ++ [(⟨(rd_T43 x0 x8).f0, t502⟩ : S43)]) (wrap64 (x8 + 1))) else (none))) else (none)) else (some (x7, 0))
def verditerref08_Scale.f (k : Nat) (l0 : List (S43)) (a1 : Int) : Option ((List (S43)) × Int) := (verditerref08_Validate.f k l0).bind fun t498 => (if t498 = 0 then ((verditerref08_isNumber.f a1).bind fun t499 => (if t499 = true then (verditerref08_Scale.l0 k l0 a1 ([] : List (S43)) 0) else (some (([] : List (S43)), 1)))) else (some (([] : List (S43)), t498)))
theorem verditerref08_Scale.mono_l : ∀ k, (∀ y0 y1 y2 y3, LeO (verditerref08_Scale.l0 k y0 y1 y2 y3) (verditerref08_Scale.l0 (k + 1) y0 y1 y2 y3))
  | 0 => fun _ _ _ _ r h => by simp [verditerref08_Scale.l0] at h
  | k + 1 => by
    have ih0 := verditerref08_Scale.mono_l k
    · intro y0 y1 y2 y3
      unfold verditerref08_Scale.l0
      repeat' first
      | (with_reducible exact ih0 _ _ _ _)
      | (with_reducible exact verditerref08_Validate.mono _ _)
      | (with_reducible exact LeO.refl _)
      | (with_reducible exact LeO.none _)
      | (with_reducible refine LeO.ite ?_ ?_)
      | (with_reducible refine LeO.bind ?_ (fun _ => ?_))
      | exact ih0 _ _ _ _
      | exact verditerref08_Validate.mono _ _
      | exact LeO.none _
      | refine LeO.ite ?_ ?_
      | refine LeO.bind ?_ (fun _ => ?_)
theorem verditerref08_Scale.mono : ∀ a0 a1 k, LeO (verditerref08_Scale.f k a0 a1) (verditerref08_Scale.f (k + 1) a0 a1) := by
  intro a0 a1 k
  have ih0 := verditerref08_Scale.mono_l k
  unfold verditerref08_Scale.f
  repeat' first
      | (with_reducible exact ih0 _ _ _ _)
      | (with_reducible exact verditerref08_Validate.mono _ _)
      | (with_reducible exact LeO.refl _)
      | (with_reducible exact LeO.none _)
      | (with_reducible refine LeO.ite ?_ ?_)
      | (with_reducible refine LeO.bind ?_ (fun _ => ?_))
      | exact ih0 _ _ _ _
      | exact verditerref08_Validate.mono _ _
      | exact LeO.none _
      | refine LeO.ite ?_ ?_
      | refine LeO.bind ?_ (fun _ => ?_)
def verditerref08_Scale.T10 : Bool × List (List Nat × List Nat) := (true, [([], []), ([], []), ([], []), ([1, 2], [1, 2]), ([3], [3]), ([4], [4]), ([], []), ([], []), ([], []), ([7, 8], [7, 8]), ([9], [9]), ([10], [10]), ([6, 11], [6, 11]), ([12], [12]), ([5, 13], [5, 13]), ([14], [14]), ([0, 15, 13], [0, 15]), ([16, 16, 0, 1, 2, 3, 4, 5, 6, 7, 8, 9, 10, 11, 12, 13, 14, 15, 16], [0, 16])])
def verditerref08_Scale.B10 : List Nat := [0, 0, 0, 6, 14, 30, 0, 0, 0, 384, 896, 1920, 4032, 8128, 16382, 32766, 65535, 131071]
theorem verditerref08_Scale.tab10 : rtab .any (opsOf Try.f67 10) = verditerref08_Scale.T10 := by kernel_rfl
theorem verditerref08_Scale.bits10 : waitsOk verditerref08_Scale.T10.2 verditerref08_Scale.B10 = true := by kernel_rfl
set_option maxHeartbeats 8000000 in
set_option maxRecDepth 100000 in
theorem verditerref08_Scale.calls (k : Nat) (A0 : Option Addr) (c0 : Nat) (l0 : List (S43)) (a1 : Int) (r1 : List (S43)) (r2 : Int) (w : World) (hr0 : Kd.C k43 w A0 l0.length l0) (hc0 : l0.length ≤ c0) (h : verditerref08_Scale.f k l0 a1 = some (r1, r2)) :
    Calls Try.prog 67 #[.slice A0 l0.length c0, .int .i64 a1] w fun e w' => ∃ v0_ : Value, e = .returned (.tuple #[v0_, .int .i64 r2]) ∧ Kd.R k43 43 w' w.heap.size (fun _ => True) v0_ r1 ∧ Below w.heap.size w w' := by
  have hu43 := Try.underlying43
  have HR0 := Aside0.mk hr0
  have HC0 := Aside0.mk hc0
  clear hr0 hc0
  have HB := Aside0.mk (Below.refl w.heap.size w)
  have H : ((verditerref08_Validate.f k l0).bind fun t498 => (if t498 = 0 then ((verditerref08_isNumber.f a1).bind fun t499 => (if t499 = true then (verditerref08_Scale.l0 k l0 a1 ([] : List (S43)) 0) else (some (([] : List (S43)), 1)))) else (some (([] : List (S43)), t498)))) = some (r1, r2) := h
  clear h
  replace H := Option.bind_eq_some_iff.mp H
  obtain ⟨t498, A30, H⟩ := H
  replace H : (if t498 = 0 then ((verditerref08_isNumber.f a1).bind fun t499 => (if t499 = true then (verditerref08_Scale.l0 k l0 a1 ([] : List (S43)) 0) else (some (([] : List (S43)), 1)))) else (some (([] : List (S43)), t498))) = some (r1, r2) := H
  have A3 := Aside0.mk A30
  clear A30
  by_cases c4 : t498 = 0
  · rw [if_pos c4] at H
    have c4b0 : (t498 == 0) = true := beq_iff_eq.mpr c4
    have c4b1 : (t498 != 0) = false := bne_eq_false_iff_eq.mpr c4
    clear c4
    replace H := Option.bind_eq_some_iff.mp H
    obtain ⟨t499, A50, H⟩ := H
    replace H : (if t499 = true then (verditerref08_Scale.l0 k l0 a1 ([] : List (S43)) 0) else (some (([] : List (S43)), 1))) = some (r1, r2) := H
    have A5 := Aside0.mk A50
    clear A50
    by_cases c6 : t499 = true
    · subst c6
      have H1 : (verditerref08_Scale.l0 k l0 a1 ([] : List (S43)) 0) = some (r1, r2) := by rw [if_pos rfl] at H; exact H
      clear H
      have H := H1
      clear H1
      have H' := Aside0.mk H
      clear H
      go_enter Try.func67, Try.ntmps67
      go_wp2_with (first | ((with_reducible refine gate_callee (f := 66) rfl ?_); refine goesL_ (some 10) rfl rfl Try.func66 (by kernel_rfl) rfl #[.slice A0 l0.length c0] rfl (by (try simp only [List.map_toArray, List.map_cons, List.map_nil]); first | done | rfl | (simp only [List.length_drop, List.length_take]; rfl)) ?_; (with_reducible refine (verditerref08_Validate.calls k _ _ l0 t498 _ ?side1 ?side2 A3.out).mono ?_); (case side1 => repeat (first | exact HR0.out | (with_reducible refine Kd.C_alloc ?_ _) | (with_reducible refine Kd.C_drewN ?_ _) | (with_reducible refine Kd.C_drew ?_))); (case side2 => exact HC0.out); rintro e w' ⟨rfl, ⟨nd, rfl⟩⟩; refine ⟨_, rfl, ?_⟩) | ((with_reducible refine gate_callee (f := 75) rfl ?_); refine goesL_ (some 15) rfl rfl Try.func75 (by kernel_rfl) rfl #[.int .i64 a1] rfl (by (try simp only [List.map_toArray, List.map_cons, List.map_nil]); first | done | rfl | (simp only [List.length_drop, List.length_take]; rfl)) ?_; (with_reducible refine (verditerref08_isNumber.calls a1 true _ A5.out).mono ?_); rintro e w' ⟨rfl, ⟨nd, rfl⟩⟩; refine ⟨_, rfl, ?_⟩))
      go_loopg [7, 8] k (fun kq v7 v8 w' => ∃ (x7_1 : List (S43)) (x8_1 : Int), v8 = .int .i64 x8_1 ∧ Aside0 (verditerref08_Scale.l0 kq l0 a1 x7_1 x8_1 = some (r1, r2)) ∧ Aside0 (kq ≤ k) ∧ Aside0 (Kd.R k43 43 w' w.heap.size (fun _ => True) v7 x7_1) ∧ Aside0 (Below w.heap.size w w'))
      case atStart => exact ⟨(([] : List (S43))), (0), (by first | rfl | (simp; done) | (simp [*]; done)), H', ⟨Nat.le_refl _⟩, ⟨by first | exact Kd.R_nil _ _ _ _ _ | exact Kd.N_nil _ _ _ _ _ | exact Kd.V_nil _ _ _ _ _ | exact Kd.Q_nil _ _ _ _ _ | exact Kd.S_nil _ _ _ _ _⟩, ⟨by repeat (first | (with_reducible first | exact HB.out | apply below_alloc | apply pw_below_drewN | apply below_drew1) | exact HB.out)⟩⟩
      case round =>
        clear H'
        try clear p2
        try clear c4
        try clear c4b0
        try clear c4b1
        try clear c6
        obtain ⟨x7_1, x8_1, rfl, HA, HK1, HO_7, HB⟩ := hrel
        cases gk with
        | zero => exact absurd HA.out (by simp [verditerref08_Scale.l0])
        | succ k1 =>
          have H := HA.out
          clear HA
          simp only [verditerref08_Scale.l0] at H
          by_cases c7 : x8_1 < (l0.length : Int)
          · rw [if_pos c7] at H
            have c7b0 : decide (x8_1 < (l0.length : Int)) = true := decide_eq_true c7
            clear c7
            by_cases c8 : 0 ≤ x8_1
            · rw [if_pos c8] at H
              have c8b0 : decide (0 ≤ x8_1) = true := decide_eq_true c8
              clear c8
              replace H := Option.bind_eq_some_iff.mp H
              obtain ⟨t502, A90, H⟩ := H
              replace H : (if x7_1.length < 8796093022208 then (verditerref08_Scale.l0 k1 l0 a1 (x7_1 ++ [(⟨(rd_T43 l0 x8_1).f0, t502⟩ : S43)]) (wrap64 (x8_1 + 1))) else (none)) = some (r1, r2) := H
              have A9 := Aside0.mk A90
              clear A90
              by_cases c10 : x7_1.length < 8796093022208
              · rw [if_pos c10] at H
                have LMc10 := Aside0.mk c10
                clear c10
                obtain ⟨y503, hy503⟩ : ∃ y_ : List (S43), y_ = (x7_1 ++ [(⟨(rd_T43 l0 x8_1).f0, t502⟩ : S43)]) := ⟨_, rfl⟩
                replace H : (verditerref08_Scale.l0 k1 l0 a1 y503 (wrap64 (x8_1 + 1))) = some (r1, r2) := by first | (rw [hy503]; with_reducible exact H) | (have H2_ := (Option.bind_some _ _).symm.trans H; rw [hy503]; with_reducible exact H2_) | (have H2_ := (Option.bind_some _ _).symm.trans H; with_reducible exact H2_) | with_reducible exact H | (rw [hy503]; exact H) | exact H
                have Ny503 := Aside0.mk hy503
                clear hy503
                have H' := Aside0.mk H
                clear H
                try go_wp2
                have n0_ := Aside0.mk (Kd.R_drew HO_7.out)
                have n1_ := Aside0.mk (below_drew1 HB.out)
                clear HO_7
                clear HB
                have HO_7 := n0_
                have HB := n1_
                clear n0_ n1_
                have p500 : 0 ≤ (x8_1 : Int) := of_decide_eq_true (by first | (with_reducible assumption) | assumption)
                have q500 : x8_1 < (l0.length : Int) := of_decide_eq_true (by first | (with_reducible assumption) | assumption)
                obtain ⟨ad500, e500, hx500_0, hx500_1⟩ := at_T43 HR0.out x8_1 p500 q500
                have hw500_1 := hx500_1
                have hw500_0 := hx500_0
                cases e500
                replace hx500_0 := (HB.out.cell (World.block_lt_of_cell? w _ hx500_0)).trans hx500_0
                replace hx500_1 := (HB.out.cell (World.block_lt_of_cell? w _ hx500_1)).trans hx500_1
                replace p500 := eq_true p500
                replace q500 := eq_true q500
                have p501 : 0 ≤ (x8_1 : Int) := of_decide_eq_true (by first | (with_reducible assumption) | assumption)
                have q501 : x8_1 < (l0.length : Int) := of_decide_eq_true (by first | (with_reducible assumption) | assumption)
                obtain ⟨ad501, e501, hx501_0, hx501_1⟩ := at_T43 HR0.out x8_1 p501 q501
                have hw501_1 := hx501_1
                have hw501_0 := hx501_0
                obtain rfl : ad500 = ad501 := (by injection e501)
                replace hx501_0 := (HB.out.cell (World.block_lt_of_cell? w _ hx501_0)).trans hx501_0
                replace hx501_1 := (HB.out.cell (World.block_lt_of_cell? w _ hx501_1)).trans hx501_1
                replace p501 := eq_true p501
                replace q501 := eq_true q501
                refine start_ (n := 18) (S := fun w' => w'.cell? (ad500.add ((x8_1).toNat * 2)) = some (.int .i64 ((rd_T43 l0 x8_1).f0)) ∧ w'.cell? ⟨(ad500.add ((x8_1).toNat * 2)).block, (ad500.add ((x8_1).toNat * 2)).off + 1, none⟩ = some (.int .i64 ((rd_T43 l0 x8_1).f1)) ∧ w'.cell? (ad500.add ((x8_1).toNat * 2)) = some (.int .i64 ((rd_T43 l0 x8_1).f0)) ∧ w'.cell? ⟨(ad500.add ((x8_1).toNat * 2)).block, (ad500.add ((x8_1).toNat * 2)).off + 1, none⟩ = some (.int .i64 ((rd_T43 l0 x8_1).f1))) (ds := []) #[false, false, false, false, false, false, false, false, false, false, false, false, false, false, false, false, false, false] (by kernel_rfl) rfl rfl ⟨((HB.out.cell (World.block_lt_of_cell? w _ hw500_0)).trans hw500_0), ((HB.out.cell (World.block_lt_of_cell? w _ hw500_1)).trans hw500_1), ((HB.out.cell (World.block_lt_of_cell? w _ hw501_0)).trans hw501_0), ((HB.out.cell (World.block_lt_of_cell? w _ hw501_1)).trans hw501_1)⟩ (fun hHeld => ?_); refine with_tabW verditerref08_Scale.tab10 verditerref08_Scale.bits10 (fun HT_ HW_ => ?_)
                generalize wr.drew = w11 at HO_7 HB hx500_0 hx500_1 hx501_0 hx501_1 hHeld ⊢
                refine pure_ (i := 0) (N := some 23) (v := ?_) (a' := ?_) #[true, false, false, false, false, false, false, false, false, false, false, false, false, false, false, false, false, false] rfl rfl (any_of HT_.out (by kernel_rfl)) (fun _ _ _ h => h) (Or.inl ⟨by rfl, ?_⟩) ?_ ?_
                rotate_left
                · intro w'
                  go_simp
                  with_reducible rfl
                rotate_left
                · simp only [Act.put, List.setIfInBounds_toArray, List.set_cons_zero, List.set_cons_succ, i64_w, i32_w]
                  rfl
                refine pure_ (i := 1) (N := some 24) (v := ?_) (a' := ?_) #[true, true, false, false, false, false, false, false, false, false, false, false, false, false, false, false, false, false] rfl rfl (any_of HT_.out (by kernel_rfl)) (fun _ _ _ h => h) (Or.inl ⟨by rfl, ?_⟩) ?_ ?_
                rotate_left
                · intro w'
                  go_simp
                  with_reducible rfl
                rotate_left
                · simp only [Act.put, List.setIfInBounds_toArray, List.set_cons_zero, List.set_cons_succ, i64_w, i32_w]
                  rfl
                refine pure_ (i := 2) (N := some 25) (v := ?_) (a' := ?_) #[true, true, true, false, false, false, false, false, false, false, false, false, false, false, false, false, false, false] rfl rfl (any_of HT_.out (by kernel_rfl)) (fun _ _ _ h => h) (Or.inl ⟨by rfl, ?_⟩) ?_ ?_
                rotate_left
                · intro w'
                  go_simp
                  with_reducible rfl
                rotate_left
                · simp only [Act.put, List.setIfInBounds_toArray, List.set_cons_zero, List.set_cons_succ, i64_w, i32_w]
                  rfl
                refine pure_ (i := 3) (N := some 26) (v := ?_) (a' := ?_) #[true, true, true, true, false, false, false, false, false, false, false, false, false, false, false, false, false, false] rfl rfl (any_of HT_.out (by kernel_rfl)) (fun _ _ _ h => h) (Or.inl ⟨by rfl, ?_⟩) ?_ ?_
                rotate_left
                · intro w'
                  go_simp
                  with_reducible rfl
                rotate_left
                · simp only [Act.put, List.setIfInBounds_toArray, List.set_cons_zero, List.set_cons_succ, i64_w, i32_w]
                  rfl
                refine pure_ (i := 4) (N := some 27) (v := ?_) (a' := ?_) #[true, true, true, true, true, false, false, false, false, false, false, false, false, false, false, false, false, false] rfl rfl (any_of HT_.out (by kernel_rfl)) (fun _ _ _ h => h) (Or.inl ⟨by rfl, ?_⟩) ?_ ?_
                rotate_left
                · intro w'
                  go_simp
                  with_reducible rfl
                rotate_left
                · simp only [Act.put, List.setIfInBounds_toArray, List.set_cons_zero, List.set_cons_succ, i64_w, i32_w]
                  rfl
                refine pure_ (i := 6) (N := some 29) (v := ?_) (a' := ?_) #[true, true, true, true, true, false, true, false, false, false, false, false, false, false, false, false, false, false] rfl rfl (any_of HT_.out (by kernel_rfl)) (fun _ _ _ h => h) (Or.inl ⟨by rfl, ?_⟩) ?_ ?_
                rotate_left
                · intro w'
                  go_simp
                  with_reducible rfl
                rotate_left
                · simp only [Act.put, List.setIfInBounds_toArray, List.set_cons_zero, List.set_cons_succ, i64_w, i32_w]
                  rfl
                refine pure_ (i := 7) (N := some 30) (v := ?_) (a' := ?_) #[true, true, true, true, true, false, true, true, false, false, false, false, false, false, false, false, false, false] rfl rfl (any_of HT_.out (by kernel_rfl)) (fun _ _ _ h => h) (Or.inl ⟨by rfl, ?_⟩) ?_ ?_
                rotate_left
                · intro w'
                  go_simp
                  with_reducible rfl
                rotate_left
                · simp only [Act.put, List.setIfInBounds_toArray, List.set_cons_zero, List.set_cons_succ, i64_w, i32_w]
                  rfl
                refine pure_ (i := 8) (N := some 31) (v := ?_) (a' := ?_) #[true, true, true, true, true, false, true, true, true, false, false, false, false, false, false, false, false, false] rfl rfl (any_of HT_.out (by kernel_rfl)) (fun _ _ _ h => h) (Or.inl ⟨by rfl, ?_⟩) ?_ ?_
                rotate_left
                · intro w'
                  go_simp
                  with_reducible rfl
                rotate_left
                · simp only [Act.put, List.setIfInBounds_toArray, List.set_cons_zero, List.set_cons_succ, i64_w, i32_w]
                  rfl
                refine pure_ (i := 9) (N := some 32) (v := ?_) (a' := ?_) #[true, true, true, true, true, false, true, true, true, true, false, false, false, false, false, false, false, false] rfl rfl (any_of HT_.out (by kernel_rfl)) (fun _ _ _ h => h) (Or.inl ⟨by rfl, ?_⟩) ?_ ?_
                rotate_left
                · intro w'
                  go_simp
                  with_reducible rfl
                rotate_left
                · simp only [Act.put, List.setIfInBounds_toArray, List.set_cons_zero, List.set_cons_succ, i64_w, i32_w]
                  rfl
                refine pure_ (i := 10) (N := some 33) (v := ?_) (a' := ?_) #[true, true, true, true, true, false, true, true, true, true, true, false, false, false, false, false, false, false] rfl rfl (any_of HT_.out (by kernel_rfl)) (fun _ _ _ h => h) (Or.inl ⟨by rfl, ?_⟩) ?_ ?_
                rotate_left
                · intro w'
                  go_simp
                  with_reducible rfl
                rotate_left
                · simp only [Act.put, List.setIfInBounds_toArray, List.set_cons_zero, List.set_cons_succ, i64_w, i32_w]
                  rfl
                refine take_ (i := 5) (N := some 28) (v := ?_) (a' := ?_) #[true, true, true, true, true, true, true, true, true, true, true, false, false, false, false, false, false, false] rfl rfl (take_ofW HT_.out HW_.out (by kernel_rfl)) (fun _ _ _ h => h) (Or.inl ⟨by rfl, ?_⟩) hHeld ?_ ?_
                rotate_left
                · rintro w' ⟨s0, s1, s2, s3⟩
                  go_simp
                  with_reducible rfl
                rotate_left
                · simp only [Act.put, List.setIfInBounds_toArray, List.set_cons_zero, List.set_cons_succ, i64_w, i32_w]
                  rfl
                refine take_ (i := 11) (N := some 34) (v := ?_) (a' := ?_) #[true, true, true, true, true, true, true, true, true, true, true, true, false, false, false, false, false, false] rfl rfl (take_ofW HT_.out HW_.out (by kernel_rfl)) (fun _ _ _ h => h) (Or.inl ⟨by rfl, ?_⟩) hHeld ?_ ?_
                rotate_left
                · rintro w' ⟨s0, s1, s2, s3⟩
                  go_simp
                  with_reducible rfl
                rotate_left
                · simp only [Act.put, List.setIfInBounds_toArray, List.set_cons_zero, List.set_cons_succ, i64_w, i32_w]
                  rfl
                refine pure_ (i := 12) (N := some 35) (v := ?_) (a' := ?_) #[true, true, true, true, true, true, true, true, true, true, true, true, true, false, false, false, false, false] rfl rfl (any_of HT_.out (by kernel_rfl)) (fun _ _ _ h => h) (Or.inl ⟨by rfl, ?_⟩) ?_ ?_
                rotate_left
                · intro w'
                  go_simp
                  with_reducible rfl
                rotate_left
                · simp only [Act.put, List.setIfInBounds_toArray, List.set_cons_zero, List.set_cons_succ, i64_w, i32_w]
                  rfl
                refine one_ (i := 13) (N := some 36) #[true, true, true, true, true, true, true, true, true, true, true, true, true, true, false, false, false, false] rfl rfl (one_of HT_.out (by kernel_rfl)) (by decide) (fun K hK => ?_)
                refine goes_ Try.func104 (by kernel_rfl) rfl #[.int .i64 (wrap64 (a1 * ((rd_T43 l0 x8_1).f1)))] (by rfl) rfl rfl (by (try simp only [List.map_toArray, List.map_cons, List.map_nil]); first | done | rfl | (simp only [List.length_drop, List.length_take]; rfl)) ?_
                with_reducible refine (verditerref08_mod.calls (wrap64 (a1 * ((rd_T43 l0 x8_1).f1))) t502 _ A9.out).mono ?_
                rintro e w' ⟨rfl, ⟨nd, rfl⟩⟩
                refine ⟨_, rfl, ?_⟩
                refine hK.out _ _ ⟨((HB.out.cell (World.block_lt_of_cell? w _ hw500_0)).trans hw500_0), ((HB.out.cell (World.block_lt_of_cell? w _ hw500_1)).trans hw500_1), ((HB.out.cell (World.block_lt_of_cell? w _ hw501_0)).trans hw501_0), ((HB.out.cell (World.block_lt_of_cell? w _ hw501_1)).trans hw501_1)⟩ (fun hHeld => ?_)
                clear hK K
                refine norm_ (a' := ?_) ?_ ?_
                rotate_left
                · show Act.put _ (some 36) _ = _
                  simp only [Act.put, List.setIfInBounds_toArray, List.set_cons_zero, List.set_cons_succ, i64_w, i32_w]
                  rfl
                refine pure_ (i := 14) (N := some 37) (v := ?_) (a' := ?_) #[true, true, true, true, true, true, true, true, true, true, true, true, true, true, true, false, false, false] rfl rfl (any_of HT_.out (by kernel_rfl)) (fun _ _ _ h => h) (Or.inl ⟨by rfl, ?_⟩) ?_ ?_
                rotate_left
                · intro w'
                  go_simp
                  with_reducible rfl
                rotate_left
                · simp only [Act.put, List.setIfInBounds_toArray, List.set_cons_zero, List.set_cons_succ, i64_w, i32_w]
                  rfl
                refine one_ (i := 15) (N := some 38) #[true, true, true, true, true, true, true, true, true, true, true, true, true, true, true, true, false, false] rfl rfl (one_of HT_.out (by kernel_rfl)) (by decide) (fun K hK => ?_)
                refine value_ (w1 := ?_) (v := ?_) (by rfl) rfl ?_ ?_
                rotate_left 2
                · go_simp
                  constructor
                  · rfl
                  · rfl
                refine hK.out _ _ ⟨(World.cell?_alloc_lt _ _ _ (World.block_lt_of_cell? _ _ (((HB.out.cell (World.block_lt_of_cell? w _ hw500_0)).trans hw500_0)))).trans (((HB.out.cell (World.block_lt_of_cell? w _ hw500_0)).trans hw500_0)), (World.cell?_alloc_lt _ _ _ (World.block_lt_of_cell? _ _ (((HB.out.cell (World.block_lt_of_cell? w _ hw500_1)).trans hw500_1)))).trans (((HB.out.cell (World.block_lt_of_cell? w _ hw500_1)).trans hw500_1)), (World.cell?_alloc_lt _ _ _ (World.block_lt_of_cell? _ _ (((HB.out.cell (World.block_lt_of_cell? w _ hw501_0)).trans hw501_0)))).trans (((HB.out.cell (World.block_lt_of_cell? w _ hw501_0)).trans hw501_0)), (World.cell?_alloc_lt _ _ _ (World.block_lt_of_cell? _ _ (((HB.out.cell (World.block_lt_of_cell? w _ hw501_1)).trans hw501_1)))).trans (((HB.out.cell (World.block_lt_of_cell? w _ hw501_1)).trans hw501_1))⟩ (fun hHeld => ?_)
                clear hK K
                refine norm_ (a' := ?_) ?_ ?_
                rotate_left
                · show Act.put _ (some 38) _ = _
                  simp only [Act.put, List.setIfInBounds_toArray, List.set_cons_zero, List.set_cons_succ, i64_w, i32_w]
                  rfl
                refine one_ (i := 16) (N := some 39) #[true, true, true, true, true, true, true, true, true, true, true, true, true, true, true, true, true, false] rfl rfl (one_of HT_.out (by kernel_rfl)) (by decide) (fun K hK => ?_)
                refine Kd.R_append_step k43 (w0 := w) w.heap.size (by rfl) (.tmp 23) (.tmp 38) 22 43 (.agg #[(.int .i64 0), (.int .i64 0)]) 16 rfl Try.underlying22 info43 rfl (by decide) (by omega) u7 x7_1 (⟨(rd_T43 l0 x8_1).f0, t502⟩ : S43) [.int .i64 ((rd_T43 l0 x8_1).f0), .int .i64 t502] (fun _ => True) (fun _ => False) rfl rfl ?aP (fun _ hk => hk.elim) ?aF ?aO ?aB ?aS ?aL ?_
                (case aP => exact k43_mkM _ _ _ (⟨(rd_T43 l0 x8_1).f0, t502⟩ : S43))
                (case aB => exact (by repeat (first | (with_reducible first | exact HB.out | apply below_alloc | apply pw_below_drewN | apply below_drew1) | exact HB.out)))
                (case aF => exact (fun _ _ => trivial))
                (case aO => exact (by (with_reducible repeat (first | apply Kd.R_alloc | apply Kd.R_drewN | apply Kd.R_drew)); exact HO_7.out))
                (case aS => exact (below_size (by repeat (first | (with_reducible first | exact HB.out | apply below_alloc | apply pw_below_drewN | apply below_drew1) | exact HB.out))))
                (case aL => have := LMc10.out; omega)
                intro v504 w12 ho hb hg hat
                rw [← Ny503.out] at ho
                have n0_ := Aside0.mk (hb)
                have n1_ := Aside0.mk (ho)
                clear HB
                clear HO_7
                have HB := n0_
                have HO505 := n1_
                clear n0_ n1_
                clear ho hb hg hat
                refine hK.out _ _ ⟨((HB.out.cell (World.block_lt_of_cell? w _ hw500_0)).trans hw500_0), ((HB.out.cell (World.block_lt_of_cell? w _ hw500_1)).trans hw500_1), ((HB.out.cell (World.block_lt_of_cell? w _ hw501_0)).trans hw501_0), ((HB.out.cell (World.block_lt_of_cell? w _ hw501_1)).trans hw501_1)⟩ (fun hHeld => ?_)
                clear hK K
                refine norm_ (a' := ?_) ?_ ?_
                rotate_left
                · show Act.put _ (some 39) _ = _
                  simp only [Act.put, List.setIfInBounds_toArray, List.set_cons_zero, List.set_cons_succ, i64_w, i32_w]
                  rfl
                refine pure_ (i := 17) (N := some 7) (v := ?_) (a' := ?_) #[true, true, true, true, true, true, true, true, true, true, true, true, true, true, true, true, true, true] rfl rfl (any_of HT_.out (by kernel_rfl)) (fun _ _ _ h => h) (Or.inl ⟨by rfl, ?_⟩) ?_ ?_
                rotate_left
                · intro w'
                  go_simp
                  with_reducible rfl
                rotate_left
                · simp only [Act.put, List.setIfInBounds_toArray, List.set_cons_zero, List.set_cons_succ, i64_w, i32_w]
                  rfl
                refine done_ (done_of HT_.out (by kernel_rfl)) ?_
                try go_wp2
                go_roundg k1
                case measure => have := HK1.out; omega
                case rel => exact ⟨(y503), (wrap64 (x8_1 + 1)), (by first | rfl | (simp; done) | (simp [*]; done)), H', ⟨by have := HK1.out; omega⟩, ⟨by (with_reducible repeat (first | apply Kd.R_alloc | apply Kd.R_drewN | apply Kd.R_drew)); exact HO505.out⟩, ⟨by repeat (first | (with_reducible first | exact HB.out | apply below_alloc | apply pw_below_drewN | apply below_drew1) | exact HB.out)⟩⟩
              · rw [if_neg c10] at H
                exact absurd H (by simp)
            · rw [if_neg c8] at H
              exact absurd H (by simp)
          · rw [if_neg c7] at H
            have c7b0 : decide (x8_1 < (l0.length : Int)) = false := decide_eq_false c7
            clear c7
            simp only [Option.some.injEq, Prod.mk.injEq] at H
            obtain ⟨rfl, rfl⟩ := H
            go_wp2
            go_ret2
            exact ⟨_, by first | rfl | (simp [errW_none, errW_some] <;> rfl) | (simp [*, errW_none, errW_some] <;> rfl), by (with_reducible repeat (first | apply Kd.R_alloc | apply Kd.R_drewN | apply Kd.R_drew)); exact HO_7.out, by repeat (first | (with_reducible first | exact HB.out | apply below_alloc | apply pw_below_drewN | apply below_drew1) | exact HB.out)⟩
    · replace c6 := Bool.eq_false_iff.mpr c6
      subst c6
      have H1 : (some (([] : List (S43)), 1)) = some (r1, r2) := by rw [if_neg (show ¬ (false = true) by decide)] at H; exact H
      clear H
      have H := H1
      clear H1
      simp only [Option.some.injEq, Prod.mk.injEq] at H
      obtain ⟨rfl, rfl⟩ := H
      go_enter Try.func67, Try.ntmps67
      go_wp2_with (first | ((with_reducible refine gate_callee (f := 66) rfl ?_); refine goesL_ (some 10) rfl rfl Try.func66 (by kernel_rfl) rfl #[.slice A0 l0.length c0] rfl (by (try simp only [List.map_toArray, List.map_cons, List.map_nil]); first | done | rfl | (simp only [List.length_drop, List.length_take]; rfl)) ?_; (with_reducible refine (verditerref08_Validate.calls k _ _ l0 t498 _ ?side1 ?side2 A3.out).mono ?_); (case side1 => repeat (first | exact HR0.out | (with_reducible refine Kd.C_alloc ?_ _) | (with_reducible refine Kd.C_drewN ?_ _) | (with_reducible refine Kd.C_drew ?_))); (case side2 => exact HC0.out); rintro e w' ⟨rfl, ⟨nd, rfl⟩⟩; refine ⟨_, rfl, ?_⟩) | ((with_reducible refine gate_callee (f := 75) rfl ?_); refine goesL_ (some 15) rfl rfl Try.func75 (by kernel_rfl) rfl #[.int .i64 a1] rfl (by (try simp only [List.map_toArray, List.map_cons, List.map_nil]); first | done | rfl | (simp only [List.length_drop, List.length_take]; rfl)) ?_; (with_reducible refine (verditerref08_isNumber.calls a1 false _ A5.out).mono ?_); rintro e w' ⟨rfl, ⟨nd, rfl⟩⟩; refine ⟨_, rfl, ?_⟩))
      go_ret2
      exact ⟨_, by first | rfl | (simp [errW_none, errW_some] <;> rfl) | (simp [*, errW_none, errW_some] <;> rfl), by first | exact Kd.R_nil _ _ _ _ _ | exact Kd.N_nil _ _ _ _ _ | exact Kd.V_nil _ _ _ _ _ | exact Kd.Q_nil _ _ _ _ _ | exact Kd.S_nil _ _ _ _ _, by repeat (first | (with_reducible first | exact HB.out | apply below_alloc | apply pw_below_drewN | apply below_drew1) | exact HB.out)⟩
  · rw [if_neg c4] at H
    have c4b0 : (t498 == 0) = false := beq_eq_false_iff_ne.mpr c4
    have c4b1 : (t498 != 0) = true := bne_iff_ne.mpr c4
    simp only [Option.some.injEq, Prod.mk.injEq] at H
    obtain ⟨rfl, rfl⟩ := H
    go_enter Try.func67, Try.ntmps67
    go_wp2_with (first | ((with_reducible refine gate_callee (f := 66) rfl ?_); refine goesL_ (some 10) rfl rfl Try.func66 (by kernel_rfl) rfl #[.slice A0 l0.length c0] rfl (by (try simp only [List.map_toArray, List.map_cons, List.map_nil]); first | done | rfl | (simp only [List.length_drop, List.length_take]; rfl)) ?_; (with_reducible refine (verditerref08_Validate.calls k _ _ l0 t498 _ ?side1 ?side2 A3.out).mono ?_); (case side1 => repeat (first | exact HR0.out | (with_reducible refine Kd.C_alloc ?_ _) | (with_reducible refine Kd.C_drewN ?_ _) | (with_reducible refine Kd.C_drew ?_))); (case side2 => exact HC0.out); rintro e w' ⟨rfl, ⟨nd, rfl⟩⟩; refine ⟨_, rfl, ?_⟩))
    go_ret2
    exact ⟨_, by first | rfl | (simp [errW_none, errW_some] <;> rfl) | (simp [*, errW_none, errW_some] <;> rfl), by first | exact Kd.R_nil _ _ _ _ _ | exact Kd.N_nil _ _ _ _ _ | exact Kd.V_nil _ _ _ _ _ | exact Kd.Q_nil _ _ _ _ _ | exact Kd.S_nil _ _ _ _ _, by repeat (first | (with_reducible first | exact HB.out | apply below_alloc | apply pw_below_drewN | apply below_drew1) | exact HB.out)⟩

end Go.Proofs.Ythlbjdiicmojfaa.P

/-! Part PF68. -/
-- Written for this claim by wip/print_more.py (a session's program that runs the kit's printer with hand-proved functions beside). Lean checks it.
namespace Go.Proofs.Ythlbjdiicmojfaa.P
open Go.RowKit Go.Proofs.YthlbjdiicmojfaaW.PrintWords Go.Proofs.YthlbjdiicmojfaaW.PrintLast Go.Proofs.YthlbjdiicmojfaaW.PrintMore
attribute [local go_sem] max2_int min2_int max_two min_two max_three min_three max_four min_four   -- for this text's walks alone
set_option linter.unusedVariables false
set_option linter.unusedSimpArgs false

/-! ### secret_Scale: function 68 -/
def secret_Scale.l0 : Nat → Int → List (S43) → Int → Int → Option ((List (S43)) × Int)
  | 0, _, _, _, _ => none
  | k + 1, x1, x7, x20, x21 => if x21 < x20 then (if 0 ≤ x21 then (if x21 < (x7.length : Int) then ((secret_rest.f (wrap64 (((rd_T43 x7 x21).f1) * x1))).bind fun t512 => (secret_Scale.l0 k x1 (x7.set (x21 : Int).toNat (⟨(rd_T43 x7 x21).f0, t512⟩ : S43)) x20 (wrap64 (x21 + 1)))) else (none)) else (none)) else (some (x7, 0))
def secret_Scale.f (k : Nat) (l0 : List (S43)) (a1 : Int) : Option ((List (S43)) × Int) := (secret_Validate.f l0).bind fun t506 => (if t506 = 0 then ((secret_isNumber.f a1).bind fun t507 => (if t507 = true then ((api_Part_93.f l0).bind fun t508 => (secret_Scale.l0 k a1 t508 (t508.length : Int) 0)) else (some (([] : List (S43)), 1)))) else (some (([] : List (S43)), t506)))
theorem secret_Scale.mono_l : ∀ k, (∀ y0 y1 y2 y3, LeO (secret_Scale.l0 k y0 y1 y2 y3) (secret_Scale.l0 (k + 1) y0 y1 y2 y3))
  | 0 => fun _ _ _ _ r h => by simp [secret_Scale.l0] at h
  | k + 1 => by
    have ih0 := secret_Scale.mono_l k
    · intro y0 y1 y2 y3
      unfold secret_Scale.l0
      repeat' first
      | (with_reducible exact ih0 _ _ _ _)
      | (with_reducible exact LeO.refl _)
      | (with_reducible exact LeO.none _)
      | (with_reducible refine LeO.ite ?_ ?_)
      | (with_reducible refine LeO.bind ?_ (fun _ => ?_))
      | exact ih0 _ _ _ _
      | exact LeO.none _
      | refine LeO.ite ?_ ?_
      | refine LeO.bind ?_ (fun _ => ?_)
theorem secret_Scale.mono : ∀ a0 a1 k, LeO (secret_Scale.f k a0 a1) (secret_Scale.f (k + 1) a0 a1) := by
  intro a0 a1 k
  have ih0 := secret_Scale.mono_l k
  unfold secret_Scale.f
  repeat' first
      | (with_reducible exact ih0 _ _ _ _)
      | (with_reducible exact LeO.refl _)
      | (with_reducible exact LeO.none _)
      | (with_reducible refine LeO.ite ?_ ?_)
      | (with_reducible refine LeO.bind ?_ (fun _ => ?_))
      | exact ih0 _ _ _ _
      | exact LeO.none _
      | refine LeO.ite ?_ ?_
      | refine LeO.bind ?_ (fun _ => ?_)
set_option maxHeartbeats 8000000 in
set_option maxRecDepth 100000 in
theorem secret_Scale.calls (k : Nat) (A0 : Option Addr) (c0 : Nat) (l0 : List (S43)) (a1 : Int) (r1 : List (S43)) (r2 : Int) (w : World) (hr0 : Kd.C k43 w A0 l0.length l0) (hc0 : l0.length ≤ c0) (h : secret_Scale.f k l0 a1 = some (r1, r2)) :
    Calls Try.prog 68 #[.slice A0 l0.length c0, .int .i64 a1] w fun e w' => ∃ v0_ : Value, e = .returned (.tuple #[v0_, .int .i64 r2]) ∧ Kd.R k43 43 w' w.heap.size (fun _ => True) v0_ r1 ∧ Below w.heap.size w w' := by
  have HR0 := Aside0.mk hr0
  have HC0 := Aside0.mk hc0
  clear hr0 hc0
  have HB := Aside0.mk (Below.refl w.heap.size w)
  have H : ((secret_Validate.f l0).bind fun t506 => (if t506 = 0 then ((secret_isNumber.f a1).bind fun t507 => (if t507 = true then ((api_Part_93.f l0).bind fun t508 => (secret_Scale.l0 k a1 t508 (t508.length : Int) 0)) else (some (([] : List (S43)), 1)))) else (some (([] : List (S43)), t506)))) = some (r1, r2) := h
  clear h
  replace H := Option.bind_eq_some_iff.mp H
  obtain ⟨t506, A30, H⟩ := H
  replace H : (if t506 = 0 then ((secret_isNumber.f a1).bind fun t507 => (if t507 = true then ((api_Part_93.f l0).bind fun t508 => (secret_Scale.l0 k a1 t508 (t508.length : Int) 0)) else (some (([] : List (S43)), 1)))) else (some (([] : List (S43)), t506))) = some (r1, r2) := H
  have A3 := Aside0.mk A30
  clear A30
  by_cases c4 : t506 = 0
  · rw [if_pos c4] at H
    have c4b0 : (t506 == 0) = true := beq_iff_eq.mpr c4
    have c4b1 : (t506 != 0) = false := bne_eq_false_iff_eq.mpr c4
    clear c4
    replace H := Option.bind_eq_some_iff.mp H
    obtain ⟨t507, A50, H⟩ := H
    replace H : (if t507 = true then ((api_Part_93.f l0).bind fun t508 => (secret_Scale.l0 k a1 t508 (t508.length : Int) 0)) else (some (([] : List (S43)), 1))) = some (r1, r2) := H
    have A5 := Aside0.mk A50
    clear A50
    by_cases c6 : t507 = true
    · subst c6
      have H1 : ((api_Part_93.f l0).bind fun t508 => (secret_Scale.l0 k a1 t508 (t508.length : Int) 0)) = some (r1, r2) := by rw [if_pos rfl] at H; exact H
      clear H
      have H := H1
      clear H1
      replace H := Option.bind_eq_some_iff.mp H
      obtain ⟨t508, A70, H⟩ := H
      replace H : (secret_Scale.l0 k a1 t508 (t508.length : Int) 0) = some (r1, r2) := H
      have A7 := Aside0.mk A70
      clear A70
      have H' := Aside0.mk H
      clear H
      go_enter Try.func68, Try.ntmps68
      go_wp2_with (first | ((with_reducible refine gate_callee (f := 65) rfl ?_); refine goesL_ (some 10) rfl rfl Try.func65 (by kernel_rfl) rfl #[.slice A0 l0.length c0] rfl (by (try simp only [List.map_toArray, List.map_cons, List.map_nil]); first | done | rfl | (simp only [List.length_drop, List.length_take]; rfl)) ?_; (with_reducible refine (secret_Validate.calls _ _ l0 t506 _ ?side1 ?side2 A3.out).mono ?_); (case side1 => repeat (first | exact HR0.out | (with_reducible refine Kd.C_alloc ?_ _) | (with_reducible refine Kd.C_drewN ?_ _) | (with_reducible refine Kd.C_drew ?_))); (case side2 => exact HC0.out); rintro e w8 ⟨rfl, hb⟩; refine ⟨_, rfl, ?_⟩; have n0_ := Aside0.mk (below_step (by repeat (first | (with_reducible first | exact HB.out | apply below_alloc | apply pw_below_drewN | apply below_drew1) | exact HB.out)) hb); clear HB; have HB := n0_; clear n0_; (try clear hb); (try clear hb2); (try clear hk); (try clear hi)) | ((with_reducible refine gate_callee (f := 77) rfl ?_); refine goesL_ (some 15) rfl rfl Try.func77 (by kernel_rfl) rfl #[.int .i64 a1] rfl (by (try simp only [List.map_toArray, List.map_cons, List.map_nil]); first | done | rfl | (simp only [List.length_drop, List.length_take]; rfl)) ?_; (with_reducible refine (secret_isNumber.calls a1 true _ A5.out).mono ?_); rintro e w' ⟨rfl, ⟨nd, rfl⟩⟩; refine ⟨_, rfl, ?_⟩) | ((with_reducible refine gate_callee (f := 93) rfl ?_); refine goesL_ (some 18) rfl rfl Try.func93 (by kernel_rfl) rfl #[.slice A0 l0.length c0] rfl (by (try simp only [List.map_toArray, List.map_cons, List.map_nil]); first | done | rfl | (simp only [List.length_drop, List.length_take]; rfl)) ?_; (with_reducible refine (api_Part_93.calls _ _ l0 t508 _ ?side1 ?side2 A7.out).mono ?_); (case side1 => repeat (first | exact (Kd.C_below HR0.out (by repeat (first | (with_reducible first | exact HB.out | apply below_alloc | apply pw_below_drewN | apply below_drew1) | exact HB.out))) | (with_reducible refine Kd.C_alloc ?_ _) | (with_reducible refine Kd.C_drewN ?_ _) | (with_reducible refine Kd.C_drew ?_))); (case side2 => exact HC0.out); rintro e w9 ⟨v509, rfl, ho0, hb⟩; refine ⟨_, rfl, ?_⟩; have n0_ := Aside0.mk (Kd.R_lower ho0 (below_size (by repeat (first | (with_reducible first | exact HB.out | apply below_alloc | apply pw_below_drewN | apply below_drew1) | exact HB.out)))); have n1_ := Aside0.mk (below_step (by repeat (first | (with_reducible first | exact HB.out | apply below_alloc | apply pw_below_drewN | apply below_drew1) | exact HB.out)) hb); clear HB; have HO510 := n0_; have HB := n1_; clear n0_ n1_; (try clear hb); (try clear hb2); (try clear hk); (try clear hi); (try clear ho0); obtain ⟨Ao10, co10, eo10⟩ := Kd.R_slice HO510.out; subst eo10))
      go_loopg [21] k (fun kq v21 w' => ∃ (x7_1 : List (S43)) (x21_1 : Int), v21 = .int .i64 x21_1 ∧ Aside0 (secret_Scale.l0 kq a1 x7_1 (t508.length : Int) x21_1 = some (r1, r2)) ∧ Aside0 (kq ≤ k) ∧ Aside0 (Kd.R k43 43 w' w.heap.size (fun _ => True) (.slice Ao10 t508.length co10) x7_1) ∧ Aside0 (Below w.heap.size w w'))
      case atStart => exact ⟨(t508), (0), (by first | rfl | (simp; done) | (simp [*]; done)), H', ⟨Nat.le_refl _⟩, ⟨by (with_reducible repeat (first | apply Kd.R_alloc | apply Kd.R_drewN | apply Kd.R_drew)); exact HO510.out⟩, ⟨by repeat (first | (with_reducible first | exact HB.out | apply below_alloc | apply pw_below_drewN | apply below_drew1) | exact HB.out)⟩⟩
      case round =>
        clear H'
        try clear p2
        try clear c4
        try clear c4b0
        try clear c4b1
        try clear c6
        try clear c7
        try clear c9
        obtain ⟨x7_1, x21_1, rfl, HA, HK1, HO_7, HB⟩ := hrel
        have hl7_1 := (Kd.R_reads' HO_7.out).1
        rw [hl7_1] at HO_7
        (try simp only [hl7_1])
        cases gk with
        | zero => exact absurd HA.out (by simp [secret_Scale.l0])
        | succ k1 =>
          have H := HA.out
          clear HA
          simp only [secret_Scale.l0] at H
          by_cases c11 : x21_1 < (t508.length : Int)
          · rw [if_pos c11] at H
            have c11b0 : decide (x21_1 < (t508.length : Int)) = true := decide_eq_true c11
            (try (have cq_ := c11b0; simp only [hl7_1] at cq_))
            clear c11
            by_cases c12 : 0 ≤ x21_1
            · rw [if_pos c12] at H
              have c12b0 : decide (0 ≤ x21_1) = true := decide_eq_true c12
              clear c12
              by_cases c13 : x21_1 < (x7_1.length : Int)
              · rw [if_pos c13] at H
                have c13b0 : decide (x21_1 < (x7_1.length : Int)) = true := decide_eq_true c13
                (try (have cq_ := c13b0; simp only [hl7_1] at cq_))
                clear c13
                replace H := Option.bind_eq_some_iff.mp H
                obtain ⟨t512, A140, H⟩ := H
                replace H : (secret_Scale.l0 k1 a1 (x7_1.set (x21_1 : Int).toNat (⟨(rd_T43 x7_1 x21_1).f0, t512⟩ : S43)) (t508.length : Int) (wrap64 (x21_1 + 1))) = some (r1, r2) := H
                have A14 := Aside0.mk A140
                clear A140
                obtain ⟨y513, hy513⟩ : ∃ y_ : List (S43), y_ = (x7_1.set (x21_1 : Int).toNat (⟨(rd_T43 x7_1 x21_1).f0, t512⟩ : S43)) := ⟨_, rfl⟩
                replace H : (secret_Scale.l0 k1 a1 y513 (t508.length : Int) (wrap64 (x21_1 + 1))) = some (r1, r2) := by first | (rw [hy513]; with_reducible exact H) | (have H2_ := (Option.bind_some _ _).symm.trans H; rw [hy513]; with_reducible exact H2_) | (have H2_ := (Option.bind_some _ _).symm.trans H; with_reducible exact H2_) | with_reducible exact H | (rw [hy513]; exact H) | exact H
                have Ny513 := Aside0.mk hy513
                clear hy513
                have H' := Aside0.mk H
                clear H
                have p511 : 0 ≤ (x21_1 : Int) := of_decide_eq_true (by first | (with_reducible assumption) | assumption)
                have q511 : x21_1 < (x7_1.length : Int) := of_decide_eq_true (by first | (with_reducible assumption) | assumption)
                obtain ⟨ad511, e511, hx511_0, hx511_1⟩ := at_T43 (Kd.R_reads' HO_7.out).2.2 x21_1 p511 q511
                cases e511
                replace p511 := eq_true p511
                replace q511 := eq_true q511
                go_wp2_with (first | ((with_reducible refine gate_callee (f := 96) rfl ?_); refine goesL_ (some 33) rfl rfl Try.func96 (by kernel_rfl) rfl #[.int .i64 (wrap64 (((rd_T43 x7_1 x21_1).f1) * a1))] rfl (by (try simp only [List.map_toArray, List.map_cons, List.map_nil]); first | done | rfl | (simp only [List.length_drop, List.length_take]; rfl)) ?_; (with_reducible refine (secret_rest.calls (wrap64 (((rd_T43 x7_1 x21_1).f1) * a1)) t512 _ A14.out).mono ?_); rintro e w' ⟨rfl, ⟨nd, rfl⟩⟩; refine ⟨_, rfl, ?_⟩; (try (rw [drewN_self wr]; generalize hq_ : World.drewN wr _ = wr; have n0_ : Aside0 (Kd.R k43 43 wr w.heap.size (fun _ => True) (.slice (some ad511) x7_1.length co10) x7_1) := ⟨by rw [← hq_]; exact (by (with_reducible repeat (first | apply Kd.R_alloc | apply Kd.R_drewN | apply Kd.R_drew)); exact HO_7.out)⟩; have n1_ : Aside0 (Below w.heap.size w wr) := ⟨by rw [← hq_]; exact (by repeat (first | (with_reducible first | exact HB.out | apply below_alloc | apply pw_below_drewN | apply below_drew1) | exact HB.out))⟩; clear HO_7 HB hq_; have HO_7 := n0_; have HB := n1_; clear n0_ n1_)); have p15 : 0 ≤ (x21_1 : Int) := of_decide_eq_true (by first | (with_reducible assumption) | assumption); have q15 : (x21_1 : Int) < ((x7_1.length : Int) : Int) := of_decide_eq_true (by first | (with_reducible assumption) | assumption); obtain ⟨go15, co15, eo15, gb15, gl15, cl15, HG15⟩ := Kd.R_form HO_7.out (by omega); (first | cases eo15 | (injection eo15 with ea_ en_ ec_; (first | subst ea_ | (injection ea_ with ea_; subst ea_)); subst ec_; clear en_)); have GB15 := Aside0.mk gb15; have GG15 := Aside0.mk HG15; clear gb15 gl15 HG15; (first | simp only [add_plain] at hx511_0 | skip); (first | simp only [add_plain] at hx511_1 | skip); obtain ⟨ce15, hcl15, hM15, hcc15, hfr15⟩ := Kd.R_elem HO_7.out z43 (x21_1 : Int) p15 q15; obtain rfl := k43_openM hM15; have hx15_0 : wr.cell? ⟨go15, (x21_1 : Int).toNat * 2, none⟩ = some (.int .i64 ((rd_T43 x7_1 x21_1).f0)) := hcc15 0 _ rfl; have hx15_1 : wr.cell? ⟨go15, (x21_1 : Int).toNat * 2 + 1, none⟩ = some (.int .i64 ((rd_T43 x7_1 x21_1).f1)) := hcc15 1 _ rfl; have hf15_0 : wr.frozen? ⟨go15, (x21_1 : Int).toNat * 2, none⟩ = false := hfr15 0; have hf15_1 : wr.frozen? ⟨go15, (x21_1 : Int).toNat * 2 + 1, none⟩ = false := hfr15 1; clear hcl15 hcc15 hfr15 hM15; replace p15 := eq_true p15; replace q15 := eq_true q15; have HX16 := Aside0.mk (show Kd.R k43 43 wr w.heap.size (fun _ => True) (.slice (some ⟨go15, 0, none⟩) x7_1.length co10) x7_1 from (by (with_reducible repeat (first | apply Kd.R_alloc | apply Kd.R_drewN | apply Kd.R_drew)); exact HO_7.out)); obtain ⟨ce16, hcl16, hM16, hcc16, hfr16⟩ := Kd.R_elem HX16.out z43 (x21_1 : Int) (of_decide_eq_true (by first | (with_reducible assumption) | assumption)) (by have h_ : (x21_1 : Int) < ((x7_1.length : Int) : Int) := of_decide_eq_true (by first | (with_reducible assumption) | assumption); first | exact h_ | (have e_ := (Kd.R_reads' HO_7.out).1; omega) | simpa using h_); obtain rfl := k43_openM hM16; have HP16 := Kd.R_seg HX16.out (x21_1 : Int) (of_decide_eq_true (by first | (with_reducible assumption) | assumption)) (by have h_ : (x21_1 : Int) < ((x7_1.length : Int) : Int) := of_decide_eq_true (by first | (with_reducible assumption) | assumption); first | exact h_ | (have e_ := (Kd.R_reads' HO_7.out).1; omega) | simpa using h_) (seg := [.int .i64 t512]) (j := 1) hcl16 hcc16 (show 2 ≤ 2 from by decide) (x' := (⟨(rd_T43 x7_1 x21_1).f0, t512⟩ : S43)) (k43_mkM _ _ _ (⟨(rd_T43 x7_1 x21_1).f0, t512⟩ : S43) ) (fun _ hk => hk); have hx16_1 := hcc16 1 _ rfl; (try simp only [show (k43).sz = 2 from rfl, Nat.mul_one, Nat.add_zero] at hx16_1); have hf16_1 := hfr16 1; (try simp only [show (k43).sz = 2 from rfl, Nat.mul_one, Nat.add_zero] at hf16_1); clear hcl16 hcc16 hfr16 hM16) | ((with_reducible refine gate_store (t := 3) (p := 35) rfl ?_); refine store_event (t := 3) (p := 35) (v := ?vo_w17) (w1 := (wr.setCell ⟨go15, (x21_1 : Int).toNat * 2 + 1, none⟩ (.int .i64 t512))) ?hg ?ho ?hn ?hr ?_; (case ho => rfl); (case hg => rfl); (case hn => rfl); (case hr => first | (go_simp; done) | (go_simp; rfl)); intro w17 hw; have hg : wr.grownBy w17 (some go15) := (by rw [hw]; exact HP16.2); have hp_ : Kd.R k43 43 w17 w.heap.size (fun _ => True) (.slice (some ⟨go15, 0, none⟩) x7_1.length co10) y513 := (by rw [hw, Ny513.out]; exact HP16.1); clear HP16; have n0_ := Aside0.mk (hp_); have n1_ := Aside0.mk ((by rw [hw]; exact below_set (HB.out) GB15.out : Below w.heap.size w w17)); clear HO_7; clear HB; have HO_7 := n0_; have HB := n1_; clear n0_ n1_; clear hg hw hp_))
                (try simp only [← hl7_1])
                go_roundg k1
                case measure => have := HK1.out; omega
                case rel => exact ⟨(y513), (wrap64 (x21_1 + 1)), (by first | rfl | (simp; done) | (simp [*]; done)), H', ⟨by have := HK1.out; omega⟩, ⟨by (try simp only [hl7_1]); (with_reducible repeat (first | apply Kd.R_alloc | apply Kd.R_drewN | apply Kd.R_drew)); exact HO_7.out⟩, ⟨by repeat (first | (with_reducible first | exact HB.out | apply below_alloc | apply pw_below_drewN | apply below_drew1) | exact HB.out)⟩⟩
              · rw [if_neg c13] at H
                exact absurd H (by simp)
            · rw [if_neg c12] at H
              exact absurd H (by simp)
          · rw [if_neg c11] at H
            have c11b0 : decide (x21_1 < (t508.length : Int)) = false := decide_eq_false c11
            (try (have cq_ := c11b0; simp only [hl7_1] at cq_))
            clear c11
            simp only [Option.some.injEq, Prod.mk.injEq] at H
            obtain ⟨rfl, rfl⟩ := H
            go_wp2
            go_ret2
            exact ⟨_, by first | rfl | (simp [errW_none, errW_some] <;> rfl) | (simp [*, errW_none, errW_some] <;> rfl), by (with_reducible repeat (first | apply Kd.R_alloc | apply Kd.R_drewN | apply Kd.R_drew)); exact HO_7.out, by repeat (first | (with_reducible first | exact HB.out | apply below_alloc | apply pw_below_drewN | apply below_drew1) | exact HB.out)⟩
    · replace c6 := Bool.eq_false_iff.mpr c6
      subst c6
      have H1 : (some (([] : List (S43)), 1)) = some (r1, r2) := by rw [if_neg (show ¬ (false = true) by decide)] at H; exact H
      clear H
      have H := H1
      clear H1
      simp only [Option.some.injEq, Prod.mk.injEq] at H
      obtain ⟨rfl, rfl⟩ := H
      go_enter Try.func68, Try.ntmps68
      go_wp2_with (first | ((with_reducible refine gate_callee (f := 65) rfl ?_); refine goesL_ (some 10) rfl rfl Try.func65 (by kernel_rfl) rfl #[.slice A0 l0.length c0] rfl (by (try simp only [List.map_toArray, List.map_cons, List.map_nil]); first | done | rfl | (simp only [List.length_drop, List.length_take]; rfl)) ?_; (with_reducible refine (secret_Validate.calls _ _ l0 t506 _ ?side1 ?side2 A3.out).mono ?_); (case side1 => repeat (first | exact HR0.out | (with_reducible refine Kd.C_alloc ?_ _) | (with_reducible refine Kd.C_drewN ?_ _) | (with_reducible refine Kd.C_drew ?_))); (case side2 => exact HC0.out); rintro e w18 ⟨rfl, hb⟩; refine ⟨_, rfl, ?_⟩; have n0_ := Aside0.mk (below_step (by repeat (first | (with_reducible first | exact HB.out | apply below_alloc | apply pw_below_drewN | apply below_drew1) | exact HB.out)) hb); clear HB; have HB := n0_; clear n0_; (try clear hb); (try clear hb2); (try clear hk); (try clear hi)) | ((with_reducible refine gate_callee (f := 77) rfl ?_); refine goesL_ (some 15) rfl rfl Try.func77 (by kernel_rfl) rfl #[.int .i64 a1] rfl (by (try simp only [List.map_toArray, List.map_cons, List.map_nil]); first | done | rfl | (simp only [List.length_drop, List.length_take]; rfl)) ?_; (with_reducible refine (secret_isNumber.calls a1 false _ A5.out).mono ?_); rintro e w' ⟨rfl, ⟨nd, rfl⟩⟩; refine ⟨_, rfl, ?_⟩))
      go_ret2
      exact ⟨_, by first | rfl | (simp [errW_none, errW_some] <;> rfl) | (simp [*, errW_none, errW_some] <;> rfl), by first | exact Kd.R_nil _ _ _ _ _ | exact Kd.N_nil _ _ _ _ _ | exact Kd.V_nil _ _ _ _ _ | exact Kd.Q_nil _ _ _ _ _ | exact Kd.S_nil _ _ _ _ _, by repeat (first | (with_reducible first | exact HB.out | apply below_alloc | apply pw_below_drewN | apply below_drew1) | exact HB.out)⟩
  · rw [if_neg c4] at H
    have c4b0 : (t506 == 0) = false := beq_eq_false_iff_ne.mpr c4
    have c4b1 : (t506 != 0) = true := bne_iff_ne.mpr c4
    simp only [Option.some.injEq, Prod.mk.injEq] at H
    obtain ⟨rfl, rfl⟩ := H
    go_enter Try.func68, Try.ntmps68
    go_wp2_with (first | ((with_reducible refine gate_callee (f := 65) rfl ?_); refine goesL_ (some 10) rfl rfl Try.func65 (by kernel_rfl) rfl #[.slice A0 l0.length c0] rfl (by (try simp only [List.map_toArray, List.map_cons, List.map_nil]); first | done | rfl | (simp only [List.length_drop, List.length_take]; rfl)) ?_; (with_reducible refine (secret_Validate.calls _ _ l0 t506 _ ?side1 ?side2 A3.out).mono ?_); (case side1 => repeat (first | exact HR0.out | (with_reducible refine Kd.C_alloc ?_ _) | (with_reducible refine Kd.C_drewN ?_ _) | (with_reducible refine Kd.C_drew ?_))); (case side2 => exact HC0.out); rintro e w19 ⟨rfl, hb⟩; refine ⟨_, rfl, ?_⟩; have n0_ := Aside0.mk (below_step (by repeat (first | (with_reducible first | exact HB.out | apply below_alloc | apply pw_below_drewN | apply below_drew1) | exact HB.out)) hb); clear HB; have HB := n0_; clear n0_; (try clear hb); (try clear hb2); (try clear hk); (try clear hi)))
    go_ret2
    exact ⟨_, by first | rfl | (simp [errW_none, errW_some] <;> rfl) | (simp [*, errW_none, errW_some] <;> rfl), by first | exact Kd.R_nil _ _ _ _ _ | exact Kd.N_nil _ _ _ _ _ | exact Kd.V_nil _ _ _ _ _ | exact Kd.Q_nil _ _ _ _ _ | exact Kd.S_nil _ _ _ _ _, by repeat (first | (with_reducible first | exact HB.out | apply below_alloc | apply pw_below_drewN | apply below_drew1) | exact HB.out)⟩

end Go.Proofs.Ythlbjdiicmojfaa.P

/-! Part Eqs3. -/
namespace Go.Proofs.Ythlbjdiicmojfaa.P
open Go.RowKit Go.Proofs.YthlbjdiicmojfaaW.PrintWords Go.Proofs.YthlbjdiicmojfaaW.PrintLast Go.Proofs.YthlbjdiicmojfaaW.PrintMore
set_option linter.unusedVariables false

/-! ### Parts multiplied -/
def scaled (l : List S43) (by' : Int) : List S43 := l.map fun p => ⟨p.f0, (p.f1 * by') % 251⟩
def scaleR (l : List S43) (by' : Int) : List S43 × Int := if valid l = 0 then (if num by' = true then (scaled l by', 0) else ([], 1)) else ([], valid l)
theorem rscale_loop (l : List S43) (x : Int) (hv : valid l = 0) (hx : num x = true) : ∀ (d i k : Nat), i + d = l.length → d < k → verditerref08_Scale.l0 k l x (scaled (l.take i) x) (i : Int) = some (scaled l x, 0) := by
  obtain ⟨hlen, _, _⟩ := valid_iff.1 hv
  have hx' := num_iff.1 hx
  intro d
  induction d with
  | zero =>
    intro i k hi hk
    obtain ⟨k, rfl⟩ : ∃ j, k = j + 1 := ⟨k - 1, by omega⟩
    rw [verditerref08_Scale.l0, if_neg (by omega), List.take_of_length_le (by omega)]
  | succ d ih =>
    intro i k hi hk
    obtain ⟨k, rfl⟩ : ∃ j, k = j + 1 := ⟨k - 1, by omega⟩
    have hil : i < l.length := by omega
    have hy := num_iff.1 (valid_num hv (List.getElem_mem hil)).2
    have hm := mul_range hx'.1 hx'.2 hy.1 hy.2
    have hs : scaled (l.take (i + 1)) x = scaled (l.take i) x ++ [⟨l[i].f0, (x * l[i].f1) % 251⟩] := by
      unfold scaled
      rw [List.take_succ_eq_append_getElem hil, List.map_append, List.map_cons, List.map_nil, Int.mul_comm]
    rw [verditerref08_Scale.l0, if_pos (by omega), if_pos (by omega), rdT_get l i hil, wrap_id (a := x * l[i].f1) (by omega) (by omega), mod_eq, Option.bind_some, if_pos (by simp [scaled]; omega), ← hs, wrap_succ i (by omega)]
    exact ih (i + 1) k (by omega) (by omega)
theorem rscale_eq (l : List S43) (x : Int) (k : Nat) (hk : 300 ≤ k) : verditerref08_Scale.f k l x = some (scaleR l x) := by
  rw [verditerref08_Scale.f, rval_eq l k hk, Option.bind_some]
  unfold scaleR
  by_cases hv : valid l = 0
  · rw [if_pos hv, if_pos hv, risNumber_eq, Option.bind_some]
    by_cases hn : num x = true
    · rw [if_pos hn, if_pos hn]
      have := (valid_iff.1 hv).1
      exact rscale_loop l x hv hn l.length 0 k (by omega) (by omega)
    · rw [if_neg hn, if_neg hn]
  · rw [if_neg hv, if_neg hv]
theorem set_mid (l : List S43) (x : Int) (i : Nat) (hi : i < l.length) (z : S43) : (scaled (l.take i) x ++ l.drop i).set i z = scaled (l.take i) x ++ z :: l.drop (i + 1) := by
  have hl : (scaled (l.take i) x).length = i := by simp [scaled]; omega
  rw [List.set_append, if_neg (by omega), hl, Nat.sub_self, List.drop_eq_getElem_cons hi]
  rfl
theorem sscale_loop (l : List S43) (x : Int) (hv : valid l = 0) (hx : num x = true) : ∀ (d i k : Nat), i + d = l.length → d < k → secret_Scale.l0 k x (scaled (l.take i) x ++ l.drop i) (l.length : Int) (i : Int) = some (scaled l x, 0) := by
  obtain ⟨hlen, _, _⟩ := valid_iff.1 hv
  have hx' := num_iff.1 hx
  intro d
  induction d with
  | zero =>
    intro i k hi hk
    obtain ⟨k, rfl⟩ : ∃ j, k = j + 1 := ⟨k - 1, by omega⟩
    rw [secret_Scale.l0, if_neg (by omega), List.take_of_length_le (by omega), List.drop_of_length_le (by omega), List.append_nil]
  | succ d ih =>
    intro i k hi hk
    obtain ⟨k, rfl⟩ : ∃ j, k = j + 1 := ⟨k - 1, by omega⟩
    have hil : i < l.length := by omega
    have hy := num_iff.1 (valid_num hv (List.getElem_mem hil)).2
    have hm := mul_range hy.1 hy.2 hx'.1 hx'.2
    have hsl : (scaled (l.take i) x).length = i := by simp [scaled]; omega
    have hlen2 : (scaled (l.take i) x ++ l.drop i).length = l.length := by simp [scaled]; omega
    have hrd : rd_T43 (scaled (l.take i) x ++ l.drop i) (i : Int) = l[i] := by
      rw [rdT_get _ i (by omega), List.getElem_append_right (by omega)]
      simp [hsl]
    have hs : scaled (l.take (i + 1)) x = scaled (l.take i) x ++ [⟨l[i].f0, (l[i].f1 * x) % 251⟩] := by
      unfold scaled
      rw [List.take_succ_eq_append_getElem hil, List.map_append, List.map_cons, List.map_nil]
    have ih' := ih (i + 1) k (by omega) (by omega)
    rw [hs, List.append_assoc] at ih'
    rw [secret_Scale.l0, if_pos (by omega), if_pos (by omega), if_pos (by omega), hrd, wrap_id (a := l[i].f1 * x) (by omega) (by omega), rest_eq, Option.bind_some, Int.toNat_natCast, set_mid l x i hil, wrap_succ i (by omega)]
    exact ih'
theorem sscale_eq (l : List S43) (x : Int) (k : Nat) (hk : 300 ≤ k) : secret_Scale.f k l x = some (scaleR l x) := by
  rw [secret_Scale.f, secret_Validate.f, Option.bind_some]
  unfold scaleR
  by_cases hv : valid l = 0
  · rw [if_pos hv, if_pos hv, isNumber_eq, Option.bind_some]
    by_cases hn : num x = true
    · have := (valid_iff.1 hv).1
      rw [if_pos hn, if_pos hn, api_Part_93.f, if_pos this, Option.bind_some]
      exact sscale_loop l x hv hn l.length 0 k (by omega) (by omega)
    · rw [if_neg hn, if_neg hn]
  · rw [if_neg hv, if_neg hv]

/-! ### Parts whose places are those of others -/
theorem valid_same {l m : List S43} (hv : valid l = 0) (hf : m.map S43.f0 = l.map S43.f0) (hy : ∀ p ∈ m, num p.f1 = true) : valid m = 0 := by
  obtain ⟨h1, h2, h3⟩ := valid_iff.1 hv
  have hlen : m.length = l.length := by have := congrArg List.length hf; simpa using this
  refine valid_iff.2 ⟨by omega, fun p hp => ?_, by rw [hf]; exact h3⟩
  have : p.f0 ∈ l.map S43.f0 := by rw [← hf]; exact List.mem_map.2 ⟨p, hp, rfl⟩
  obtain ⟨q, hq, e⟩ := List.mem_map.1 this
  have h4 := okP_iff.1 (h2 q hq)
  have h5 := num_iff.1 (hy p hp)
  exact okP_iff.2 ⟨by omega, by omega, h5.1, h5.2⟩
theorem scaled_places (l : List S43) (x : Int) : (scaled l x).map S43.f0 = l.map S43.f0 := by
  unfold scaled; rw [List.map_map]; rfl
theorem valid_scaled {l : List S43} (hv : valid l = 0) (x : Int) : valid (scaled l x) = 0 :=
  valid_same hv (scaled_places l x) fun p hp => by
    obtain ⟨q, _, rfl⟩ := List.mem_map.1 hp
    exact num_mod _
/-- A curve whose numbers are another's, each multiplied and added. -/
theorem atI_map (f : Int → Int) (u : Int) (hf : ∀ a, num (f a) = true ∧ cst (f a) = cst u * cst a) (c : List Int) (x : Int) : cst (atI (c.map f) x) = cst u * cst (atI c x) := by
  induction c with
  | nil => show cst 0 = cst u * cst 0; rw [cst_zero]; grind
  | cons a c ih =>
    show cst ((atI (c.map f) x * x + f a) % 251) = cst u * cst ((atI c x * x + a) % 251)
    rw [cst_mod, cst_mod, cst_add, cst_add, cst_mul, cst_mul, ih, (hf a).2]; grind
theorem secretR_ok {l : List S43} (hv : valid l = 0) (h1 : 1 ≤ l.length) (h6 : l.length ≤ 6) : secretR l = (atI (interp (pts l)) 0, 0) := by
  unfold secretR
  rw [curveR_eq hv h1 h6, if_pos rfl, atI_zero (interp_nums _)]
theorem secretR_zero {l : List S43} (h : (secretR l).2 = 0) : valid l = 0 ∧ 1 ≤ l.length ∧ l.length ≤ 6 := by
  unfold secretR at h
  by_cases hc : (curveR l).2 = 0
  · obtain ⟨a, b, c, _⟩ := curveR_ok hc
    exact ⟨a, b, c⟩
  · rw [if_neg hc] at h
    exact absurd h hc
theorem interp_scaled {l : List S43} (hv : valid l = 0) (x : Int) : interp (pts (scaled l x)) = (interp (pts l)).map fun a => (a * x) % 251 := by
  have hv2 := valid_scaled hv x
  symm
  refine interp_uniq (good_pts hv2) (by rw [List.length_map, interp_len, pts_length, pts_length]; simp [scaled]) ?_ fun q hq => ?_
  · intro n hn
    obtain ⟨a, _, rfl⟩ := List.mem_map.1 hn
    exact num_mod _
  · obtain ⟨p, hp, rfl⟩ := List.mem_map.1 hq
    obtain ⟨r, hr, rfl⟩ := List.mem_map.1 hp
    have ha := interp_at (good_pts hv) (mem_pts hr)
    simp only at ha ⊢
    refine cst_inj (num_atI _ _) (num_mod _) ?_
    rw [atI_map _ x (fun a => ⟨num_mod _, by rw [cst_mod, cst_mul]; grind⟩), ha, cst_mod, cst_mul]; grind
end Go.Proofs.Ythlbjdiicmojfaa.P

/-! Part PF71. -/
-- Written for this claim by wip/print_more.py (a session's program that runs the kit's printer with hand-proved functions beside). Lean checks it.
namespace Go.Proofs.Ythlbjdiicmojfaa.P
open Go.RowKit Go.Proofs.YthlbjdiicmojfaaW.PrintWords Go.Proofs.YthlbjdiicmojfaaW.PrintLast Go.Proofs.YthlbjdiicmojfaaW.PrintMore
attribute [local go_sem] max2_int min2_int max_two min_two max_three min_three max_four min_four   -- for this text's walks alone
set_option linter.unusedVariables false
set_option linter.unusedSimpArgs false

/-! ### verditerref08_Repair: function 71 -/
def verditerref08_Repair.f (k : Nat) (l0 : List (S43)) (a1 : Int) : Option ((List (S43)) × Bool × Int) := (verditerref08_Wrong.f k l0 a1).bind fun bt603 => (if bt603.2.2 = 0 then ((some (([] : List (S43)) : List (S43))).bind fun y606 => (if y606.length + l0.length < 8796093022208 then ((some (y606 ++ l0 : List (S43))).bind fun y609 => (if bt603.2.1 = true then ((verditerref08_without.f l0 bt603.1).bind fun t612 => (if 0 ≤ a1 then (if a1 ≤ (t612.length : Int) then ((verditerref08_through.f k (t612.take (a1 : Int).toNat)).bind fun t619 => (if 0 ≤ bt603.1 then (if bt603.1 < (l0.length : Int) then ((verditerref08_at.f k t619 ((rd_T43 l0 bt603.1).f0)).bind fun t623 => (if bt603.1 < (y609.length : Int) then (some ((y609.set (bt603.1 : Int).toNat (⟨(rd_T43 y609 bt603.1).f0, t623⟩ : S43)), true, 0)) else (none))) else (none)) else (none))) else (none)) else (none))) else ((verditerref08_lie.f k l0 a1).bind fun t625 => (if t625 = true then (some (y609, true, 0)) else (some (([] : List (S43)), false, 0)))))) else (none))) else (some (([] : List (S43)), false, bt603.2.2)))
theorem verditerref08_Repair.mono : ∀ a0 a1 k, LeO (verditerref08_Repair.f k a0 a1) (verditerref08_Repair.f (k + 1) a0 a1) := by
  intro a0 a1 k
  unfold verditerref08_Repair.f
  repeat' first
      | (with_reducible exact verditerref08_Wrong.mono _ _ _)
      | (with_reducible exact verditerref08_at.mono _ _ _)
      | (with_reducible exact verditerref08_lie.mono _ _ _)
      | (with_reducible exact verditerref08_through.mono _ _)
      | (with_reducible exact LeO.refl _)
      | (with_reducible exact LeO.none _)
      | (with_reducible refine LeO.ite ?_ ?_)
      | (with_reducible refine LeO.bind ?_ (fun _ => ?_))
      | exact verditerref08_Wrong.mono _ _ _
      | exact verditerref08_at.mono _ _ _
      | exact verditerref08_lie.mono _ _ _
      | exact verditerref08_through.mono _ _
      | exact LeO.none _
      | refine LeO.ite ?_ ?_
      | refine LeO.bind ?_ (fun _ => ?_)
def verditerref08_Repair.T6 : Bool × List (List Nat × List Nat) := (true, [([], []), ([], []), ([], []), ([], []), ([2, 3], [2, 3]), ([], []), ([4, 5], [4, 5]), ([6, 4], [6]), ([], []), ([], []), ([8, 9], [8, 9]), ([10], [10]), ([11], [11]), ([7, 12, 7], [7, 12]), ([0, 1, 0, 1, 2, 3, 4, 5, 6, 7, 8, 9, 10, 11, 12, 13], [0, 1]), ([14, 0, 1, 2, 3, 4, 5, 6, 7, 8, 9, 10, 11, 12, 13], [14]), ([15, 13, 13, 0, 1, 2, 3, 4, 5, 6, 7, 8, 9, 10, 11, 12, 13], [13, 15])])
def verditerref08_Repair.B6 : List Nat := [0, 0, 0, 0, 12, 0, 60, 124, 0, 0, 768, 1792, 3840, 8188, 16383, 32767, 65535]
theorem verditerref08_Repair.tab6 : rtab .any (opsOf Try.f71 6) = verditerref08_Repair.T6 := by kernel_rfl
theorem verditerref08_Repair.bits6 : waitsOk verditerref08_Repair.T6.2 verditerref08_Repair.B6 = true := by kernel_rfl
set_option maxHeartbeats 8000000 in
set_option maxRecDepth 100000 in
theorem verditerref08_Repair.calls (k : Nat) (A0 : Option Addr) (c0 : Nat) (l0 : List (S43)) (a1 : Int) (r1 : List (S43)) (r2 : Bool) (r3 : Int) (w : World) (hr0 : Kd.C k43 w A0 l0.length l0) (hc0 : l0.length ≤ c0) (h : verditerref08_Repair.f k l0 a1 = some (r1, r2, r3)) :
    Calls Try.prog 71 #[.slice A0 l0.length c0, .int .i64 a1] w fun e w' => ∃ v0_ : Value, e = .returned (.tuple #[v0_, .bool r2, .int .i64 r3]) ∧ Kd.R k43 43 w' w.heap.size (fun _ => True) v0_ r1 ∧ Below w.heap.size w w' := by
  have HR0 := Aside0.mk hr0
  have HC0 := Aside0.mk hc0
  clear hr0 hc0
  have HB := Aside0.mk (Below.refl w.heap.size w)
  have H : ((verditerref08_Wrong.f k l0 a1).bind fun bt603 => (if bt603.2.2 = 0 then ((some (([] : List (S43)) : List (S43))).bind fun y606 => (if y606.length + l0.length < 8796093022208 then ((some (y606 ++ l0 : List (S43))).bind fun y609 => (if bt603.2.1 = true then ((verditerref08_without.f l0 bt603.1).bind fun t612 => (if 0 ≤ a1 then (if a1 ≤ (t612.length : Int) then ((verditerref08_through.f k (t612.take (a1 : Int).toNat)).bind fun t619 => (if 0 ≤ bt603.1 then (if bt603.1 < (l0.length : Int) then ((verditerref08_at.f k t619 ((rd_T43 l0 bt603.1).f0)).bind fun t623 => (if bt603.1 < (y609.length : Int) then (some ((y609.set (bt603.1 : Int).toNat (⟨(rd_T43 y609 bt603.1).f0, t623⟩ : S43)), true, 0)) else (none))) else (none)) else (none))) else (none)) else (none))) else ((verditerref08_lie.f k l0 a1).bind fun t625 => (if t625 = true then (some (y609, true, 0)) else (some (([] : List (S43)), false, 0)))))) else (none))) else (some (([] : List (S43)), false, bt603.2.2)))) = some (r1, r2, r3) := h
  clear h
  replace H := Option.bind_eq_some_iff.mp H
  obtain ⟨⟨t603, t604, t605⟩, A30, H⟩ := H
  replace H : (if t605 = 0 then ((some (([] : List (S43)) : List (S43))).bind fun y606 => (if y606.length + l0.length < 8796093022208 then ((some (y606 ++ l0 : List (S43))).bind fun y609 => (if t604 = true then ((verditerref08_without.f l0 t603).bind fun t612 => (if 0 ≤ a1 then (if a1 ≤ (t612.length : Int) then ((verditerref08_through.f k (t612.take (a1 : Int).toNat)).bind fun t619 => (if 0 ≤ t603 then (if t603 < (l0.length : Int) then ((verditerref08_at.f k t619 ((rd_T43 l0 t603).f0)).bind fun t623 => (if t603 < (y609.length : Int) then (some ((y609.set (t603 : Int).toNat (⟨(rd_T43 y609 t603).f0, t623⟩ : S43)), true, 0)) else (none))) else (none)) else (none))) else (none)) else (none))) else ((verditerref08_lie.f k l0 a1).bind fun t625 => (if t625 = true then (some (y609, true, 0)) else (some (([] : List (S43)), false, 0)))))) else (none))) else (some (([] : List (S43)), false, t605))) = some (r1, r2, r3) := H
  have A3 := Aside0.mk A30
  clear A30
  by_cases c4 : t605 = 0
  · rw [if_pos c4] at H
    have c4b0 : (t605 == 0) = true := beq_iff_eq.mpr c4
    have c4b1 : (t605 != 0) = false := bne_eq_false_iff_eq.mpr c4
    clear c4
    obtain ⟨y606, hy606⟩ : ∃ y_ : List (S43), y_ = (([] : List (S43))) := ⟨_, rfl⟩
    replace H : (if y606.length + l0.length < 8796093022208 then ((some (y606 ++ l0 : List (S43))).bind fun y609 => (if t604 = true then ((verditerref08_without.f l0 t603).bind fun t612 => (if 0 ≤ a1 then (if a1 ≤ (t612.length : Int) then ((verditerref08_through.f k (t612.take (a1 : Int).toNat)).bind fun t619 => (if 0 ≤ t603 then (if t603 < (l0.length : Int) then ((verditerref08_at.f k t619 ((rd_T43 l0 t603).f0)).bind fun t623 => (if t603 < (y609.length : Int) then (some ((y609.set (t603 : Int).toNat (⟨(rd_T43 y609 t603).f0, t623⟩ : S43)), true, 0)) else (none))) else (none)) else (none))) else (none)) else (none))) else ((verditerref08_lie.f k l0 a1).bind fun t625 => (if t625 = true then (some (y609, true, 0)) else (some (([] : List (S43)), false, 0)))))) else (none)) = some (r1, r2, r3) := by first | (rw [hy606]; with_reducible exact H) | (have H2_ := (Option.bind_some _ _).symm.trans H; rw [hy606]; with_reducible exact H2_) | (have H2_ := (Option.bind_some _ _).symm.trans H; with_reducible exact H2_) | with_reducible exact H | (rw [hy606]; exact H) | exact H
    have Ny606 := Aside0.mk hy606
    clear hy606
    by_cases c5 : y606.length + l0.length < 8796093022208
    · rw [if_pos c5] at H
      have LMc5 := Aside0.mk c5
      clear c5
      obtain ⟨y609, hy609⟩ : ∃ y_ : List (S43), y_ = (y606 ++ l0) := ⟨_, rfl⟩
      replace H : (if t604 = true then ((verditerref08_without.f l0 t603).bind fun t612 => (if 0 ≤ a1 then (if a1 ≤ (t612.length : Int) then ((verditerref08_through.f k (t612.take (a1 : Int).toNat)).bind fun t619 => (if 0 ≤ t603 then (if t603 < (l0.length : Int) then ((verditerref08_at.f k t619 ((rd_T43 l0 t603).f0)).bind fun t623 => (if t603 < (y609.length : Int) then (some ((y609.set (t603 : Int).toNat (⟨(rd_T43 y609 t603).f0, t623⟩ : S43)), true, 0)) else (none))) else (none)) else (none))) else (none)) else (none))) else ((verditerref08_lie.f k l0 a1).bind fun t625 => (if t625 = true then (some (y609, true, 0)) else (some (([] : List (S43)), false, 0))))) = some (r1, r2, r3) := by first | (rw [hy609]; with_reducible exact H) | (have H2_ := (Option.bind_some _ _).symm.trans H; rw [hy609]; with_reducible exact H2_) | (have H2_ := (Option.bind_some _ _).symm.trans H; with_reducible exact H2_) | with_reducible exact H | (rw [hy609]; exact H) | exact H
      have Ny609 := Aside0.mk hy609
      clear hy609
      by_cases c6 : t604 = true
      · subst c6
        have H1 : ((verditerref08_without.f l0 t603).bind fun t612 => (if 0 ≤ a1 then (if a1 ≤ (t612.length : Int) then ((verditerref08_through.f k (t612.take (a1 : Int).toNat)).bind fun t619 => (if 0 ≤ t603 then (if t603 < (l0.length : Int) then ((verditerref08_at.f k t619 ((rd_T43 l0 t603).f0)).bind fun t623 => (if t603 < (y609.length : Int) then (some ((y609.set (t603 : Int).toNat (⟨(rd_T43 y609 t603).f0, t623⟩ : S43)), true, 0)) else (none))) else (none)) else (none))) else (none)) else (none))) = some (r1, r2, r3) := by rw [if_pos rfl] at H; exact H
        clear H
        have H := H1
        clear H1
        replace H := Option.bind_eq_some_iff.mp H
        obtain ⟨t612, A70, H⟩ := H
        replace H : (if 0 ≤ a1 then (if a1 ≤ (t612.length : Int) then ((verditerref08_through.f k (t612.take (a1 : Int).toNat)).bind fun t619 => (if 0 ≤ t603 then (if t603 < (l0.length : Int) then ((verditerref08_at.f k t619 ((rd_T43 l0 t603).f0)).bind fun t623 => (if t603 < (y609.length : Int) then (some ((y609.set (t603 : Int).toNat (⟨(rd_T43 y609 t603).f0, t623⟩ : S43)), true, 0)) else (none))) else (none)) else (none))) else (none)) else (none)) = some (r1, r2, r3) := H
        have A7 := Aside0.mk A70
        clear A70
        by_cases c8 : 0 ≤ a1
        · rw [if_pos c8] at H
          have c8b0 := eq_true c8
          have c8b1 : decide (0 ≤ a1) = true := decide_eq_true c8
          clear c8
          by_cases c9 : a1 ≤ (t612.length : Int)
          · rw [if_pos c9] at H
            have c9b0 := eq_true c9
            have c9b1 : decide (a1 ≤ (t612.length : Int)) = true := decide_eq_true c9
            clear c9
            obtain ⟨y615, hy615⟩ : ∃ y_ : List (S43), y_ = (t612.take (a1 : Int).toNat) := ⟨_, rfl⟩
            replace H : ((verditerref08_through.f k y615).bind fun t619 => (if 0 ≤ t603 then (if t603 < (l0.length : Int) then ((verditerref08_at.f k t619 ((rd_T43 l0 t603).f0)).bind fun t623 => (if t603 < (y609.length : Int) then (some ((y609.set (t603 : Int).toNat (⟨(rd_T43 y609 t603).f0, t623⟩ : S43)), true, 0)) else (none))) else (none)) else (none))) = some (r1, r2, r3) := by first | (rw [hy615]; with_reducible exact H) | (have H2_ := (Option.bind_some _ _).symm.trans H; rw [hy615]; with_reducible exact H2_) | (have H2_ := (Option.bind_some _ _).symm.trans H; with_reducible exact H2_) | with_reducible exact H | (rw [hy615]; exact H) | exact H
            have Ny615 := Aside0.mk hy615
            clear hy615
            replace H := Option.bind_eq_some_iff.mp H
            obtain ⟨t619, A100, H⟩ := H
            replace H : (if 0 ≤ t603 then (if t603 < (l0.length : Int) then ((verditerref08_at.f k t619 ((rd_T43 l0 t603).f0)).bind fun t623 => (if t603 < (y609.length : Int) then (some ((y609.set (t603 : Int).toNat (⟨(rd_T43 y609 t603).f0, t623⟩ : S43)), true, 0)) else (none))) else (none)) else (none)) = some (r1, r2, r3) := H
            have A10 := Aside0.mk A100
            clear A100
            by_cases c11 : 0 ≤ t603
            · rw [if_pos c11] at H
              have c11b0 : decide (0 ≤ t603) = true := decide_eq_true c11
              clear c11
              by_cases c12 : t603 < (l0.length : Int)
              · rw [if_pos c12] at H
                have c12b0 : decide (t603 < (l0.length : Int)) = true := decide_eq_true c12
                clear c12
                replace H := Option.bind_eq_some_iff.mp H
                obtain ⟨t623, A130, H⟩ := H
                replace H : (if t603 < (y609.length : Int) then (some ((y609.set (t603 : Int).toNat (⟨(rd_T43 y609 t603).f0, t623⟩ : S43)), true, 0)) else (none)) = some (r1, r2, r3) := H
                have A13 := Aside0.mk A130
                clear A130
                by_cases c14 : t603 < (y609.length : Int)
                · rw [if_pos c14] at H
                  have c14b0 : decide (t603 < (y609.length : Int)) = true := decide_eq_true c14
                  clear c14
                  obtain ⟨y624, hy624⟩ : ∃ y_ : List (S43), y_ = (y609.set (t603 : Int).toNat (⟨(rd_T43 y609 t603).f0, t623⟩ : S43)) := ⟨_, rfl⟩
                  replace H : (some (y624, true, 0)) = some (r1, r2, r3) := by first | (rw [hy624]; with_reducible exact H) | (have H2_ := (Option.bind_some _ _).symm.trans H; rw [hy624]; with_reducible exact H2_) | (have H2_ := (Option.bind_some _ _).symm.trans H; with_reducible exact H2_) | with_reducible exact H | (rw [hy624]; exact H) | exact H
                  have Ny624 := Aside0.mk hy624
                  clear hy624
                  simp only [Option.some.injEq, Prod.mk.injEq] at H
                  obtain ⟨rfl, rfl, rfl⟩ := H
                  go_enter Try.func71, Try.ntmps71
                  try go_wp2_with (first | ((with_reducible refine gate_callee (f := 74) rfl ?_); refine goesL_ (some 14) rfl rfl Try.func74 (by kernel_rfl) rfl #[.slice A0 l0.length c0, .int .i64 a1] rfl (by (try simp only [List.map_toArray, List.map_cons, List.map_nil]); first | done | rfl | (simp only [List.length_drop, List.length_take]; rfl)) ?_; (with_reducible refine (verditerref08_Wrong.calls k _ _ l0 a1 t603 true t605 _ ?side1 ?side2 A3.out).mono ?_); (case side1 => repeat (first | exact HR0.out | (with_reducible refine Kd.C_alloc ?_ _) | (with_reducible refine Kd.C_drewN ?_ _) | (with_reducible refine Kd.C_drew ?_))); (case side2 => exact HC0.out); rintro e w16 ⟨rfl, hb⟩; refine ⟨_, rfl, ?_⟩; have n0_ := Aside0.mk (below_step (by repeat (first | (with_reducible first | exact HB.out | apply below_alloc | apply pw_below_drewN | apply below_drew1) | exact HB.out)) hb); clear HB; have HB := n0_; clear n0_; (try clear hb); (try clear hb2); (try clear hk); (try clear hi)) | ((with_reducible refine gate_dst (N := 21) rfl ?_); refine Kd.R_lit k43 _ 43 ?hg (N := 21) ?hd (xs := ([] : List (S43))) (inner := []) (ok := fun _ => True) (okp := fun _ => True) ?hr ?hp (fun _ hk => hk) trivial (Below.refl _ _) (Nat.le_refl _) (by simp) ?_; (case hd => rfl); (case hg => rfl); (case hr => first | (go_simp; done) | (go_simp; rfl)); (case hp => exact (Reps.none _ _)); intro v607 w17 ho18 hb hg_ hnew_; clear hg_ hnew_; (first | rw [← Ny606.out] at ho18 | (simp only [Int.reduceToNat] at ho18; rw [← Ny606.out] at ho18)); have n0_ := Aside0.mk (Kd.R_lower ho18 (below_size (by repeat (first | (with_reducible first | exact HB.out | apply below_alloc | apply pw_below_drewN | apply below_drew1) | exact HB.out)))); have n1_ := Aside0.mk (below_step (by repeat (first | (with_reducible first | exact HB.out | apply below_alloc | apply pw_below_drewN | apply below_drew1) | exact HB.out)) hb); clear HB; have HO608 := n0_; have HB := n1_; clear n0_ n1_; clear hb ho18) | ((with_reducible refine gate_builtin (b := .append) (xs := #[.tmp 21, .tmp 22]) rfl ?_); at_builtin; refine Kd.R_append_rows k43 (w0 := w) w.heap.size rfl (.tmp 21) (.tmp 22) 22 43 (.agg #[(.int .i64 0), (.int .i64 0)]) 16 rfl Try.underlying22 info43 rfl (by decide) (by omega) v607 y606 l0 _ _ _ (fun _ => True) (fun _ => False) rfl rfl ?aO ?aR (fun _ _ h => h) (fun _ h => h.elim) ?aF ?aB ?aS ?aL ?_; (case aR => repeat (first | exact (Kd.C_below HR0.out HB.out) | (with_reducible refine Kd.C_alloc ?_ _) | (with_reducible refine Kd.C_drewN ?_ _) | (with_reducible refine Kd.C_drew ?_))); (case aB => exact (by repeat (first | (with_reducible first | exact HB.out | apply below_alloc | apply pw_below_drewN | apply below_drew1) | exact HB.out))); (case aF => exact (fun _ _ => trivial)); (case aO => exact (by (with_reducible repeat (first | apply Kd.R_alloc | apply Kd.R_drewN | apply Kd.R_drew)); exact HO608.out)); (case aS => exact (below_size (by repeat (first | (with_reducible first | exact HB.out | apply below_alloc | apply pw_below_drewN | apply below_drew1) | exact HB.out)))); (case aL => have := LMc5.out; omega); intro v610 w19 ho hb hg hat; rw [← Ny609.out] at ho; have n0_ := Aside0.mk (hb); have n1_ := Aside0.mk (ho); clear HB; clear HO608; have HB := n0_; have HO611 := n1_; clear n0_ n1_; clear ho hb hg hat))
                  have n0_ := Aside0.mk (Kd.R_drew HO611.out)
                  have n1_ := Aside0.mk (below_drew1 HB.out)
                  clear HO611
                  clear HB
                  have HO611 := n0_
                  have HB := n1_
                  clear n0_ n1_
                  have p622 : 0 ≤ (t603 : Int) := of_decide_eq_true (by first | (with_reducible assumption) | assumption)
                  have q622 : t603 < (l0.length : Int) := of_decide_eq_true (by first | (with_reducible assumption) | assumption)
                  obtain ⟨ad622, e622, hx622_0, hx622_1⟩ := at_T43 HR0.out t603 p622 q622
                  have hw622_1 := hx622_1
                  have hw622_0 := hx622_0
                  cases e622
                  replace hx622_0 := (HB.out.cell (World.block_lt_of_cell? w _ hx622_0)).trans hx622_0
                  replace hx622_1 := (HB.out.cell (World.block_lt_of_cell? w _ hx622_1)).trans hx622_1
                  replace p622 := eq_true p622
                  replace q622 := eq_true q622
                  refine start_ (n := 17) (S := fun w' => w'.cell? (ad622.add ((t603).toNat * 2)) = some (.int .i64 ((rd_T43 l0 t603).f0)) ∧ w'.cell? ⟨(ad622.add ((t603).toNat * 2)).block, (ad622.add ((t603).toNat * 2)).off + 1, none⟩ = some (.int .i64 ((rd_T43 l0 t603).f1))) (ds := [16]) #[false, false, false, false, false, false, false, false, false, false, false, false, false, false, false, false, false] (by kernel_rfl) rfl rfl ⟨((HB.out.cell (World.block_lt_of_cell? w _ hw622_0)).trans hw622_0), ((HB.out.cell (World.block_lt_of_cell? w _ hw622_1)).trans hw622_1)⟩ (fun hHeld => ?_); refine with_tabW verditerref08_Repair.tab6 verditerref08_Repair.bits6 (fun HT_ HW_ => ?_)
                  generalize w19.drew = w20 at HO611 HB hx622_0 hx622_1 hHeld ⊢
                  refine pure_ (i := 0) (N := some 25) (v := ?_) (a' := ?_) #[true, false, false, false, false, false, false, false, false, false, false, false, false, false, false, false, false] rfl rfl (any_of HT_.out (by kernel_rfl)) (fun _ _ _ h => h) (Or.inl ⟨by rfl, ?_⟩) ?_ ?_
                  rotate_left
                  · intro w'
                    go_simp
                    with_reducible rfl
                  rotate_left
                  · simp only [Act.put, List.setIfInBounds_toArray, List.set_cons_zero, List.set_cons_succ, i64_w, i32_w]
                    rfl
                  refine pure_ (i := 1) (N := some 26) (v := ?_) (a' := ?_) #[true, true, false, false, false, false, false, false, false, false, false, false, false, false, false, false, false] rfl rfl (any_of HT_.out (by kernel_rfl)) (fun _ _ _ h => h) (Or.inl ⟨by rfl, ?_⟩) ?_ ?_
                  rotate_left
                  · intro w'
                    go_simp
                    with_reducible rfl
                  rotate_left
                  · simp only [Act.put, List.setIfInBounds_toArray, List.set_cons_zero, List.set_cons_succ, i64_w, i32_w]
                    rfl
                  refine pure_ (i := 2) (N := some 27) (v := ?_) (a' := ?_) #[true, true, true, false, false, false, false, false, false, false, false, false, false, false, false, false, false] rfl rfl (any_of HT_.out (by kernel_rfl)) (fun _ _ _ h => h) (Or.inl ⟨by rfl, ?_⟩) ?_ ?_
                  rotate_left
                  · intro w'
                    go_simp
                    with_reducible rfl
                  rotate_left
                  · simp only [Act.put, List.setIfInBounds_toArray, List.set_cons_zero, List.set_cons_succ, i64_w, i32_w]
                    rfl
                  refine pure_ (i := 3) (N := some 28) (v := ?_) (a' := ?_) #[true, true, true, true, false, false, false, false, false, false, false, false, false, false, false, false, false] rfl rfl (any_of HT_.out (by kernel_rfl)) (fun _ _ _ h => h) (Or.inl ⟨by rfl, ?_⟩) ?_ ?_
                  rotate_left
                  · intro w'
                    go_simp
                    with_reducible rfl
                  rotate_left
                  · simp only [Act.put, List.setIfInBounds_toArray, List.set_cons_zero, List.set_cons_succ, i64_w, i32_w]
                    rfl
                  refine pure_ (i := 5) (N := some 30) (v := ?_) (a' := ?_) #[true, true, true, true, false, true, false, false, false, false, false, false, false, false, false, false, false] rfl rfl (any_of HT_.out (by kernel_rfl)) (fun _ _ _ h => h) (Or.inl ⟨by rfl, ?_⟩) ?_ ?_
                  rotate_left
                  · intro w'
                    go_simp
                    with_reducible rfl
                  rotate_left
                  · simp only [Act.put, List.setIfInBounds_toArray, List.set_cons_zero, List.set_cons_succ, i64_w, i32_w]
                    rfl
                  refine pure_ (i := 8) (N := some 33) (v := ?_) (a' := ?_) #[true, true, true, true, false, true, false, false, true, false, false, false, false, false, false, false, false] rfl rfl (any_of HT_.out (by kernel_rfl)) (fun _ _ _ h => h) (Or.inl ⟨by rfl, ?_⟩) ?_ ?_
                  rotate_left
                  · intro w'
                    go_simp
                    with_reducible rfl
                  rotate_left
                  · simp only [Act.put, List.setIfInBounds_toArray, List.set_cons_zero, List.set_cons_succ, i64_w, i32_w]
                    rfl
                  refine pure_ (i := 9) (N := some 34) (v := ?_) (a' := ?_) #[true, true, true, true, false, true, false, false, true, true, false, false, false, false, false, false, false] rfl rfl (any_of HT_.out (by kernel_rfl)) (fun _ _ _ h => h) (Or.inl ⟨by rfl, ?_⟩) ?_ ?_
                  rotate_left
                  · intro w'
                    go_simp
                    with_reducible rfl
                  rotate_left
                  · simp only [Act.put, List.setIfInBounds_toArray, List.set_cons_zero, List.set_cons_succ, i64_w, i32_w]
                    rfl
                  refine pure_ (i := 10) (N := some 35) (v := ?_) (a' := ?_) #[true, true, true, true, false, true, false, false, true, true, true, false, false, false, false, false, false] rfl rfl (any_of HT_.out (by kernel_rfl)) (fun _ _ _ h => h) (Or.inl ⟨by rfl, ?_⟩) ?_ ?_
                  rotate_left
                  · intro w'
                    go_simp
                    with_reducible rfl
                  rotate_left
                  · simp only [Act.put, List.setIfInBounds_toArray, List.set_cons_zero, List.set_cons_succ, i64_w, i32_w]
                    rfl
                  refine pure_ (i := 11) (N := some 36) (v := ?_) (a' := ?_) #[true, true, true, true, false, true, false, false, true, true, true, true, false, false, false, false, false] rfl rfl (any_of HT_.out (by kernel_rfl)) (fun _ _ _ h => h) (Or.inl ⟨by rfl, ?_⟩) ?_ ?_
                  rotate_left
                  · intro w'
                    go_simp
                    with_reducible rfl
                  rotate_left
                  · simp only [Act.put, List.setIfInBounds_toArray, List.set_cons_zero, List.set_cons_succ, i64_w, i32_w]
                    rfl
                  refine take_ (i := 12) (N := some 37) (v := ?_) (a' := ?_) #[true, true, true, true, false, true, false, false, true, true, true, true, true, false, false, false, false] rfl rfl (take_ofW HT_.out HW_.out (by kernel_rfl)) (fun _ _ _ h => h) (Or.inl ⟨by rfl, ?_⟩) hHeld ?_ ?_
                  rotate_left
                  · rintro w' ⟨s0, s1⟩
                    go_simp
                    with_reducible rfl
                  rotate_left
                  · simp only [Act.put, List.setIfInBounds_toArray, List.set_cons_zero, List.set_cons_succ, i64_w, i32_w]
                    rfl
                  refine one_ (i := 4) (N := some 29) #[true, true, true, true, true, true, false, false, true, true, true, true, true, false, false, false, false] rfl rfl (one_of HT_.out (by kernel_rfl)) (by decide) (fun K hK => ?_)
                  refine goes_ Try.func97 (by kernel_rfl) rfl #[.slice (some ad622) l0.length c0, .int .i64 t603] (by rfl) rfl rfl (by (try simp only [List.map_toArray, List.map_cons, List.map_nil]); first | done | rfl | (simp only [List.length_drop, List.length_take]; rfl)) ?_
                  with_reducible refine (verditerref08_without.calls _ _ l0 t603 t612 _ ?side1 ?side2 A7.out).mono ?_
                  (case side1 => repeat (first | exact (Kd.C_below HR0.out HB.out) | (with_reducible refine Kd.C_alloc ?_ _) | (with_reducible refine Kd.C_drewN ?_ _) | (with_reducible refine Kd.C_drew ?_)))
                  (case side2 => exact HC0.out)
                  rintro e w21 ⟨v613, rfl, ho0, hb⟩
                  refine ⟨_, rfl, ?_⟩
                  have n0_ := Aside0.mk (Kd.R_elder' (by (with_reducible repeat (first | apply Kd.R_alloc | apply Kd.R_drewN | apply Kd.R_drew)); exact HO611.out) (Kd.R_base ho0) hb)
                  have n1_ := Aside0.mk (Kd.R_lower (Kd.R_new' ho0 (Kd.R_lt (by (with_reducible repeat (first | apply Kd.R_alloc | apply Kd.R_drewN | apply Kd.R_drew)); exact HO611.out))) (below_size (by repeat (first | (with_reducible first | exact HB.out | apply below_alloc | apply pw_below_drewN | apply below_drew1) | exact HB.out))))
                  have n2_ := Aside0.mk (below_step (by repeat (first | (with_reducible first | exact HB.out | apply below_alloc | apply pw_below_drewN | apply below_drew1) | exact HB.out)) hb)
                  clear HO611
                  clear HB
                  have HO611 := n0_
                  have HO614 := n1_
                  have HB := n2_
                  clear n0_ n1_ n2_
                  (try clear hb)
                  (try clear hb2)
                  (try clear hk)
                  (try clear hi)
                  (try clear ho0)
                  obtain ⟨Ao23, co23, eo23⟩ := Kd.R_slice HO614.out
                  (first | subst eo23 | (injection eo23 with f1_ f2_ f3_; have f4_ := f1_.symm; have f5_ := f3_.symm; clear f1_ f2_ f3_; subst f4_; subst f5_))
                  have q22 : (a1 : Int) ≤ ((t612.length : Int) : Int) := of_decide_eq_true (by first | (with_reducible assumption) | assumption)
                  obtain ⟨i022, hi022, _, hsz22, _⟩ := info_parts info43
                  have hroom22 : t612.length ≤ co23 := (Kd.R_reads' HO614.out).2.1
                  have hC22 : Kd.C k43 _ Ao23 t612.length t612 := (Kd.R_reads' HO614.out).2.2
                  have hcut22 := cut_to (P := Try.prog) 22 43 .i64 Try.underlying22 hi022 Ao23 t612.length co23 a1 (of_decide_eq_true (by first | (with_reducible assumption) | assumption)) q22 hroom22
                  have hr22 := Kd.C_take (m := (a1 : Int).toNat) hC22 (by omega)
                  have hy22 : y615.length = (a1 : Int).toNat := (by rw [Ny615.out, List.length_take]; omega)
                  rw [← Ny615.out] at hr22
                  rw [← hy22] at hcut22
                  have HR618 := Aside0.mk hr22
                  have HC618 := Aside0.mk (show y615.length ≤ co23 from by omega)
                  clear hr22 hC22 hroom22 hi022 hsz22
                  have KY22 := Aside0.mk hy22
                  clear hy22
                  have KL22 := Aside0.mk (show (a1 : Int).toNat ≤ t612.length from by omega)
                  replace q22 := eq_true q22
                  refine hK.out _ _ ⟨((HB.out.cell (World.block_lt_of_cell? w _ hw622_0)).trans hw622_0), ((HB.out.cell (World.block_lt_of_cell? w _ hw622_1)).trans hw622_1)⟩ (fun hHeld => ?_)
                  clear hK K
                  refine norm_ (a' := ?_) ?_ ?_
                  rotate_left
                  · show Act.put _ (some 29) _ = _
                    simp only [Act.put, List.setIfInBounds_toArray, List.set_cons_zero, List.set_cons_succ, i64_w, i32_w]
                    rfl
                  refine pure_ (i := 6) (N := some 31) (v := ?_) (a' := ?_) #[true, true, true, true, true, true, true, false, true, true, true, true, true, false, false, false, false] rfl rfl (any_of HT_.out (by kernel_rfl)) (fun _ _ _ h => h) (Or.inl ⟨by rfl, ?_⟩) ?_ ?_
                  rotate_left
                  · intro w'
                    go_simp
                    with_reducible rfl
                  rotate_left
                  · simp only [Act.put, List.setIfInBounds_toArray, List.set_cons_zero, List.set_cons_succ, i64_w, i32_w]
                    rfl
                  refine one_ (i := 7) (N := some 32) #[true, true, true, true, true, true, true, true, true, true, true, true, true, false, false, false, false] rfl rfl (one_of HT_.out (by kernel_rfl)) (by decide) (fun K hK => ?_)
                  refine goes_ Try.func76 (by kernel_rfl) rfl #[.slice Ao23 y615.length co23] (by rfl) rfl rfl (by (try simp only [List.map_toArray, List.map_cons, List.map_nil]); first | done | rfl | (simp only [List.length_drop, List.length_take]; rfl)) ?_
                  with_reducible refine (verditerref08_through.calls k _ _ y615 t619 _ ?side1 ?side2 A10.out).mono ?_
                  (case side1 => repeat (first | exact (by repeat (first | (with_reducible exact HR618.out) | (with_reducible refine Kd.C_alloc ?_ _) | (with_reducible refine Kd.C_drewN ?_ _) | (with_reducible refine Kd.C_drew ?_) | exact HR618.out)) | (with_reducible refine Kd.C_alloc ?_ _) | (with_reducible refine Kd.C_drewN ?_ _) | (with_reducible refine Kd.C_drew ?_)))
                  (case side2 => exact HC618.out)
                  rintro e w24 ⟨v620, rfl, ho0, hb⟩
                  refine ⟨_, rfl, ?_⟩
                  have n0_ := Aside0.mk (Kd.R_below (by (with_reducible repeat (first | apply Kd.R_alloc | apply Kd.R_drewN | apply Kd.R_drew)); exact HO611.out) hb)
                  have n1_ := Aside0.mk (Kd.R_below (by (with_reducible repeat (first | apply Kd.R_alloc | apply Kd.R_drewN | apply Kd.R_drew)); exact HO614.out) hb)
                  have n2_ := Aside0.mk (Kd.R_lower ho0 (below_size (by repeat (first | (with_reducible first | exact HB.out | apply below_alloc | apply pw_below_drewN | apply below_drew1) | exact HB.out))))
                  have n3_ := Aside0.mk (Kd.C_below (by repeat (first | (with_reducible exact HR618.out) | (with_reducible refine Kd.C_alloc ?_ _) | (with_reducible refine Kd.C_drewN ?_ _) | (with_reducible refine Kd.C_drew ?_) | exact HR618.out)) hb)
                  have n4_ := Aside0.mk (below_step (by repeat (first | (with_reducible first | exact HB.out | apply below_alloc | apply pw_below_drewN | apply below_drew1) | exact HB.out)) hb)
                  clear HO611
                  clear HO614
                  clear HR618
                  clear HB
                  have HO611 := n0_
                  have HO614 := n1_
                  have HO621 := n2_
                  have HR618 := n3_
                  have HB := n4_
                  clear n0_ n1_ n2_ n3_ n4_
                  (try clear hb)
                  (try clear hb2)
                  (try clear hk)
                  (try clear hi)
                  (try clear ho0)
                  obtain ⟨Ao25, co25, eo25⟩ := Kd.R_slice HO621.out
                  (first | subst eo25 | (injection eo25 with f1_ f2_ f3_; have f4_ := f1_.symm; have f5_ := f3_.symm; clear f1_ f2_ f3_; subst f4_; subst f5_))
                  refine hK.out _ _ ⟨((HB.out.cell (World.block_lt_of_cell? w _ hw622_0)).trans hw622_0), ((HB.out.cell (World.block_lt_of_cell? w _ hw622_1)).trans hw622_1)⟩ (fun hHeld => ?_)
                  clear hK K
                  refine norm_ (a' := ?_) ?_ ?_
                  rotate_left
                  · show Act.put _ (some 32) _ = _
                    simp only [Act.put, List.setIfInBounds_toArray, List.set_cons_zero, List.set_cons_succ, i64_w, i32_w]
                    rfl
                  refine one_ (i := 13) (N := some 38) #[true, true, true, true, true, true, true, true, true, true, true, true, true, true, false, false, false] rfl rfl (one_of HT_.out (by kernel_rfl)) (by decide) (fun K hK => ?_)
                  refine goes_ Try.func82 (by kernel_rfl) rfl #[.slice Ao25 t619.length co25, .int .i64 ((rd_T43 l0 t603).f0)] (by rfl) rfl rfl (by (try simp only [List.map_toArray, List.map_cons, List.map_nil]); first | done | rfl | (simp only [List.length_drop, List.length_take]; rfl)) ?_
                  with_reducible refine (verditerref08_at.calls k _ _ t619 ((rd_T43 l0 t603).f0) t623 _ ?side1 ?side2 A13.out).mono ?_
                  (case side1 => repeat (first | exact (Kd.R_reads' HO621.out).2.2 | (with_reducible refine Kd.C_alloc ?_ _) | (with_reducible refine Kd.C_drewN ?_ _) | (with_reducible refine Kd.C_drew ?_)))
                  (case side2 => exact (Kd.R_reads' HO621.out).2.1)
                  rintro e w' ⟨rfl, ⟨nd, rfl⟩⟩
                  refine ⟨_, rfl, ?_⟩
                  have p15 : 0 ≤ (t603 : Int) := of_decide_eq_true (by first | (with_reducible assumption) | assumption)
                  have q15 : (t603 : Int) < ((y609.length : Int) : Int) := of_decide_eq_true (by first | (with_reducible assumption) | assumption)
                  obtain ⟨go15, co15, eo15, gb15, gl15, cl15, HG15⟩ := Kd.R_form HO611.out (by omega)
                  (first | cases eo15 | (injection eo15 with ea_ en_ ec_; (first | subst ea_ | (injection ea_ with ea_; subst ea_)); subst ec_; clear en_))
                  have GB15 := Aside0.mk gb15
                  have GG15 := Aside0.mk HG15
                  clear gb15 gl15 HG15
                  obtain ⟨ce15, hcl15, hM15, hcc15, hfr15⟩ := Kd.R_elem HO611.out z43 (t603 : Int) p15 q15
                  obtain rfl := k43_openM hM15
                  have hx15_0 : World.cell? _ ⟨go15, (t603 : Int).toNat * 2, none⟩ = some (.int .i64 ((rd_T43 y609 t603).f0)) := hcc15 0 _ rfl
                  have hx15_1 : World.cell? _ ⟨go15, (t603 : Int).toNat * 2 + 1, none⟩ = some (.int .i64 ((rd_T43 y609 t603).f1)) := hcc15 1 _ rfl
                  have hf15_0 : World.frozen? _ ⟨go15, (t603 : Int).toNat * 2, none⟩ = false := hfr15 0
                  have hf15_1 : World.frozen? _ ⟨go15, (t603 : Int).toNat * 2 + 1, none⟩ = false := hfr15 1
                  clear hcl15 hcc15 hfr15 hM15
                  replace p15 := eq_true p15
                  replace q15 := eq_true q15
                  obtain ⟨ce26, hcl26, hM26, hcc26, hfr26⟩ := Kd.R_elem HO611.out z43 (t603 : Int) (of_decide_eq_true (by first | (with_reducible assumption) | assumption)) (by have h_ : (t603 : Int) < ((y609.length : Int) : Int) := of_decide_eq_true (by first | (with_reducible assumption) | assumption); first | exact h_ | (have e_ := (Kd.R_reads' HO611.out).1; omega) | simpa using h_)
                  obtain rfl := k43_openM hM26
                  have HP26 := (Kd.R_seg HO611.out (t603 : Int) (of_decide_eq_true (by first | (with_reducible assumption) | assumption)) (by have h_ : (t603 : Int) < ((y609.length : Int) : Int) := of_decide_eq_true (by first | (with_reducible assumption) | assumption); first | exact h_ | (have e_ := (Kd.R_reads' HO611.out).1; omega) | simpa using h_) (seg := [.int .i64 t623]) (j := 1) hcl26 hcc26 (show 2 ≤ 2 from by decide) (x' := (⟨(rd_T43 y609 t603).f0, t623⟩ : S43)) (k43_mkM _ _ _ (⟨(rd_T43 y609 t603).f0, t623⟩ : S43) ) (fun _ hk => hk)).1
                  rw [← Ny624.out] at HP26
                  have HQ26 := Aside0.mk HP26
                  clear hcl26 hcc26 hfr26 hM26 HP26
                  refine hK.out _ _ ⟨((HB.out.cell (World.block_lt_of_cell? w _ hw622_0)).trans hw622_0), ((HB.out.cell (World.block_lt_of_cell? w _ hw622_1)).trans hw622_1)⟩ (fun hHeld => ?_)
                  clear hK K
                  refine norm_ (a' := ?_) ?_ ?_
                  rotate_left
                  · show Act.put _ (some 38) _ = _
                    simp only [Act.put, List.setIfInBounds_toArray, List.set_cons_zero, List.set_cons_succ, i64_w, i32_w]
                    rfl
                  refine pure_ (i := 14) (N := some 39) (v := ?_) (a' := ?_) #[true, true, true, true, true, true, true, true, true, true, true, true, true, true, true, false, false] rfl rfl (any_of HT_.out (by kernel_rfl)) (fun _ _ _ h => h) (Or.inl ⟨by rfl, ?_⟩) ?_ ?_
                  rotate_left
                  · intro w'
                    go_simp
                    with_reducible rfl
                  rotate_left
                  · simp only [Act.put, List.setIfInBounds_toArray, List.set_cons_zero, List.set_cons_succ, i64_w, i32_w]
                    rfl
                  refine pure_ (i := 15) (N := some 40) (v := ?_) (a' := ?_) #[true, true, true, true, true, true, true, true, true, true, true, true, true, true, true, true, false] rfl rfl (any_of HT_.out (by kernel_rfl)) (fun _ _ _ h => h) (Or.inl ⟨by rfl, ?_⟩) ?_ ?_
                  rotate_left
                  · intro w'
                    go_simp
                    with_reducible rfl
                  rotate_left
                  · simp only [Act.put, List.setIfInBounds_toArray, List.set_cons_zero, List.set_cons_succ, i64_w, i32_w]
                    rfl
                  refine last_ (i := 16) (N := none) #[true, true, true, true, true, true, true, true, true, true, true, true, true, true, true, true, true] rfl rfl (one_of HT_.out (by kernel_rfl)) (by decide) (fun K hK => ?_)
                  refine skip_ (w1 := ?_) (by rfl) rfl ?_ ?_
                  rotate_left
                  · go_simp
                    rfl
                  refine hK.out _ _ ?_
                  clear hK K
                  refine done_ (done_of HT_.out (by kernel_rfl)) ?_
                  try go_wp2
                  go_ret3
                  exact ⟨_, by first | rfl | (simp [errW_none, errW_some] <;> rfl) | (simp [*, errW_none, errW_some] <;> rfl), by (with_reducible repeat (first | apply Kd.R_alloc | apply Kd.R_drewN | apply Kd.R_drew)); exact Kd.R_mono HQ26.out (fun _ hk => trivial), by repeat (first | (with_reducible first | exact HB.out | apply below_alloc | apply pw_below_drewN | apply below_drew1 | refine below_set ?_ GB15.out) | exact HB.out)⟩
                · rw [if_neg c14] at H
                  exact absurd H (by simp)
              · rw [if_neg c12] at H
                exact absurd H (by simp)
            · rw [if_neg c11] at H
              exact absurd H (by simp)
          · rw [if_neg c9] at H
            exact absurd H (by simp)
        · rw [if_neg c8] at H
          exact absurd H (by simp)
      · replace c6 := Bool.eq_false_iff.mpr c6
        subst c6
        have H1 : ((verditerref08_lie.f k l0 a1).bind fun t625 => (if t625 = true then (some (y609, true, 0)) else (some (([] : List (S43)), false, 0)))) = some (r1, r2, r3) := by rw [if_neg (show ¬ (false = true) by decide)] at H; exact H
        clear H
        have H := H1
        clear H1
        replace H := Option.bind_eq_some_iff.mp H
        obtain ⟨t625, A270, H⟩ := H
        replace H : (if t625 = true then (some (y609, true, 0)) else (some (([] : List (S43)), false, 0))) = some (r1, r2, r3) := H
        have A27 := Aside0.mk A270
        clear A270
        by_cases c28 : t625 = true
        · subst c28
          have H1 : (some (y609, true, 0)) = some (r1, r2, r3) := by rw [if_pos rfl] at H; exact H
          clear H
          have H := H1
          clear H1
          simp only [Option.some.injEq, Prod.mk.injEq] at H
          obtain ⟨rfl, rfl, rfl⟩ := H
          go_enter Try.func71, Try.ntmps71
          go_wp2_with (first | ((with_reducible refine gate_callee (f := 74) rfl ?_); refine goesL_ (some 14) rfl rfl Try.func74 (by kernel_rfl) rfl #[.slice A0 l0.length c0, .int .i64 a1] rfl (by (try simp only [List.map_toArray, List.map_cons, List.map_nil]); first | done | rfl | (simp only [List.length_drop, List.length_take]; rfl)) ?_; (with_reducible refine (verditerref08_Wrong.calls k _ _ l0 a1 t603 false t605 _ ?side1 ?side2 A3.out).mono ?_); (case side1 => repeat (first | exact HR0.out | (with_reducible refine Kd.C_alloc ?_ _) | (with_reducible refine Kd.C_drewN ?_ _) | (with_reducible refine Kd.C_drew ?_))); (case side2 => exact HC0.out); rintro e w29 ⟨rfl, hb⟩; refine ⟨_, rfl, ?_⟩; have n0_ := Aside0.mk (below_step (by repeat (first | (with_reducible first | exact HB.out | apply below_alloc | apply pw_below_drewN | apply below_drew1) | exact HB.out)) hb); clear HB; have HB := n0_; clear n0_; (try clear hb); (try clear hb2); (try clear hk); (try clear hi)) | ((with_reducible refine gate_dst (N := 21) rfl ?_); refine Kd.R_lit k43 _ 43 ?hg (N := 21) ?hd (xs := ([] : List (S43))) (inner := []) (ok := fun _ => True) (okp := fun _ => True) ?hr ?hp (fun _ hk => hk) trivial (Below.refl _ _) (Nat.le_refl _) (by simp) ?_; (case hd => rfl); (case hg => rfl); (case hr => first | (go_simp; done) | (go_simp; rfl)); (case hp => exact (Reps.none _ _)); intro v607 w30 ho31 hb hg_ hnew_; clear hg_ hnew_; (first | rw [← Ny606.out] at ho31 | (simp only [Int.reduceToNat] at ho31; rw [← Ny606.out] at ho31)); have n0_ := Aside0.mk (Kd.R_lower ho31 (below_size (by repeat (first | (with_reducible first | exact HB.out | apply below_alloc | apply pw_below_drewN | apply below_drew1) | exact HB.out)))); have n1_ := Aside0.mk (below_step (by repeat (first | (with_reducible first | exact HB.out | apply below_alloc | apply pw_below_drewN | apply below_drew1) | exact HB.out)) hb); clear HB; have HO608 := n0_; have HB := n1_; clear n0_ n1_; clear hb ho31) | ((with_reducible refine gate_builtin (b := .append) (xs := #[.tmp 21, .tmp 22]) rfl ?_); at_builtin; refine Kd.R_append_rows k43 (w0 := w) w.heap.size rfl (.tmp 21) (.tmp 22) 22 43 (.agg #[(.int .i64 0), (.int .i64 0)]) 16 rfl Try.underlying22 info43 rfl (by decide) (by omega) v607 y606 l0 _ _ _ (fun _ => True) (fun _ => False) rfl rfl ?aO ?aR (fun _ _ h => h) (fun _ h => h.elim) ?aF ?aB ?aS ?aL ?_; (case aR => repeat (first | exact (Kd.C_below HR0.out HB.out) | (with_reducible refine Kd.C_alloc ?_ _) | (with_reducible refine Kd.C_drewN ?_ _) | (with_reducible refine Kd.C_drew ?_))); (case aB => exact (by repeat (first | (with_reducible first | exact HB.out | apply below_alloc | apply pw_below_drewN | apply below_drew1) | exact HB.out))); (case aF => exact (fun _ _ => trivial)); (case aO => exact (by (with_reducible repeat (first | apply Kd.R_alloc | apply Kd.R_drewN | apply Kd.R_drew)); exact HO608.out)); (case aS => exact (below_size (by repeat (first | (with_reducible first | exact HB.out | apply below_alloc | apply pw_below_drewN | apply below_drew1) | exact HB.out)))); (case aL => have := LMc5.out; omega); intro v610 w32 ho hb hg hat; rw [← Ny609.out] at ho; have n0_ := Aside0.mk (hb); have n1_ := Aside0.mk (ho); clear HB; clear HO608; have HB := n0_; have HO611 := n1_; clear n0_ n1_; clear ho hb hg hat) | ((with_reducible refine gate_callee (f := 92) rfl ?_); refine goesL_ (some 44) rfl rfl Try.func92 (by kernel_rfl) rfl #[.slice A0 l0.length c0, .int .i64 a1] rfl (by (try simp only [List.map_toArray, List.map_cons, List.map_nil]); first | done | rfl | (simp only [List.length_drop, List.length_take]; rfl)) ?_; (with_reducible refine (verditerref08_lie.calls k _ _ l0 a1 true _ ?side1 ?side2 A27.out).mono ?_); (case side1 => repeat (first | exact (Kd.C_below HR0.out HB.out) | (with_reducible refine Kd.C_alloc ?_ _) | (with_reducible refine Kd.C_drewN ?_ _) | (with_reducible refine Kd.C_drew ?_))); (case side2 => exact HC0.out); rintro e w33 ⟨rfl, hb⟩; refine ⟨_, rfl, ?_⟩; have n0_ := Aside0.mk (Kd.R_below (by (with_reducible repeat (first | apply Kd.R_alloc | apply Kd.R_drewN | apply Kd.R_drew)); exact HO611.out) hb); have n1_ := Aside0.mk (below_step (by repeat (first | (with_reducible first | exact HB.out | apply below_alloc | apply pw_below_drewN | apply below_drew1) | exact HB.out)) hb); clear HO611; clear HB; have HO611 := n0_; have HB := n1_; clear n0_ n1_; (try clear hb); (try clear hb2); (try clear hk); (try clear hi)))
          go_ret3
          exact ⟨_, by first | rfl | (simp [errW_none, errW_some] <;> rfl) | (simp [*, errW_none, errW_some] <;> rfl), by (with_reducible repeat (first | apply Kd.R_alloc | apply Kd.R_drewN | apply Kd.R_drew)); exact HO611.out, by repeat (first | (with_reducible first | exact HB.out | apply below_alloc | apply pw_below_drewN | apply below_drew1) | exact HB.out)⟩
        · replace c28 := Bool.eq_false_iff.mpr c28
          subst c28
          have H1 : (some (([] : List (S43)), false, 0)) = some (r1, r2, r3) := by rw [if_neg (show ¬ (false = true) by decide)] at H; exact H
          clear H
          have H := H1
          clear H1
          simp only [Option.some.injEq, Prod.mk.injEq] at H
          obtain ⟨rfl, rfl, rfl⟩ := H
          go_enter Try.func71, Try.ntmps71
          go_wp2_with (first | ((with_reducible refine gate_callee (f := 74) rfl ?_); refine goesL_ (some 14) rfl rfl Try.func74 (by kernel_rfl) rfl #[.slice A0 l0.length c0, .int .i64 a1] rfl (by (try simp only [List.map_toArray, List.map_cons, List.map_nil]); first | done | rfl | (simp only [List.length_drop, List.length_take]; rfl)) ?_; (with_reducible refine (verditerref08_Wrong.calls k _ _ l0 a1 t603 false t605 _ ?side1 ?side2 A3.out).mono ?_); (case side1 => repeat (first | exact HR0.out | (with_reducible refine Kd.C_alloc ?_ _) | (with_reducible refine Kd.C_drewN ?_ _) | (with_reducible refine Kd.C_drew ?_))); (case side2 => exact HC0.out); rintro e w34 ⟨rfl, hb⟩; refine ⟨_, rfl, ?_⟩; have n0_ := Aside0.mk (below_step (by repeat (first | (with_reducible first | exact HB.out | apply below_alloc | apply pw_below_drewN | apply below_drew1) | exact HB.out)) hb); clear HB; have HB := n0_; clear n0_; (try clear hb); (try clear hb2); (try clear hk); (try clear hi)) | ((with_reducible refine gate_dst (N := 21) rfl ?_); refine Kd.R_lit k43 _ 43 ?hg (N := 21) ?hd (xs := ([] : List (S43))) (inner := []) (ok := fun _ => True) (okp := fun _ => True) ?hr ?hp (fun _ hk => hk) trivial (Below.refl _ _) (Nat.le_refl _) (by simp) ?_; (case hd => rfl); (case hg => rfl); (case hr => first | (go_simp; done) | (go_simp; rfl)); (case hp => exact (Reps.none _ _)); intro v607 w35 ho36 hb hg_ hnew_; clear hg_ hnew_; (first | rw [← Ny606.out] at ho36 | (simp only [Int.reduceToNat] at ho36; rw [← Ny606.out] at ho36)); have n0_ := Aside0.mk (Kd.R_lower ho36 (below_size (by repeat (first | (with_reducible first | exact HB.out | apply below_alloc | apply pw_below_drewN | apply below_drew1) | exact HB.out)))); have n1_ := Aside0.mk (below_step (by repeat (first | (with_reducible first | exact HB.out | apply below_alloc | apply pw_below_drewN | apply below_drew1) | exact HB.out)) hb); clear HB; have HO608 := n0_; have HB := n1_; clear n0_ n1_; clear hb ho36) | ((with_reducible refine gate_builtin (b := .append) (xs := #[.tmp 21, .tmp 22]) rfl ?_); at_builtin; refine Kd.R_append_rows k43 (w0 := w) w.heap.size rfl (.tmp 21) (.tmp 22) 22 43 (.agg #[(.int .i64 0), (.int .i64 0)]) 16 rfl Try.underlying22 info43 rfl (by decide) (by omega) v607 y606 l0 _ _ _ (fun _ => True) (fun _ => False) rfl rfl ?aO ?aR (fun _ _ h => h) (fun _ h => h.elim) ?aF ?aB ?aS ?aL ?_; (case aR => repeat (first | exact (Kd.C_below HR0.out HB.out) | (with_reducible refine Kd.C_alloc ?_ _) | (with_reducible refine Kd.C_drewN ?_ _) | (with_reducible refine Kd.C_drew ?_))); (case aB => exact (by repeat (first | (with_reducible first | exact HB.out | apply below_alloc | apply pw_below_drewN | apply below_drew1) | exact HB.out))); (case aF => exact (fun _ _ => trivial)); (case aO => exact (by (with_reducible repeat (first | apply Kd.R_alloc | apply Kd.R_drewN | apply Kd.R_drew)); exact HO608.out)); (case aS => exact (below_size (by repeat (first | (with_reducible first | exact HB.out | apply below_alloc | apply pw_below_drewN | apply below_drew1) | exact HB.out)))); (case aL => have := LMc5.out; omega); intro v610 w37 ho hb hg hat; rw [← Ny609.out] at ho; have n0_ := Aside0.mk (hb); have n1_ := Aside0.mk (ho); clear HB; clear HO608; have HB := n0_; have HO611 := n1_; clear n0_ n1_; clear ho hb hg hat) | ((with_reducible refine gate_callee (f := 92) rfl ?_); refine goesL_ (some 44) rfl rfl Try.func92 (by kernel_rfl) rfl #[.slice A0 l0.length c0, .int .i64 a1] rfl (by (try simp only [List.map_toArray, List.map_cons, List.map_nil]); first | done | rfl | (simp only [List.length_drop, List.length_take]; rfl)) ?_; (with_reducible refine (verditerref08_lie.calls k _ _ l0 a1 false _ ?side1 ?side2 A27.out).mono ?_); (case side1 => repeat (first | exact (Kd.C_below HR0.out HB.out) | (with_reducible refine Kd.C_alloc ?_ _) | (with_reducible refine Kd.C_drewN ?_ _) | (with_reducible refine Kd.C_drew ?_))); (case side2 => exact HC0.out); rintro e w38 ⟨rfl, hb⟩; refine ⟨_, rfl, ?_⟩; have n0_ := Aside0.mk (Kd.R_below (by (with_reducible repeat (first | apply Kd.R_alloc | apply Kd.R_drewN | apply Kd.R_drew)); exact HO611.out) hb); have n1_ := Aside0.mk (below_step (by repeat (first | (with_reducible first | exact HB.out | apply below_alloc | apply pw_below_drewN | apply below_drew1) | exact HB.out)) hb); clear HO611; clear HB; have HO611 := n0_; have HB := n1_; clear n0_ n1_; (try clear hb); (try clear hb2); (try clear hk); (try clear hi)))
          go_ret3
          exact ⟨_, by first | rfl | (simp [errW_none, errW_some] <;> rfl) | (simp [*, errW_none, errW_some] <;> rfl), by first | exact Kd.R_nil _ _ _ _ _ | exact Kd.N_nil _ _ _ _ _ | exact Kd.V_nil _ _ _ _ _ | exact Kd.Q_nil _ _ _ _ _ | exact Kd.S_nil _ _ _ _ _, by repeat (first | (with_reducible first | exact HB.out | apply below_alloc | apply pw_below_drewN | apply below_drew1) | exact HB.out)⟩
    · rw [if_neg c5] at H
      exact absurd H (by simp)
  · rw [if_neg c4] at H
    have c4b0 : (t605 == 0) = false := beq_eq_false_iff_ne.mpr c4
    have c4b1 : (t605 != 0) = true := bne_iff_ne.mpr c4
    simp only [Option.some.injEq, Prod.mk.injEq] at H
    obtain ⟨rfl, rfl, rfl⟩ := H
    go_enter Try.func71, Try.ntmps71
    go_wp2_with (first | ((with_reducible refine gate_callee (f := 74) rfl ?_); refine goesL_ (some 14) rfl rfl Try.func74 (by kernel_rfl) rfl #[.slice A0 l0.length c0, .int .i64 a1] rfl (by (try simp only [List.map_toArray, List.map_cons, List.map_nil]); first | done | rfl | (simp only [List.length_drop, List.length_take]; rfl)) ?_; (with_reducible refine (verditerref08_Wrong.calls k _ _ l0 a1 t603 t604 t605 _ ?side1 ?side2 A3.out).mono ?_); (case side1 => repeat (first | exact HR0.out | (with_reducible refine Kd.C_alloc ?_ _) | (with_reducible refine Kd.C_drewN ?_ _) | (with_reducible refine Kd.C_drew ?_))); (case side2 => exact HC0.out); rintro e w39 ⟨rfl, hb⟩; refine ⟨_, rfl, ?_⟩; have n0_ := Aside0.mk (below_step (by repeat (first | (with_reducible first | exact HB.out | apply below_alloc | apply pw_below_drewN | apply below_drew1) | exact HB.out)) hb); clear HB; have HB := n0_; clear n0_; (try clear hb); (try clear hb2); (try clear hk); (try clear hi)))
    go_ret3
    exact ⟨_, by first | rfl | (simp [errW_none, errW_some] <;> rfl) | (simp [*, errW_none, errW_some] <;> rfl), by first | exact Kd.R_nil _ _ _ _ _ | exact Kd.N_nil _ _ _ _ _ | exact Kd.V_nil _ _ _ _ _ | exact Kd.Q_nil _ _ _ _ _ | exact Kd.S_nil _ _ _ _ _, by repeat (first | (with_reducible first | exact HB.out | apply below_alloc | apply pw_below_drewN | apply below_drew1) | exact HB.out)⟩

end Go.Proofs.Ythlbjdiicmojfaa.P

/-! Part Eqs6. -/
namespace Go.Proofs.Ythlbjdiicmojfaa.P
open Go.RowKit Go.Proofs.YthlbjdiicmojfaaW.PrintWords Go.Proofs.YthlbjdiicmojfaaW.PrintLast Go.Proofs.YthlbjdiicmojfaaW.PrintMore
set_option linter.unusedVariables false

/-! ### Parts put right -/
/-- The part at place a put on the curve of the others. -/
def putR (l : List S43) (n a : Nat) : List S43 := l.set a ⟨(l.getD a z43).f0, atI (interp (pts ((l.eraseIdx a).take n))) (l.getD a z43).f0⟩
def repairR (l : List S43) (n : Int) : List S43 × Bool × Int :=
  if (wrongR l n).2.2 = 0 then (if (wrongR l n).2.1 = true then (putR l n.toNat (wrongR l n).1.toNat, true, 0) else if lies l n.toNat = true then (l, true, 0) else ([], false, 0)) else ([], false, (wrongR l n).2.2)
theorem wrongR_zero {l : List S43} {n : Int} (h : (wrongR l n).2.2 = 0) : neededR l n = 0 ∧ n + 2 ≤ (l.length : Int) := by
  unfold wrongR at h
  by_cases hn : neededR l n = 0
  · rw [if_pos hn] at h
    by_cases hs : (l.length : Int) < n + 2
    · rw [if_pos hs] at h; cases h
    · exact ⟨hn, by omega⟩
  · rw [if_neg hn] at h; exact absurd h hn
theorem more_wrong (l : List S43) (n : Int) : moreR l n = (wrongR l n).2.2 := by
  unfold moreR wrongR
  by_cases hn : neededR l n = 0
  · rw [if_pos hn, if_pos hn]
    split
    · rfl
    · split <;> rfl
  · rw [if_neg hn, if_neg hn]
theorem erase_length (l : List S43) (a : Nat) (ha : a < l.length) : (l.eraseIdx a).length = l.length - 1 := by
  rw [List.length_eraseIdx, if_pos ha]
theorem rRepair_eq (l : List S43) (n : Int) (hll : l.length ≤ 1000) (k : Nat) (hk : 8000 ≤ k) : verditerref08_Repair.f k l n = some (repairR l n) := by
  rw [verditerref08_Repair.f, rWrong_eq l n k hk, Option.bind_some]
  unfold repairR
  by_cases he : (wrongR l n).2.2 = 0
  · obtain ⟨hn, hlen⟩ := wrongR_zero he
    obtain ⟨hv, h1, h6⟩ := neededR_ok hn
    have hl12 := (valid_iff.1 hv).1
    rw [if_pos he, if_pos he, Option.bind_some, if_pos (by simp; omega), Option.bind_some, List.nil_append]
    by_cases hi : (wrongR l n).2.1 = true
    · obtain ⟨_, _, _, a, ha, _, hw, _⟩ := wrongR_true hi
      have hel := erase_length l a ha
      have hvt := valid_sub (valid_erase hv a) (List.take_sublist n.toNat (l.eraseIdx a))
      rw [if_pos hi, if_pos hi, hw]
      simp only
      rw [rwo_eq l a ha (by omega), Option.bind_some, if_pos (by omega), if_pos (by omega), through_eq _ (by rw [List.length_take]; omega) (good_pts hvt) k (by omega), Option.bind_some, if_pos (by omega), if_pos (by omega), rdT_get l a ha,
        rat_eq _ _ (interp_nums _) (valid_num hv (List.getElem_mem ha)).1 (by rw [interp_len, pts_length, List.length_take]; omega) k (by rw [interp_len, pts_length, List.length_take]; omega), Option.bind_some, if_pos (by omega), Int.toNat_natCast]
      unfold putR
      rw [getD_get l z43 ha]
    · rw [if_neg hi, if_neg hi, rlie_eq l n hv h1 h6 k (by omega), Option.bind_some]
      split <;> rfl
  · rw [if_neg he, if_neg he]
theorem wrongR_lies {l : List S43} {n : Int} (hn : neededR l n = 0) (hlen : n + 2 ≤ (l.length : Int)) (h : lies l n.toNat = true) : wrongR l n = (0, false, 0) := by
  unfold wrongR
  rw [if_pos hn, if_neg (by omega), if_pos h]
theorem wrongR_not {l : List S43} {n : Int} (hn : neededR l n = 0) (hlen : n + 2 ≤ (l.length : Int)) (h : ¬ lies l n.toNat = true) : wrongR l n = ((candR (cands l n.toNat l.length)).1, (candR (cands l n.toNat l.length)).2, 0) := by
  unfold wrongR
  rw [if_pos hn, if_neg (by omega), if_neg h]
theorem sRepair_eq (l : List S43) (n : Int) (k : Nat) (hk : 100 ≤ k) : secret_Repair.f k l n = some (repairR l n) := by
  rw [secret_Repair.f, more_eq, more_wrong, Option.bind_some]
  unfold repairR
  by_cases he : (wrongR l n).2.2 = 0
  · obtain ⟨hn, hlen⟩ := wrongR_zero he
    obtain ⟨hv, h1, h6⟩ := neededR_ok hn
    have hl12 := (valid_iff.1 hv).1
    rw [if_pos he, if_pos he, api_Part_93.f, if_pos hl12, Option.bind_some, secret_lieOn.f, if_pos ⟨hv, h1, h6⟩, Option.bind_some]
    by_cases hl : lies l n.toNat = true
    · have hw := wrongR_lies hn hlen hl
      rw [if_pos hl, hw, if_neg (by simp), if_pos hl]
    · rw [if_neg hl, swrong_eq l n hv h1 h6 k hk, Option.bind_some, if_neg hl, wrongR_not hn hlen hl]
      simp only
      by_cases hi : (candR (cands l n.toNat l.length)).2 = true
      · obtain ⟨a, hF, hc1⟩ := candR_one hi
        have hm : a ∈ cands l n.toNat l.length := by rw [hF]; simp
        unfold cands at hm
        rw [List.mem_filter, List.mem_range] at hm
        have ha := hm.1
        have hel := erase_length l a ha
        have hvt := valid_sub (valid_erase hv a) (List.take_sublist n.toNat (l.eraseIdx a))
        rw [if_pos hi, if_pos hi, hc1, secret_without.f, if_pos ⟨hl12, by omega, by omega⟩, Option.bind_some, Int.toNat_natCast, if_pos (by omega), if_pos (by omega), secret_of.f, if_pos hvt, Option.bind_some, if_pos (by omega), if_pos (by omega), rdT_get l a ha, secret_curve_at.f,
          if_pos (by rw [(valid_num hv (List.getElem_mem ha)).1, List.all_eq_true.2 (interp_nums _), decide_eq_true (show (interp (pts ((l.eraseIdx a).take n.toNat))).length ≤ 12 by rw [interp_len, pts_length, List.length_take]; omega)]; rfl), Option.bind_some, if_pos (by omega)]
        unfold putR
        rw [getD_get l z43 ha]
      · rw [if_neg hi, if_neg hi, if_neg hl]
  · rw [if_neg he, if_neg he]
/-- Put right: all parts lie on the curve of the others. -/
theorem put_on {l : List S43} {n a : Nat} (hv : valid l = 0) (ha : a < l.length) (h2 : n + 2 ≤ l.length) (hlie : lies (l.eraseIdx a) n = true) : ∀ p ∈ putR l n a, p.f1 = atI (interp (pts ((l.eraseIdx a).take n))) p.f0 := by
  have hel := erase_length l a ha
  unfold lies at hlie
  rw [decide_eq_false (show ¬ (l.eraseIdx a).length ≤ n by omega), Bool.false_or, List.all_eq_true] at hlie
  intro p hp
  unfold putR at hp
  obtain ⟨j, hj, rfl⟩ := List.mem_iff_getElem.1 hp
  rw [List.length_set] at hj
  rw [List.getElem_set]
  by_cases e : a = j
  · rw [if_pos e]
  · rw [if_neg e]
    have hm : l[j] ∈ l.eraseIdx a := List.mem_eraseIdx_iff_getElem.2 ⟨j, hj, fun h => e h.symm, rfl⟩
    exact (beq_iff_eq.1 (hlie _ hm)).symm
theorem valid_put {l : List S43} (hv : valid l = 0) (n a : Nat) (ha : a < l.length) : valid (putR l n a) = 0 := by
  refine valid_same hv ?_ fun p hp => ?_
  · unfold putR
    rw [List.map_set]
    refine List.ext_getElem (by simp) fun j h1 h2 => ?_
    rw [List.getElem_set]
    by_cases e : a = j
    · subst e; rw [if_pos rfl, List.getElem_map, getD_get l z43 ha]
    · rw [if_neg e]
  · unfold putR at hp
    rcases List.mem_or_eq_of_mem_set hp with h | rfl
    · exact (valid_num hv h).2
    · exact num_atI _ _
theorem lies_put {l : List S43} {n a : Nat} (hv : valid l = 0) (ha : a < l.length) (h2 : n + 2 ≤ l.length) (hlie : lies (l.eraseIdx a) n = true) : lies (putR l n a) n = true := by
  have hel := erase_length l a ha
  refine lies_of_curve (valid_put hv n a ha) (interp_nums _) ?_ (put_on hv ha h2 hlie)
  rw [interp_len, pts_length, List.length_take]; omega
end Go.Proofs.Ythlbjdiicmojfaa.P
