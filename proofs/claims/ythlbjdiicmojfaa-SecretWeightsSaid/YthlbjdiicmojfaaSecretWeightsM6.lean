/- Parts of the proof of the law SecretWeights: walks of functions that it reaches, and plain facts about numbers, lists and curves; without a condition. -/
import Derived.Test.YthlbjdiicmojfaaSecretWeightsM1
import Derived.Test.YthlbjdiicmojfaaSecretWeightsM4
import Derived.Test.YthlbjdiicmojfaaSecretWeightsM5
/-! Part PF60. -/
-- Written for this claim by wip/print_more.py (a session's program that runs the kit's printer with hand-proved functions beside). Lean checks it.
namespace Go.Proofs.Ythlbjdiicmojfaa.P
open Go.RowKit Go.Proofs.YthlbjdiicmojfaaW.PrintWords Go.Proofs.YthlbjdiicmojfaaW.PrintLast Go.Proofs.YthlbjdiicmojfaaW.PrintMore
attribute [local go_sem] max2_int min2_int max_two min_two max_three min_three max_four min_four   -- for this text's walks alone
set_option linter.unusedVariables false
set_option linter.unusedSimpArgs false

/-! ### verditerref08_Weights: function 60 -/
mutual
def verditerref08_Weights.l0 : Nat → List Int → Int → Option (List Int × Int)
  | 0, _, _ => none
  | k + 1, x0, x5 => if x5 < (x0.length : Int) then (if 0 ≤ x5 then ((verditerref08_within.f (rd x0 x5) 1 250).bind fun t393 => (if t393 = true then (verditerref08_Weights.l0 k x0 (wrap64 (x5 + 1))) else (some (([] : List Int), 1)))) else (none)) else (verditerref08_Weights.l1 k x0 ([] : List Int) 0)
def verditerref08_Weights.l1 : Nat → List Int → List Int → Int → Option (List Int × Int)
  | 0, _, _, _ => none
  | k + 1, x0, x4, x6 => if x6 < (x0.length : Int) then (verditerref08_Weights.l2 k x0 x4 x6 ([] : List (S43)) 0) else (some (x4, 0))
def verditerref08_Weights.l2 : Nat → List Int → List Int → Int → List (S43) → Int → Option (List Int × Int)
  | 0, _, _, _, _, _ => none
  | k + 1, x0, x4, x6, x7, x8 => if x8 < (x0.length : Int) then (if x8 < x6 then (if 0 ≤ x8 then (if 0 ≤ x6 then (if x6 < (x0.length : Int) then (if (rd x0 x8) = (rd x0 x6) then (some (([] : List Int), 6)) else (if x7.length < 8796093022208 then (verditerref08_Weights.l2 k x0 x4 x6 (x7 ++ [(⟨rd x0 x8, 0⟩ : S43)]) (wrap64 (x8 + 1))) else (none))) else (none)) else (none)) else (none)) else (if 0 ≤ x8 then (if x7.length < 8796093022208 then (verditerref08_Weights.l2 k x0 x4 x6 (x7 ++ [(⟨rd x0 x8, 0⟩ : S43)]) (wrap64 (x8 + 1))) else (none)) else (none))) else (if 0 ≤ x6 then (if x6 < (x7.length : Int) then ((some (x7.set (x6 : Int).toNat (⟨(rd_T43 x7 x6).f0, 1⟩ : S43) : List (S43))).bind fun y404 => ((verditerref08_Validate.f k y404).bind fun t405 => (if t405 = 0 then ((verditerref08_through.f k y404).bind fun t406 => (if 0 < (t406.length : Int) then (if x4.length < 17592186044416 then (verditerref08_Weights.l1 k x0 (x4 ++ [rd t406 0]) (wrap64 (x6 + 1))) else (none)) else (none))) else (some (([] : List Int), 6))))) else (none)) else (none))
end
def verditerref08_Weights.f (k : Nat) (l0 : List Int) : Option (List Int × Int) := (verditerref08_within.f (l0.length : Int) 1 6).bind fun t391 => (if t391 = true then (verditerref08_Weights.l0 k l0 0) else (some (([] : List Int), 3)))
theorem verditerref08_Weights.mono_l : ∀ k, (∀ y0 y1, LeO (verditerref08_Weights.l0 k y0 y1) (verditerref08_Weights.l0 (k + 1) y0 y1)) ∧ (∀ y0 y1 y2, LeO (verditerref08_Weights.l1 k y0 y1 y2) (verditerref08_Weights.l1 (k + 1) y0 y1 y2)) ∧ (∀ y0 y1 y2 y3 y4, LeO (verditerref08_Weights.l2 k y0 y1 y2 y3 y4) (verditerref08_Weights.l2 (k + 1) y0 y1 y2 y3 y4))
  | 0 => ⟨fun _ _ r h => by simp [verditerref08_Weights.l0] at h, fun _ _ _ r h => by simp [verditerref08_Weights.l1] at h, fun _ _ _ _ _ r h => by simp [verditerref08_Weights.l2] at h⟩
  | k + 1 => by
    obtain ⟨ih0, ih1, ih2⟩ := verditerref08_Weights.mono_l k
    refine ⟨?_, ?_, ?_⟩
    · intro y0 y1
      unfold verditerref08_Weights.l0
      repeat' first
      | (with_reducible exact ih0 _ _)
      | (with_reducible exact ih1 _ _ _)
      | (with_reducible exact ih2 _ _ _ _ _)
      | (with_reducible exact verditerref08_Validate.mono _ _)
      | (with_reducible exact verditerref08_through.mono _ _)
      | (with_reducible exact LeO.refl _)
      | (with_reducible exact LeO.none _)
      | (with_reducible refine LeO.ite ?_ ?_)
      | (with_reducible refine LeO.bind ?_ (fun _ => ?_))
      | exact ih0 _ _
      | exact ih1 _ _ _
      | exact ih2 _ _ _ _ _
      | exact verditerref08_Validate.mono _ _
      | exact verditerref08_through.mono _ _
      | exact LeO.none _
      | refine LeO.ite ?_ ?_
      | refine LeO.bind ?_ (fun _ => ?_)
    · intro y0 y1 y2
      unfold verditerref08_Weights.l1
      repeat' first
      | (with_reducible exact ih0 _ _)
      | (with_reducible exact ih1 _ _ _)
      | (with_reducible exact ih2 _ _ _ _ _)
      | (with_reducible exact verditerref08_Validate.mono _ _)
      | (with_reducible exact verditerref08_through.mono _ _)
      | (with_reducible exact LeO.refl _)
      | (with_reducible exact LeO.none _)
      | (with_reducible refine LeO.ite ?_ ?_)
      | (with_reducible refine LeO.bind ?_ (fun _ => ?_))
      | exact ih0 _ _
      | exact ih1 _ _ _
      | exact ih2 _ _ _ _ _
      | exact verditerref08_Validate.mono _ _
      | exact verditerref08_through.mono _ _
      | exact LeO.none _
      | refine LeO.ite ?_ ?_
      | refine LeO.bind ?_ (fun _ => ?_)
    · intro y0 y1 y2 y3 y4
      unfold verditerref08_Weights.l2
      repeat' first
      | (with_reducible exact ih0 _ _)
      | (with_reducible exact ih1 _ _ _)
      | (with_reducible exact ih2 _ _ _ _ _)
      | (with_reducible exact verditerref08_Validate.mono _ _)
      | (with_reducible exact verditerref08_through.mono _ _)
      | (with_reducible exact LeO.refl _)
      | (with_reducible exact LeO.none _)
      | (with_reducible refine LeO.ite ?_ ?_)
      | (with_reducible refine LeO.bind ?_ (fun _ => ?_))
      | exact ih0 _ _
      | exact ih1 _ _ _
      | exact ih2 _ _ _ _ _
      | exact verditerref08_Validate.mono _ _
      | exact verditerref08_through.mono _ _
      | exact LeO.none _
      | refine LeO.ite ?_ ?_
      | refine LeO.bind ?_ (fun _ => ?_)
theorem verditerref08_Weights.mono : ∀ a0 k, LeO (verditerref08_Weights.f k a0) (verditerref08_Weights.f (k + 1) a0) := by
  intro a0 k
  obtain ⟨ih0, ih1, ih2⟩ := verditerref08_Weights.mono_l k
  unfold verditerref08_Weights.f
  repeat' first
      | (with_reducible exact ih0 _ _)
      | (with_reducible exact ih1 _ _ _)
      | (with_reducible exact ih2 _ _ _ _ _)
      | (with_reducible exact verditerref08_Validate.mono _ _)
      | (with_reducible exact verditerref08_through.mono _ _)
      | (with_reducible exact LeO.refl _)
      | (with_reducible exact LeO.none _)
      | (with_reducible refine LeO.ite ?_ ?_)
      | (with_reducible refine LeO.bind ?_ (fun _ => ?_))
      | exact ih0 _ _
      | exact ih1 _ _ _
      | exact ih2 _ _ _ _ _
      | exact verditerref08_Validate.mono _ _
      | exact verditerref08_through.mono _ _
      | exact LeO.none _
      | refine LeO.ite ?_ ?_
      | refine LeO.bind ?_ (fun _ => ?_)
set_option maxHeartbeats 8000000 in
set_option maxRecDepth 100000 in
theorem verditerref08_Weights.calls (k : Nat) (A0 : Option Addr) (c0 : Nat) (l0 : List Int) (r1 : List Int) (r2 : Int) (w : World) (hr0 : Kd.C (Kd.int .i64) w A0 l0.length l0) (hc0 : l0.length ≤ c0) (h : verditerref08_Weights.f k l0 = some (r1, r2)) :
    Calls Try.prog 60 #[.slice A0 l0.length c0] w fun e w' => ∃ v0_ : Value, e = .returned (.tuple #[v0_, .int .i64 r2]) ∧ Kd.R (Kd.int .i64) 3 w' w.heap.size (fun _ => True) v0_ r1 ∧ Below w.heap.size w w' := by
  have hu43 := Try.underlying43
  have HR0 := Aside0.mk hr0
  have HC0 := Aside0.mk hc0
  clear hr0 hc0
  have HB := Aside0.mk (Below.refl w.heap.size w)
  have H : ((verditerref08_within.f (l0.length : Int) 1 6).bind fun t391 => (if t391 = true then (verditerref08_Weights.l0 k l0 0) else (some (([] : List Int), 3)))) = some (r1, r2) := h
  clear h
  replace H := Option.bind_eq_some_iff.mp H
  obtain ⟨t391, A20, H⟩ := H
  replace H : (if t391 = true then (verditerref08_Weights.l0 k l0 0) else (some (([] : List Int), 3))) = some (r1, r2) := H
  have A2 := Aside0.mk A20
  clear A20
  by_cases c3 : t391 = true
  · subst c3
    have H1 : (verditerref08_Weights.l0 k l0 0) = some (r1, r2) := by rw [if_pos rfl] at H; exact H
    clear H
    have H := H1
    clear H1
    have H' := Aside0.mk H
    clear H
    go_enter Try.func60, Try.ntmps60
    go_wp2_with (first | (go_at_call 83; (with_reducible refine (verditerref08_within.calls (l0.length : Int) 1 6 true _ A2.out).mono ?_); rintro e w' ⟨rfl, ⟨nd, rfl⟩⟩; (try first | exact ⟨rfl, _, World.drewN_drewN _ _ _⟩ | exact ⟨rfl, _, Eq.trans (World.drewN_drewN _ _ _) (congrArg (World.drewN _) (Nat.add_assoc _ _ _))⟩)))
    repeat (go_quiet (first | (go_at_call 83; (with_reducible refine (verditerref08_within.calls (l0.length : Int) 1 6 true _ A2.out).mono ?_); rintro e w' ⟨rfl, ⟨nd, rfl⟩⟩; (try first | exact ⟨rfl, _, World.drewN_drewN _ _ _⟩ | exact ⟨rfl, _, Eq.trans (World.drewN_drewN _ _ _) (congrArg (World.drewN _) (Nat.add_assoc _ _ _))⟩))); try go_wp2_with (first | (go_at_call 83; (with_reducible refine (verditerref08_within.calls (l0.length : Int) 1 6 true _ A2.out).mono ?_); rintro e w' ⟨rfl, ⟨nd, rfl⟩⟩; (try first | exact ⟨rfl, _, World.drewN_drewN _ _ _⟩ | exact ⟨rfl, _, Eq.trans (World.drewN_drewN _ _ _) (congrArg (World.drewN _) (Nat.add_assoc _ _ _))⟩))))
    go_loopg [5] k (fun kq v5 w' => ∃ (x5_1 : Int), v5 = .int .i64 x5_1 ∧ Aside0 (verditerref08_Weights.l0 kq l0 x5_1 = some (r1, r2)) ∧ Aside0 (kq ≤ k) ∧ Aside0 (Below w.heap.size w w'))
    case atStart => exact ⟨(0), (by first | rfl | (simp; done) | (simp [*]; done)), H', ⟨Nat.le_refl _⟩, ⟨by repeat (first | (with_reducible first | exact HB.out | apply below_alloc | apply pw_below_drewN | apply below_drew1) | exact HB.out)⟩⟩
    case round =>
      clear H'
      try clear p2
      try clear c3
      obtain ⟨x5_1, rfl, HA, HK1, HB⟩ := hrel
      cases gk with
      | zero => exact absurd HA.out (by simp [verditerref08_Weights.l0])
      | succ k1 =>
        have H := HA.out
        clear HA
        simp only [verditerref08_Weights.l0] at H
        by_cases c4 : x5_1 < (l0.length : Int)
        · rw [if_pos c4] at H
          have c4b0 : decide (x5_1 < (l0.length : Int)) = true := decide_eq_true c4
          clear c4
          by_cases c5 : 0 ≤ x5_1
          · rw [if_pos c5] at H
            have c5b0 : decide (0 ≤ x5_1) = true := decide_eq_true c5
            clear c5
            replace H := Option.bind_eq_some_iff.mp H
            obtain ⟨t393, A60, H⟩ := H
            replace H : (if t393 = true then (verditerref08_Weights.l0 k1 l0 (wrap64 (x5_1 + 1))) else (some (([] : List Int), 1))) = some (r1, r2) := H
            have A6 := Aside0.mk A60
            clear A60
            by_cases c7 : t393 = true
            · subst c7
              have H1 : (verditerref08_Weights.l0 k1 l0 (wrap64 (x5_1 + 1))) = some (r1, r2) := by rw [if_pos rfl] at H; exact H
              clear H
              have H := H1
              clear H1
              have H' := Aside0.mk H
              clear H
              have p392 : 0 ≤ (x5_1 : Int) := of_decide_eq_true (by first | (with_reducible assumption) | assumption)
              have q392 : x5_1 < (l0.length : Int) := of_decide_eq_true (by first | (with_reducible assumption) | assumption)
              obtain ⟨ad392, e392, hx392_0⟩ := Kd.at_int HR0.out x5_1 p392 q392
              cases e392
              replace hx392_0 := (HB.out.cell (World.block_lt_of_cell? w _ hx392_0)).trans hx392_0
              replace p392 := eq_true p392
              replace q392 := eq_true q392
              go_wp2_with (first | (go_at_call 83; (with_reducible refine (verditerref08_within.calls (rd l0 x5_1) 1 250 true _ A6.out).mono ?_); rintro e w' ⟨rfl, ⟨nd, rfl⟩⟩; (try first | exact ⟨rfl, _, World.drewN_drewN _ _ _⟩ | exact ⟨rfl, _, Eq.trans (World.drewN_drewN _ _ _) (congrArg (World.drewN _) (Nat.add_assoc _ _ _))⟩)))
              repeat (go_quiet (first | (go_at_call 83; (with_reducible refine (verditerref08_within.calls (rd l0 x5_1) 1 250 true _ A6.out).mono ?_); rintro e w' ⟨rfl, ⟨nd, rfl⟩⟩; (try first | exact ⟨rfl, _, World.drewN_drewN _ _ _⟩ | exact ⟨rfl, _, Eq.trans (World.drewN_drewN _ _ _) (congrArg (World.drewN _) (Nat.add_assoc _ _ _))⟩))); try go_wp2_with (first | (go_at_call 83; (with_reducible refine (verditerref08_within.calls (rd l0 x5_1) 1 250 true _ A6.out).mono ?_); rintro e w' ⟨rfl, ⟨nd, rfl⟩⟩; (try first | exact ⟨rfl, _, World.drewN_drewN _ _ _⟩ | exact ⟨rfl, _, Eq.trans (World.drewN_drewN _ _ _) (congrArg (World.drewN _) (Nat.add_assoc _ _ _))⟩))))
              go_roundg k1
              case measure => have := HK1.out; omega
              case rel => exact ⟨(wrap64 (x5_1 + 1)), (by first | rfl | (simp; done) | (simp [*]; done)), H', ⟨by have := HK1.out; omega⟩, ⟨by repeat (first | (with_reducible first | exact HB.out | apply below_alloc | apply pw_below_drewN | apply below_drew1) | exact HB.out)⟩⟩
            · replace c7 := Bool.eq_false_iff.mpr c7
              subst c7
              have H1 : (some (([] : List Int), 1)) = some (r1, r2) := by rw [if_neg (show ¬ (false = true) by decide)] at H; exact H
              clear H
              have H := H1
              clear H1
              simp only [Option.some.injEq, Prod.mk.injEq] at H
              obtain ⟨rfl, rfl⟩ := H
              have p392 : 0 ≤ (x5_1 : Int) := of_decide_eq_true (by first | (with_reducible assumption) | assumption)
              have q392 : x5_1 < (l0.length : Int) := of_decide_eq_true (by first | (with_reducible assumption) | assumption)
              obtain ⟨ad392, e392, hx392_0⟩ := Kd.at_int HR0.out x5_1 p392 q392
              cases e392
              replace hx392_0 := (HB.out.cell (World.block_lt_of_cell? w _ hx392_0)).trans hx392_0
              replace p392 := eq_true p392
              replace q392 := eq_true q392
              go_wp2_with (first | (go_at_call 83; (with_reducible refine (verditerref08_within.calls (rd l0 x5_1) 1 250 false _ A6.out).mono ?_); rintro e w' ⟨rfl, ⟨nd, rfl⟩⟩; (try first | exact ⟨rfl, _, World.drewN_drewN _ _ _⟩ | exact ⟨rfl, _, Eq.trans (World.drewN_drewN _ _ _) (congrArg (World.drewN _) (Nat.add_assoc _ _ _))⟩)))
              repeat (go_quiet (first | (go_at_call 83; (with_reducible refine (verditerref08_within.calls (rd l0 x5_1) 1 250 false _ A6.out).mono ?_); rintro e w' ⟨rfl, ⟨nd, rfl⟩⟩; (try first | exact ⟨rfl, _, World.drewN_drewN _ _ _⟩ | exact ⟨rfl, _, Eq.trans (World.drewN_drewN _ _ _) (congrArg (World.drewN _) (Nat.add_assoc _ _ _))⟩))); try go_wp2_with (first | (go_at_call 83; (with_reducible refine (verditerref08_within.calls (rd l0 x5_1) 1 250 false _ A6.out).mono ?_); rintro e w' ⟨rfl, ⟨nd, rfl⟩⟩; (try first | exact ⟨rfl, _, World.drewN_drewN _ _ _⟩ | exact ⟨rfl, _, Eq.trans (World.drewN_drewN _ _ _) (congrArg (World.drewN _) (Nat.add_assoc _ _ _))⟩))))
              go_ret2
              exact ⟨_, by first | rfl | (simp [errW_none, errW_some] <;> rfl) | (simp [*, errW_none, errW_some] <;> rfl), by first | exact Kd.R_nil _ _ _ _ _ | exact Kd.N_nil _ _ _ _ _ | exact Kd.V_nil _ _ _ _ _ | exact Kd.Q_nil _ _ _ _ _ | exact Kd.S_nil _ _ _ _ _, by repeat (first | (with_reducible first | exact HB.out | apply below_alloc | apply pw_below_drewN | apply below_drew1) | exact HB.out)⟩
          · rw [if_neg c5] at H
            exact absurd H (by simp)
        · rw [if_neg c4] at H
          have c4b0 : decide (x5_1 < (l0.length : Int)) = false := decide_eq_false c4
          clear c4
          have H' := Aside0.mk H
          clear H
          go_wp2
          repeat (go_quiet (fail); try go_wp2)
          go_loopg [4, 6] k1 (fun kq v4 v6 w' => ∃ (x4_2 : List Int) (x6_2 : Int), v6 = .int .i64 x6_2 ∧ Aside0 (verditerref08_Weights.l1 kq l0 x4_2 x6_2 = some (r1, r2)) ∧ Aside0 (kq ≤ k1) ∧ Aside0 (Kd.R (Kd.int .i64) 3 w' w.heap.size (fun _ => True) v4 x4_2) ∧ Aside0 (Below w.heap.size w w'))
          case atStart => exact ⟨(([] : List Int)), (0), (by first | rfl | (simp; done) | (simp [*]; done)), H', ⟨Nat.le_refl _⟩, ⟨by first | exact Kd.R_nil _ _ _ _ _ | exact Kd.N_nil _ _ _ _ _ | exact Kd.V_nil _ _ _ _ _ | exact Kd.Q_nil _ _ _ _ _ | exact Kd.S_nil _ _ _ _ _⟩, ⟨by repeat (first | (with_reducible first | exact HB.out | apply below_alloc | apply pw_below_drewN | apply below_drew1) | exact HB.out)⟩⟩
          case round =>
            clear H'
            try clear p2
            try clear c3
            try clear p3
            try clear q3
            try clear hx3
            try clear c4
            try clear c4b0
            try clear c5
            try clear c5b0
            try clear c6
            try clear p6
            try clear c7
            try clear hx392_0
            try clear p2
            try clear p392
            try clear q392
            obtain ⟨x4_2, x6_2, rfl, HA, HK2, HO_4, HB⟩ := hrel
            cases gk with
            | zero => exact absurd HA.out (by simp [verditerref08_Weights.l1])
            | succ k2 =>
              have H := HA.out
              clear HA
              simp only [verditerref08_Weights.l1] at H
              by_cases c8 : x6_2 < (l0.length : Int)
              · rw [if_pos c8] at H
                have c8b0 : decide (x6_2 < (l0.length : Int)) = true := decide_eq_true c8
                clear c8
                have H' := Aside0.mk H
                clear H
                go_wp2
                repeat (go_quiet (fail); try go_wp2)
                go_loopg [7, 8] k2 (fun kq v7 v8 w' => ∃ (x7_3 : List (S43)) (x8_3 : Int), v8 = .int .i64 x8_3 ∧ Aside0 (verditerref08_Weights.l2 kq l0 x4_2 x6_2 x7_3 x8_3 = some (r1, r2)) ∧ Aside0 (kq ≤ k2) ∧ Aside0 (Kd.R (Kd.int .i64) 3 w' w.heap.size (fun _ => True) u4 x4_2) ∧ Aside0 (Kd.R k43 43 w' w.heap.size (fun _ => True) v7 x7_3) ∧ Aside0 (Below w.heap.size w w'))
                case atStart => exact ⟨(([] : List (S43))), (0), (by first | rfl | (simp; done) | (simp [*]; done)), H', ⟨Nat.le_refl _⟩, ⟨by (with_reducible repeat (first | apply Kd.R_alloc | apply Kd.R_drewN | apply Kd.R_drew)); exact HO_4.out⟩, ⟨by first | exact Kd.R_nil _ _ _ _ _ | exact Kd.N_nil _ _ _ _ _ | exact Kd.V_nil _ _ _ _ _ | exact Kd.Q_nil _ _ _ _ _ | exact Kd.S_nil _ _ _ _ _⟩, ⟨by repeat (first | (with_reducible first | exact HB.out | apply below_alloc | apply pw_below_drewN | apply below_drew1) | exact HB.out)⟩⟩
                case round =>
                  clear H'
                  try clear p2
                  try clear c3
                  try clear p3
                  try clear q3
                  try clear hx3
                  try clear c4
                  try clear c4b0
                  try clear c5
                  try clear c5b0
                  try clear c6
                  try clear p6
                  try clear c7
                  try clear c8
                  try clear c8b0
                  try clear hx392_0
                  try clear p2
                  try clear p3
                  try clear p392
                  try clear p6
                  try clear q3
                  try clear q392
                  obtain ⟨x7_3, x8_3, rfl, HA, HK3, HO_4, HO_7, HB⟩ := hrel
                  cases gk with
                  | zero => exact absurd HA.out (by simp [verditerref08_Weights.l2])
                  | succ k3 =>
                    have H := HA.out
                    clear HA
                    simp only [verditerref08_Weights.l2] at H
                    by_cases c9 : x8_3 < (l0.length : Int)
                    · rw [if_pos c9] at H
                      have c9b0 : decide (x8_3 < (l0.length : Int)) = true := decide_eq_true c9
                      clear c9
                      by_cases c10 : x8_3 < x6_2
                      · rw [if_pos c10] at H
                        have c10b0 : decide (x8_3 < x6_2) = true := decide_eq_true c10
                        clear c10
                        by_cases c11 : 0 ≤ x8_3
                        · rw [if_pos c11] at H
                          have c11b0 : decide (0 ≤ x8_3) = true := decide_eq_true c11
                          clear c11
                          by_cases c12 : 0 ≤ x6_2
                          · rw [if_pos c12] at H
                            have c12b0 : decide (0 ≤ x6_2) = true := decide_eq_true c12
                            clear c12
                            by_cases c13 : x6_2 < (l0.length : Int)
                            · rw [if_pos c13] at H
                              have c13b0 : decide (x6_2 < (l0.length : Int)) = true := decide_eq_true c13
                              clear c13
                              by_cases c14 : (rd l0 x8_3) = (rd l0 x6_2)
                              · rw [if_pos c14] at H
                                have c14b0 : ((rd l0 x8_3) == (rd l0 x6_2)) = true := beq_iff_eq.mpr c14
                                have c14b1 : ((rd l0 x8_3) != (rd l0 x6_2)) = false := bne_eq_false_iff_eq.mpr c14
                                clear c14
                                simp only [Option.some.injEq, Prod.mk.injEq] at H
                                obtain ⟨rfl, rfl⟩ := H
                                have p394 : 0 ≤ (x8_3 : Int) := of_decide_eq_true (by first | (with_reducible assumption) | assumption)
                                have q394 : x8_3 < (l0.length : Int) := of_decide_eq_true (by first | (with_reducible assumption) | assumption)
                                obtain ⟨ad394, e394, hx394_0⟩ := Kd.at_int HR0.out x8_3 p394 q394
                                cases e394
                                replace hx394_0 := (HB.out.cell (World.block_lt_of_cell? w _ hx394_0)).trans hx394_0
                                replace p394 := eq_true p394
                                replace q394 := eq_true q394
                                have p395 : 0 ≤ (x6_2 : Int) := of_decide_eq_true (by first | (with_reducible assumption) | assumption)
                                have q395 : x6_2 < (l0.length : Int) := of_decide_eq_true (by first | (with_reducible assumption) | assumption)
                                obtain ⟨ad395, e395, hx395_0⟩ := Kd.at_int HR0.out x6_2 p395 q395
                                obtain rfl : ad394 = ad395 := (by injection e395)
                                replace hx395_0 := (HB.out.cell (World.block_lt_of_cell? w _ hx395_0)).trans hx395_0
                                replace p395 := eq_true p395
                                replace q395 := eq_true q395
                                go_wp2
                                repeat (go_quiet (fail); try go_wp2)
                                go_ret2
                                exact ⟨_, by first | rfl | (simp [errW_none, errW_some] <;> rfl) | (simp [*, errW_none, errW_some] <;> rfl), by first | exact Kd.R_nil _ _ _ _ _ | exact Kd.N_nil _ _ _ _ _ | exact Kd.V_nil _ _ _ _ _ | exact Kd.Q_nil _ _ _ _ _ | exact Kd.S_nil _ _ _ _ _, by repeat (first | (with_reducible first | exact HB.out | apply below_alloc | apply pw_below_drewN | apply below_drew1) | exact HB.out)⟩
                              · rw [if_neg c14] at H
                                have c14b0 : ((rd l0 x8_3) == (rd l0 x6_2)) = false := beq_eq_false_iff_ne.mpr c14
                                have c14b1 : ((rd l0 x8_3) != (rd l0 x6_2)) = true := bne_iff_ne.mpr c14
                                by_cases c15 : x7_3.length < 8796093022208
                                · rw [if_pos c15] at H
                                  have LMc15 := Aside0.mk c15
                                  clear c15
                                  obtain ⟨y397, hy397⟩ : ∃ y_ : List (S43), y_ = (x7_3 ++ [(⟨rd l0 x8_3, 0⟩ : S43)]) := ⟨_, rfl⟩
                                  replace H : (verditerref08_Weights.l2 k3 l0 x4_2 x6_2 y397 (wrap64 (x8_3 + 1))) = some (r1, r2) := by first | (rw [hy397]; with_reducible exact H) | (have H2_ := (Option.bind_some _ _).symm.trans H; rw [hy397]; with_reducible exact H2_) | (have H2_ := (Option.bind_some _ _).symm.trans H; with_reducible exact H2_) | with_reducible exact H | (rw [hy397]; exact H) | exact H
                                  have Ny397 := Aside0.mk hy397
                                  clear hy397
                                  have H' := Aside0.mk H
                                  clear H
                                  have p394 : 0 ≤ (x8_3 : Int) := of_decide_eq_true (by first | (with_reducible assumption) | assumption)
                                  have q394 : x8_3 < (l0.length : Int) := of_decide_eq_true (by first | (with_reducible assumption) | assumption)
                                  obtain ⟨ad394, e394, hx394_0⟩ := Kd.at_int HR0.out x8_3 p394 q394
                                  cases e394
                                  replace hx394_0 := (HB.out.cell (World.block_lt_of_cell? w _ hx394_0)).trans hx394_0
                                  replace p394 := eq_true p394
                                  replace q394 := eq_true q394
                                  have p395 : 0 ≤ (x6_2 : Int) := of_decide_eq_true (by first | (with_reducible assumption) | assumption)
                                  have q395 : x6_2 < (l0.length : Int) := of_decide_eq_true (by first | (with_reducible assumption) | assumption)
                                  obtain ⟨ad395, e395, hx395_0⟩ := Kd.at_int HR0.out x6_2 p395 q395
                                  obtain rfl : ad394 = ad395 := (by injection e395)
                                  replace hx395_0 := (HB.out.cell (World.block_lt_of_cell? w _ hx395_0)).trans hx395_0
                                  replace p395 := eq_true p395
                                  replace q395 := eq_true q395
                                  have p396 : 0 ≤ (x8_3 : Int) := of_decide_eq_true (by first | (with_reducible assumption) | assumption)
                                  have q396 : x8_3 < (l0.length : Int) := of_decide_eq_true (by first | (with_reducible assumption) | assumption)
                                  obtain ⟨ad396, e396, hx396_0⟩ := Kd.at_int HR0.out x8_3 p396 q396
                                  obtain rfl : ad394 = ad396 := (by injection e396)
                                  replace hx396_0 := (HB.out.cell (World.block_lt_of_cell? w _ hx396_0)).trans hx396_0
                                  replace p396 := eq_true p396
                                  replace q396 := eq_true q396
                                  go_wp2_with (first | ((with_reducible refine gate_builtin (b := .append) (xs := #[.tmp 51, .tmp 57]) rfl ?_); at_builtin; refine Kd.R_append k43 (w0 := w) w.heap.size rfl (.tmp 51) (.tmp 57) 22 43 (.agg #[(.int .i64 0), (.int .i64 0)]) 16 rfl Try.underlying22 info43 rfl (by decide) (by omega) u7 x7_3 (⟨rd l0 x8_3, 0⟩ : S43) [.int .i64 (rd l0 x8_3), .int .i64 0] (fun _ => True) (fun _ => False) rfl rfl ?aP (fun _ hk => hk.elim) ?aF ?aO ?aB ?aS ?aL ?_; (case aP => exact k43_mkM _ _ _ (⟨rd l0 x8_3, 0⟩ : S43)); (case aB => exact (by repeat (first | (with_reducible first | exact HB.out | apply below_alloc | apply pw_below_drewN | apply below_drew1) | exact HB.out))); (case aF => exact (fun _ _ => trivial)); (case aO => exact (by (with_reducible repeat (first | apply Kd.R_alloc | apply Kd.R_drewN | apply Kd.R_drew)); exact HO_7.out)); (case aS => exact (below_size (by repeat (first | (with_reducible first | exact HB.out | apply below_alloc | apply pw_below_drewN | apply below_drew1) | exact HB.out)))); (case aL => have := LMc15.out; omega); intro v398 w16 ho hb hg hat; rw [← Ny397.out] at ho; have n0_ := Aside0.mk (Kd.R_over' (by (with_reducible repeat (first | apply Kd.R_alloc | apply Kd.R_drewN | apply Kd.R_drew)); exact HO_4.out) (Kd.R_typed (by (with_reducible repeat (first | apply Kd.R_alloc | apply Kd.R_drewN | apply Kd.R_drew)); exact HO_7.out)) (by decide) hg); have n1_ := Aside0.mk (hb); have n2_ := Aside0.mk (ho); clear HO_4; clear HB; clear HO_7; have HO_4 := n0_; have HB := n1_; have HO399 := n2_; clear n0_ n1_ n2_; clear ho hb hg hat))
                                  repeat (go_quiet (first | ((with_reducible refine gate_builtin (b := .append) (xs := #[.tmp 51, .tmp 57]) rfl ?_); at_builtin; refine Kd.R_append k43 (w0 := w) w.heap.size rfl (.tmp 51) (.tmp 57) 22 43 (.agg #[(.int .i64 0), (.int .i64 0)]) 16 rfl Try.underlying22 info43 rfl (by decide) (by omega) u7 x7_3 (⟨rd l0 x8_3, 0⟩ : S43) [.int .i64 (rd l0 x8_3), .int .i64 0] (fun _ => True) (fun _ => False) rfl rfl ?aP (fun _ hk => hk.elim) ?aF ?aO ?aB ?aS ?aL ?_; (case aP => exact k43_mkM _ _ _ (⟨rd l0 x8_3, 0⟩ : S43)); (case aB => exact (by repeat (first | (with_reducible first | exact HB.out | apply below_alloc | apply pw_below_drewN | apply below_drew1) | exact HB.out))); (case aF => exact (fun _ _ => trivial)); (case aO => exact (by (with_reducible repeat (first | apply Kd.R_alloc | apply Kd.R_drewN | apply Kd.R_drew)); exact HO_7.out)); (case aS => exact (below_size (by repeat (first | (with_reducible first | exact HB.out | apply below_alloc | apply pw_below_drewN | apply below_drew1) | exact HB.out)))); (case aL => have := LMc15.out; omega); intro v398 w16 ho hb hg hat; rw [← Ny397.out] at ho; have n0_ := Aside0.mk (Kd.R_over' (by (with_reducible repeat (first | apply Kd.R_alloc | apply Kd.R_drewN | apply Kd.R_drew)); exact HO_4.out) (Kd.R_typed (by (with_reducible repeat (first | apply Kd.R_alloc | apply Kd.R_drewN | apply Kd.R_drew)); exact HO_7.out)) (by decide) hg); have n1_ := Aside0.mk (hb); have n2_ := Aside0.mk (ho); clear HO_4; clear HB; clear HO_7; have HO_4 := n0_; have HB := n1_; have HO399 := n2_; clear n0_ n1_ n2_; clear ho hb hg hat)); try go_wp2_with (first | ((with_reducible refine gate_builtin (b := .append) (xs := #[.tmp 51, .tmp 57]) rfl ?_); at_builtin; refine Kd.R_append k43 (w0 := w) w.heap.size rfl (.tmp 51) (.tmp 57) 22 43 (.agg #[(.int .i64 0), (.int .i64 0)]) 16 rfl Try.underlying22 info43 rfl (by decide) (by omega) u7 x7_3 (⟨rd l0 x8_3, 0⟩ : S43) [.int .i64 (rd l0 x8_3), .int .i64 0] (fun _ => True) (fun _ => False) rfl rfl ?aP (fun _ hk => hk.elim) ?aF ?aO ?aB ?aS ?aL ?_; (case aP => exact k43_mkM _ _ _ (⟨rd l0 x8_3, 0⟩ : S43)); (case aB => exact (by repeat (first | (with_reducible first | exact HB.out | apply below_alloc | apply pw_below_drewN | apply below_drew1) | exact HB.out))); (case aF => exact (fun _ _ => trivial)); (case aO => exact (by (with_reducible repeat (first | apply Kd.R_alloc | apply Kd.R_drewN | apply Kd.R_drew)); exact HO_7.out)); (case aS => exact (below_size (by repeat (first | (with_reducible first | exact HB.out | apply below_alloc | apply pw_below_drewN | apply below_drew1) | exact HB.out)))); (case aL => have := LMc15.out; omega); intro v398 w16 ho hb hg hat; rw [← Ny397.out] at ho; have n0_ := Aside0.mk (Kd.R_over' (by (with_reducible repeat (first | apply Kd.R_alloc | apply Kd.R_drewN | apply Kd.R_drew)); exact HO_4.out) (Kd.R_typed (by (with_reducible repeat (first | apply Kd.R_alloc | apply Kd.R_drewN | apply Kd.R_drew)); exact HO_7.out)) (by decide) hg); have n1_ := Aside0.mk (hb); have n2_ := Aside0.mk (ho); clear HO_4; clear HB; clear HO_7; have HO_4 := n0_; have HB := n1_; have HO399 := n2_; clear n0_ n1_ n2_; clear ho hb hg hat)))
                                  go_roundg k3
                                  case measure => have := HK1.out; have := HK2.out; have := HK3.out; omega
                                  case rel => exact ⟨(y397), (wrap64 (x8_3 + 1)), (by first | rfl | (simp; done) | (simp [*]; done)), H', ⟨by have := HK1.out; have := HK2.out; have := HK3.out; omega⟩, ⟨by (with_reducible repeat (first | apply Kd.R_alloc | apply Kd.R_drewN | apply Kd.R_drew)); exact HO_4.out⟩, ⟨by (with_reducible repeat (first | apply Kd.R_alloc | apply Kd.R_drewN | apply Kd.R_drew)); exact HO399.out⟩, ⟨by repeat (first | (with_reducible first | exact HB.out | apply below_alloc | apply pw_below_drewN | apply below_drew1) | exact HB.out)⟩⟩
                                · rw [if_neg c15] at H
                                  exact absurd H (by simp)
                            · rw [if_neg c13] at H
                              exact absurd H (by simp)
                          · rw [if_neg c12] at H
                            exact absurd H (by simp)
                        · rw [if_neg c11] at H
                          exact absurd H (by simp)
                      · rw [if_neg c10] at H
                        have c10b0 : decide (x8_3 < x6_2) = false := decide_eq_false c10
                        clear c10
                        by_cases c17 : 0 ≤ x8_3
                        · rw [if_pos c17] at H
                          have c17b0 : decide (0 ≤ x8_3) = true := decide_eq_true c17
                          clear c17
                          by_cases c18 : x7_3.length < 8796093022208
                          · rw [if_pos c18] at H
                            have LMc18 := Aside0.mk c18
                            clear c18
                            obtain ⟨y401, hy401⟩ : ∃ y_ : List (S43), y_ = (x7_3 ++ [(⟨rd l0 x8_3, 0⟩ : S43)]) := ⟨_, rfl⟩
                            replace H : (verditerref08_Weights.l2 k3 l0 x4_2 x6_2 y401 (wrap64 (x8_3 + 1))) = some (r1, r2) := by first | (rw [hy401]; with_reducible exact H) | (have H2_ := (Option.bind_some _ _).symm.trans H; rw [hy401]; with_reducible exact H2_) | (have H2_ := (Option.bind_some _ _).symm.trans H; with_reducible exact H2_) | with_reducible exact H | (rw [hy401]; exact H) | exact H
                            have Ny401 := Aside0.mk hy401
                            clear hy401
                            have H' := Aside0.mk H
                            clear H
                            have p400 : 0 ≤ (x8_3 : Int) := of_decide_eq_true (by first | (with_reducible assumption) | assumption)
                            have q400 : x8_3 < (l0.length : Int) := of_decide_eq_true (by first | (with_reducible assumption) | assumption)
                            obtain ⟨ad400, e400, hx400_0⟩ := Kd.at_int HR0.out x8_3 p400 q400
                            cases e400
                            replace hx400_0 := (HB.out.cell (World.block_lt_of_cell? w _ hx400_0)).trans hx400_0
                            replace p400 := eq_true p400
                            replace q400 := eq_true q400
                            go_wp2_with (first | ((with_reducible refine gate_builtin (b := .append) (xs := #[.tmp 51, .tmp 57]) rfl ?_); at_builtin; refine Kd.R_append k43 (w0 := w) w.heap.size rfl (.tmp 51) (.tmp 57) 22 43 (.agg #[(.int .i64 0), (.int .i64 0)]) 16 rfl Try.underlying22 info43 rfl (by decide) (by omega) u7 x7_3 (⟨rd l0 x8_3, 0⟩ : S43) [.int .i64 (rd l0 x8_3), .int .i64 0] (fun _ => True) (fun _ => False) rfl rfl ?aP (fun _ hk => hk.elim) ?aF ?aO ?aB ?aS ?aL ?_; (case aP => exact k43_mkM _ _ _ (⟨rd l0 x8_3, 0⟩ : S43)); (case aB => exact (by repeat (first | (with_reducible first | exact HB.out | apply below_alloc | apply pw_below_drewN | apply below_drew1) | exact HB.out))); (case aF => exact (fun _ _ => trivial)); (case aO => exact (by (with_reducible repeat (first | apply Kd.R_alloc | apply Kd.R_drewN | apply Kd.R_drew)); exact HO_7.out)); (case aS => exact (below_size (by repeat (first | (with_reducible first | exact HB.out | apply below_alloc | apply pw_below_drewN | apply below_drew1) | exact HB.out)))); (case aL => have := LMc18.out; omega); intro v402 w19 ho hb hg hat; rw [← Ny401.out] at ho; have n0_ := Aside0.mk (Kd.R_over' (by (with_reducible repeat (first | apply Kd.R_alloc | apply Kd.R_drewN | apply Kd.R_drew)); exact HO_4.out) (Kd.R_typed (by (with_reducible repeat (first | apply Kd.R_alloc | apply Kd.R_drewN | apply Kd.R_drew)); exact HO_7.out)) (by decide) hg); have n1_ := Aside0.mk (hb); have n2_ := Aside0.mk (ho); clear HO_4; clear HB; clear HO_7; have HO_4 := n0_; have HB := n1_; have HO403 := n2_; clear n0_ n1_ n2_; clear ho hb hg hat))
                            repeat (go_quiet (first | ((with_reducible refine gate_builtin (b := .append) (xs := #[.tmp 51, .tmp 57]) rfl ?_); at_builtin; refine Kd.R_append k43 (w0 := w) w.heap.size rfl (.tmp 51) (.tmp 57) 22 43 (.agg #[(.int .i64 0), (.int .i64 0)]) 16 rfl Try.underlying22 info43 rfl (by decide) (by omega) u7 x7_3 (⟨rd l0 x8_3, 0⟩ : S43) [.int .i64 (rd l0 x8_3), .int .i64 0] (fun _ => True) (fun _ => False) rfl rfl ?aP (fun _ hk => hk.elim) ?aF ?aO ?aB ?aS ?aL ?_; (case aP => exact k43_mkM _ _ _ (⟨rd l0 x8_3, 0⟩ : S43)); (case aB => exact (by repeat (first | (with_reducible first | exact HB.out | apply below_alloc | apply pw_below_drewN | apply below_drew1) | exact HB.out))); (case aF => exact (fun _ _ => trivial)); (case aO => exact (by (with_reducible repeat (first | apply Kd.R_alloc | apply Kd.R_drewN | apply Kd.R_drew)); exact HO_7.out)); (case aS => exact (below_size (by repeat (first | (with_reducible first | exact HB.out | apply below_alloc | apply pw_below_drewN | apply below_drew1) | exact HB.out)))); (case aL => have := LMc18.out; omega); intro v402 w19 ho hb hg hat; rw [← Ny401.out] at ho; have n0_ := Aside0.mk (Kd.R_over' (by (with_reducible repeat (first | apply Kd.R_alloc | apply Kd.R_drewN | apply Kd.R_drew)); exact HO_4.out) (Kd.R_typed (by (with_reducible repeat (first | apply Kd.R_alloc | apply Kd.R_drewN | apply Kd.R_drew)); exact HO_7.out)) (by decide) hg); have n1_ := Aside0.mk (hb); have n2_ := Aside0.mk (ho); clear HO_4; clear HB; clear HO_7; have HO_4 := n0_; have HB := n1_; have HO403 := n2_; clear n0_ n1_ n2_; clear ho hb hg hat)); try go_wp2_with (first | ((with_reducible refine gate_builtin (b := .append) (xs := #[.tmp 51, .tmp 57]) rfl ?_); at_builtin; refine Kd.R_append k43 (w0 := w) w.heap.size rfl (.tmp 51) (.tmp 57) 22 43 (.agg #[(.int .i64 0), (.int .i64 0)]) 16 rfl Try.underlying22 info43 rfl (by decide) (by omega) u7 x7_3 (⟨rd l0 x8_3, 0⟩ : S43) [.int .i64 (rd l0 x8_3), .int .i64 0] (fun _ => True) (fun _ => False) rfl rfl ?aP (fun _ hk => hk.elim) ?aF ?aO ?aB ?aS ?aL ?_; (case aP => exact k43_mkM _ _ _ (⟨rd l0 x8_3, 0⟩ : S43)); (case aB => exact (by repeat (first | (with_reducible first | exact HB.out | apply below_alloc | apply pw_below_drewN | apply below_drew1) | exact HB.out))); (case aF => exact (fun _ _ => trivial)); (case aO => exact (by (with_reducible repeat (first | apply Kd.R_alloc | apply Kd.R_drewN | apply Kd.R_drew)); exact HO_7.out)); (case aS => exact (below_size (by repeat (first | (with_reducible first | exact HB.out | apply below_alloc | apply pw_below_drewN | apply below_drew1) | exact HB.out)))); (case aL => have := LMc18.out; omega); intro v402 w19 ho hb hg hat; rw [← Ny401.out] at ho; have n0_ := Aside0.mk (Kd.R_over' (by (with_reducible repeat (first | apply Kd.R_alloc | apply Kd.R_drewN | apply Kd.R_drew)); exact HO_4.out) (Kd.R_typed (by (with_reducible repeat (first | apply Kd.R_alloc | apply Kd.R_drewN | apply Kd.R_drew)); exact HO_7.out)) (by decide) hg); have n1_ := Aside0.mk (hb); have n2_ := Aside0.mk (ho); clear HO_4; clear HB; clear HO_7; have HO_4 := n0_; have HB := n1_; have HO403 := n2_; clear n0_ n1_ n2_; clear ho hb hg hat)))
                            go_roundg k3
                            case measure => have := HK1.out; have := HK2.out; have := HK3.out; omega
                            case rel => exact ⟨(y401), (wrap64 (x8_3 + 1)), (by first | rfl | (simp; done) | (simp [*]; done)), H', ⟨by have := HK1.out; have := HK2.out; have := HK3.out; omega⟩, ⟨by (with_reducible repeat (first | apply Kd.R_alloc | apply Kd.R_drewN | apply Kd.R_drew)); exact HO_4.out⟩, ⟨by (with_reducible repeat (first | apply Kd.R_alloc | apply Kd.R_drewN | apply Kd.R_drew)); exact HO403.out⟩, ⟨by repeat (first | (with_reducible first | exact HB.out | apply below_alloc | apply pw_below_drewN | apply below_drew1) | exact HB.out)⟩⟩
                          · rw [if_neg c18] at H
                            exact absurd H (by simp)
                        · rw [if_neg c17] at H
                          exact absurd H (by simp)
                    · rw [if_neg c9] at H
                      have c9b0 : decide (x8_3 < (l0.length : Int)) = false := decide_eq_false c9
                      clear c9
                      by_cases c20 : 0 ≤ x6_2
                      · rw [if_pos c20] at H
                        have c20b0 : decide (0 ≤ x6_2) = true := decide_eq_true c20
                        clear c20
                        by_cases c21 : x6_2 < (x7_3.length : Int)
                        · rw [if_pos c21] at H
                          have c21b0 : decide (x6_2 < (x7_3.length : Int)) = true := decide_eq_true c21
                          clear c21
                          obtain ⟨y404, hy404⟩ : ∃ y_ : List (S43), y_ = (x7_3.set (x6_2 : Int).toNat (⟨(rd_T43 x7_3 x6_2).f0, 1⟩ : S43)) := ⟨_, rfl⟩
                          replace H : ((verditerref08_Validate.f k3 y404).bind fun t405 => (if t405 = 0 then ((verditerref08_through.f k3 y404).bind fun t406 => (if 0 < (t406.length : Int) then (if x4_2.length < 17592186044416 then (verditerref08_Weights.l1 k3 l0 (x4_2 ++ [rd t406 0]) (wrap64 (x6_2 + 1))) else (none)) else (none))) else (some (([] : List Int), 6)))) = some (r1, r2) := by first | (rw [hy404]; with_reducible exact H) | (have H2_ := (Option.bind_some _ _).symm.trans H; rw [hy404]; with_reducible exact H2_) | (have H2_ := (Option.bind_some _ _).symm.trans H; with_reducible exact H2_) | with_reducible exact H | (rw [hy404]; exact H) | exact H
                          have Ny404 := Aside0.mk hy404
                          clear hy404
                          replace H := Option.bind_eq_some_iff.mp H
                          obtain ⟨t405, A230, H⟩ := H
                          replace H : (if t405 = 0 then ((verditerref08_through.f k3 y404).bind fun t406 => (if 0 < (t406.length : Int) then (if x4_2.length < 17592186044416 then (verditerref08_Weights.l1 k3 l0 (x4_2 ++ [rd t406 0]) (wrap64 (x6_2 + 1))) else (none)) else (none))) else (some (([] : List Int), 6))) = some (r1, r2) := H
                          have A23 := Aside0.mk A230
                          clear A230
                          by_cases c24 : t405 = 0
                          · rw [if_pos c24] at H
                            have c24b0 : (t405 == 0) = true := beq_iff_eq.mpr c24
                            have c24b1 : (t405 != 0) = false := bne_eq_false_iff_eq.mpr c24
                            clear c24
                            replace H := Option.bind_eq_some_iff.mp H
                            obtain ⟨t406, A250, H⟩ := H
                            replace H : (if 0 < (t406.length : Int) then (if x4_2.length < 17592186044416 then (verditerref08_Weights.l1 k3 l0 (x4_2 ++ [rd t406 0]) (wrap64 (x6_2 + 1))) else (none)) else (none)) = some (r1, r2) := H
                            have A25 := Aside0.mk A250
                            clear A250
                            by_cases c26 : 0 < (t406.length : Int)
                            · rw [if_pos c26] at H
                              have c26b0 : decide (0 < (t406.length : Int)) = true := decide_eq_true c26
                              have c26b1 : decide (0 < t406.length) = true := decide_eq_true (by omega)
                              clear c26
                              by_cases c27 : x4_2.length < 17592186044416
                              · rw [if_pos c27] at H
                                have LMc27 := Aside0.mk c27
                                clear c27
                                obtain ⟨y410, hy410⟩ : ∃ y_ : List Int, y_ = (x4_2 ++ [rd t406 0]) := ⟨_, rfl⟩
                                replace H : (verditerref08_Weights.l1 k3 l0 y410 (wrap64 (x6_2 + 1))) = some (r1, r2) := by first | (rw [hy410]; with_reducible exact H) | (have H2_ := (Option.bind_some _ _).symm.trans H; rw [hy410]; with_reducible exact H2_) | (have H2_ := (Option.bind_some _ _).symm.trans H; with_reducible exact H2_) | with_reducible exact H | (rw [hy410]; exact H) | exact H
                                have Ny410 := Aside0.mk hy410
                                clear hy410
                                have H' := Aside0.mk H
                                clear H
                                have p22 : 0 ≤ (x6_2 : Int) := of_decide_eq_true (by first | (with_reducible assumption) | assumption)
                                have q22 : (x6_2 : Int) < ((x7_3.length : Int) : Int) := of_decide_eq_true (by first | (with_reducible assumption) | assumption)
                                obtain ⟨go22, co22, eo22, gb22, gl22, cl22, HG22⟩ := Kd.R_form HO_7.out (by omega)
                                (first | cases eo22 | (injection eo22 with ea_ en_ ec_; (first | subst ea_ | (injection ea_ with ea_; subst ea_)); subst ec_; clear en_))
                                have GB22 := Aside0.mk gb22
                                have GG22 := Aside0.mk HG22
                                clear gb22 gl22 HG22
                                obtain ⟨ce22, hcl22, hM22, hcc22, hfr22⟩ := Kd.R_elem HO_7.out z43 (x6_2 : Int) p22 q22
                                obtain rfl := k43_openM hM22
                                have hx22_0 : wr.cell? ⟨go22, (x6_2 : Int).toNat * 2, none⟩ = some (.int .i64 ((rd_T43 x7_3 x6_2).f0)) := hcc22 0 _ rfl
                                have hx22_1 : wr.cell? ⟨go22, (x6_2 : Int).toNat * 2 + 1, none⟩ = some (.int .i64 ((rd_T43 x7_3 x6_2).f1)) := hcc22 1 _ rfl
                                have hf22_0 : wr.frozen? ⟨go22, (x6_2 : Int).toNat * 2, none⟩ = false := hfr22 0
                                have hf22_1 : wr.frozen? ⟨go22, (x6_2 : Int).toNat * 2 + 1, none⟩ = false := hfr22 1
                                clear hcl22 hcc22 hfr22 hM22
                                replace p22 := eq_true p22
                                replace q22 := eq_true q22
                                have HX28 := Aside0.mk (show Kd.R k43 43 wr w.heap.size (fun _ => True) (.slice (some ⟨go22, 0, none⟩) x7_3.length co22) x7_3 from (by (with_reducible repeat (first | apply Kd.R_alloc | apply Kd.R_drewN | apply Kd.R_drew)); exact HO_7.out))
                                obtain ⟨ce28, hcl28, hM28, hcc28, hfr28⟩ := Kd.R_elem HX28.out z43 (x6_2 : Int) (of_decide_eq_true (by first | (with_reducible assumption) | assumption)) (by have h_ : (x6_2 : Int) < ((x7_3.length : Int) : Int) := of_decide_eq_true (by first | (with_reducible assumption) | assumption); first | exact h_ | (have e_ := (Kd.R_reads' HO_7.out).1; omega) | simpa using h_)
                                obtain rfl := k43_openM hM28
                                have HP28 := Kd.R_seg HX28.out (x6_2 : Int) (of_decide_eq_true (by first | (with_reducible assumption) | assumption)) (by have h_ : (x6_2 : Int) < ((x7_3.length : Int) : Int) := of_decide_eq_true (by first | (with_reducible assumption) | assumption); first | exact h_ | (have e_ := (Kd.R_reads' HO_7.out).1; omega) | simpa using h_) (seg := [.int .i64 1]) (j := 1) hcl28 hcc28 (show 2 ≤ 2 from by decide) (x' := (⟨(rd_T43 x7_3 x6_2).f0, 1⟩ : S43)) (k43_mkM _ _ _ (⟨(rd_T43 x7_3 x6_2).f0, 1⟩ : S43) ) (fun _ hk => hk)
                                have hx28_1 := hcc28 1 _ rfl
                                (try simp only [show (k43).sz = 2 from rfl, Nat.mul_one, Nat.add_zero] at hx28_1)
                                have hf28_1 := hfr28 1
                                (try simp only [show (k43).sz = 2 from rfl, Nat.mul_one, Nat.add_zero] at hf28_1)
                                clear hcl28 hcc28 hfr28 hM28
                                go_wp2_with (first | ((with_reducible refine gate_store (t := 3) (p := 62) rfl ?_); (try (rw [drewN_self wr]; generalize hq_ : World.drewN wr _ = wr; have n0_ := Aside0.mk (Kd.R_at hq_ HO_4.out); have n1_ := Aside0.mk (Kd.R_at hq_ HO_7.out); have n2_ := Aside0.mk (below_at hq_ HB.out); clear hq_ HO_4 HO_7 HB; have HO_4 := n0_; have HO_7 := n1_; have HB := n2_; clear n0_ n1_ n2_; (try (have HX28 := Aside0.mk (show Kd.R k43 43 wr w.heap.size (fun _ => True) (.slice (some ⟨go22, 0, none⟩) x7_3.length co22) x7_3 from (by (with_reducible repeat (first | apply Kd.R_alloc | apply Kd.R_drewN | apply Kd.R_drew)); exact HO_7.out)))); (try (obtain ⟨ce28, hcl28, hM28, hcc28, hfr28⟩ := Kd.R_elem HX28.out z43 (x6_2 : Int) (of_decide_eq_true (by first | (with_reducible assumption) | assumption)) (by have h_ : (x6_2 : Int) < ((x7_3.length : Int) : Int) := of_decide_eq_true (by first | (with_reducible assumption) | assumption); first | exact h_ | (have e_ := (Kd.R_reads' HO_7.out).1; omega) | simpa using h_))); (try (obtain rfl := k43_openM hM28)); (try (have HP28 := Kd.R_seg HX28.out (x6_2 : Int) (of_decide_eq_true (by first | (with_reducible assumption) | assumption)) (by have h_ : (x6_2 : Int) < ((x7_3.length : Int) : Int) := of_decide_eq_true (by first | (with_reducible assumption) | assumption); first | exact h_ | (have e_ := (Kd.R_reads' HO_7.out).1; omega) | simpa using h_) (seg := [.int .i64 1]) (j := 1) hcl28 hcc28 (show 2 ≤ 2 from by decide) (x' := (⟨(rd_T43 x7_3 x6_2).f0, 1⟩ : S43)) (k43_mkM _ _ _ (⟨(rd_T43 x7_3 x6_2).f0, 1⟩ : S43) ) (fun _ hk => hk))); (try (have hx28_1 := hcc28 1 _ rfl)); (try (try simp only [show (k43).sz = 2 from rfl, Nat.mul_one, Nat.add_zero] at hx28_1)); (try (have hf28_1 := hfr28 1)); (try (try simp only [show (k43).sz = 2 from rfl, Nat.mul_one, Nat.add_zero] at hf28_1)); (try (clear hcl28 hcc28 hfr28 hM28)))); refine store_event (t := 3) (p := 62) (v := ?vo_w29) (w1 := (wr.setCell ⟨go22, (x6_2 : Int).toNat * 2 + 1, none⟩ (.int .i64 1))) ?hg ?ho ?hn ?hr ?_; (case ho => rfl); (case hg => rfl); (case hn => rfl); (case hr => first | (go_simp; done) | (go_simp; rfl)); intro w29 hw; have hg : wr.grownBy w29 (some go22) := (by rw [hw]; exact HP28.2); have hp_ : Kd.R k43 43 w29 w.heap.size (fun _ => True) (.slice (some ⟨go22, 0, none⟩) x7_3.length co22) y404 := (by rw [hw, Ny404.out]; exact HP28.1); clear HP28; have n0_ := Aside0.mk (Kd.R_over' (v := (.slice (some ⟨go22, 0, none⟩) x7_3.length co22)) (by (with_reducible repeat (first | apply Kd.R_alloc | apply Kd.R_drewN | apply Kd.R_drew)); exact HO_4.out) (Kd.R_typed HO_7.out) (by decide) hg); have n1_ := Aside0.mk (hp_); have n2_ := Aside0.mk ((by rw [hw]; exact below_set (HB.out) GB22.out : Below w.heap.size w w29)); clear HO_4; clear HO_7; clear HB; have HO_4 := n0_; have HO_7 := n1_; have HB := n2_; clear n0_ n1_ n2_; clear hg hw hp_) | (go_at_call 66; refine calls_of_args (args' := #[.slice (some ⟨go22, 0, none⟩) y404.length co22]) (by first | (rw [show y404.length = x7_3.length from (Kd.R_reads' HO_7.out).1.symm] <;> rfl) | rfl) ?_; (with_reducible refine (verditerref08_Validate.calls k3 _ _ y404 t405 _ ?side1 ?side2 A23.out).mono ?_); (case side1 => repeat (first | exact (Kd.R_reads' HO_7.out).2.2 | (with_reducible refine Kd.C_alloc ?_ _) | (with_reducible refine Kd.C_drewN ?_ _) | (with_reducible refine Kd.C_drew ?_))); (case side2 => rw [show y404.length = x7_3.length from (Kd.R_reads' HO_7.out).1.symm]; exact (Kd.R_reads' HO_7.out).2.1); rintro e w' ⟨rfl, ⟨nd, rfl⟩⟩; (try first | exact ⟨rfl, _, World.drewN_drewN _ _ _⟩ | exact ⟨rfl, _, Eq.trans (World.drewN_drewN _ _ _) (congrArg (World.drewN _) (Nat.add_assoc _ _ _))⟩)) | (go_at_call 76; refine calls_of_args (args' := #[.slice (some ⟨go22, 0, none⟩) y404.length co22]) (by first | (rw [show y404.length = x7_3.length from (Kd.R_reads' HO_7.out).1.symm] <;> rfl) | rfl) ?_; (with_reducible refine (verditerref08_through.calls k3 _ _ y404 t406 _ ?side1 ?side2 A25.out).mono ?_); (case side1 => repeat (first | exact (Kd.R_reads' HO_7.out).2.2 | (with_reducible refine Kd.C_alloc ?_ _) | (with_reducible refine Kd.C_drewN ?_ _) | (with_reducible refine Kd.C_drew ?_))); (case side2 => rw [show y404.length = x7_3.length from (Kd.R_reads' HO_7.out).1.symm]; exact (Kd.R_reads' HO_7.out).2.1); rintro e w30 ⟨v407, rfl, ho0, hb⟩; have n0_ := Aside0.mk (Kd.R_elder' (by (with_reducible repeat (first | apply Kd.R_alloc | apply Kd.R_drewN | apply Kd.R_drew)); exact HO_4.out) (Kd.R_base ho0) hb); have n1_ := Aside0.mk (Kd.R_below (by (with_reducible repeat (first | apply Kd.R_alloc | apply Kd.R_drewN | apply Kd.R_drew)); exact HO_7.out) hb); have n2_ := Aside0.mk (Kd.R_lower (Kd.R_new' ho0 (Kd.R_lt (by (with_reducible repeat (first | apply Kd.R_alloc | apply Kd.R_drewN | apply Kd.R_drew)); exact HO_4.out))) (below_size (by repeat (first | (with_reducible first | exact HB.out | apply below_alloc | apply pw_below_drewN | apply below_drew1) | exact HB.out)))); have n3_ := Aside0.mk (below_step (by repeat (first | (with_reducible first | exact HB.out | apply below_alloc | apply pw_below_drewN | apply below_drew1) | exact HB.out)) hb); clear HO_4; clear HO_7; clear HB; have HO_4 := n0_; have HO_7 := n1_; have HO408 := n2_; have HB := n3_; clear n0_ n1_ n2_ n3_; (try clear hb); (try clear hb2); (try clear hk); (try clear hi); (try clear ho0); obtain ⟨Ao31, co31, eo31⟩ := Kd.R_slice HO408.out; subst eo31; have p409 : 0 ≤ (0 : Int) := (by omega); have q409 : 0 < (t406.length : Int) := of_decide_eq_true (by first | (with_reducible assumption) | assumption); obtain ⟨ad409, e409, hx409_0⟩ := Kd.at_int (Kd.R_reads' HO408.out).2.2 0 p409 q409; cases e409; have qi409 : (0 < t406.length) = True := eq_true (by omega); (try rw [show ((0 : Int)).toNat = 0 from rfl] at hx409_0); (try rw [Addr.add_zero'] at hx409_0); replace p409 := eq_true p409; replace q409 := eq_true q409) | ((with_reducible refine gate_builtin (b := .append) (xs := #[.tmp 66, .tmp 71]) rfl ?_); at_builtin; refine Kd.R_append (Kd.int .i64) (w0 := w) w.heap.size rfl (.tmp 66) (.tmp 71) 26 3 (.int .i64 0) 8 rfl Try.underlying26 info3 rfl (by decide) (by omega) u4 x4_2 (rd t406 0) [.int .i64 (rd t406 0)] (fun k_ => some k_ ≠ (.slice (some ad409) t406.length co31 : Value).ownBlock) (fun _ => False) rfl rfl ?aP (fun _ hk => hk.elim) ?aF ?aO ?aB ?aS ?aL ?_; (case aP => exact rfl); (case aB => exact (by repeat (first | (with_reducible first | exact HB.out | apply below_alloc | apply pw_below_drewN | apply below_drew1) | exact HB.out))); (case aF => exact (fun k_ hk => Kd.fresh' (Kd.R_lt (by (with_reducible repeat (first | apply Kd.R_alloc | apply Kd.R_drewN | apply Kd.R_drew)); exact HO408.out)) k_ hk)); (case aO => exact (by (with_reducible repeat (first | apply Kd.R_alloc | apply Kd.R_drewN | apply Kd.R_drew)); exact Kd.R_mono HO_4.out (fun _ hk => hk.2))); (case aS => exact (below_size (by repeat (first | (with_reducible first | exact HB.out | apply below_alloc | apply pw_below_drewN | apply below_drew1) | exact HB.out)))); (case aL => have := LMc27.out; omega); intro v411 w32 ho hb hg hat; rw [← Ny410.out] at ho; have n0_ := Aside0.mk (Kd.R_over' (by (with_reducible repeat (first | apply Kd.R_alloc | apply Kd.R_drewN | apply Kd.R_drew)); exact HO_7.out) (Kd.R_typed (by (with_reducible repeat (first | apply Kd.R_alloc | apply Kd.R_drewN | apply Kd.R_drew)); exact HO_4.out)) (by decide) hg); have n1_ := Aside0.mk (Kd.R_after (ok := (fun _ => True)) (by (with_reducible repeat (first | apply Kd.R_alloc | apply Kd.R_drewN | apply Kd.R_drew)); exact HO408.out) hg hat); have n2_ := Aside0.mk (hb); have n3_ := Aside0.mk (ho); clear HO_7; clear HO408; clear HB; clear HO_4; have HO_7 := n0_; have HO408 := n1_; have HB := n2_; have HO412 := n3_; clear n0_ n1_ n2_ n3_; clear ho hb hg hat))
                                repeat (go_quiet (first | ((with_reducible refine gate_store (t := 3) (p := 62) rfl ?_); (try (rw [drewN_self wr]; generalize hq_ : World.drewN wr _ = wr; have n0_ := Aside0.mk (Kd.R_at hq_ HO_4.out); have n1_ := Aside0.mk (Kd.R_at hq_ HO_7.out); have n2_ := Aside0.mk (below_at hq_ HB.out); clear hq_ HO_4 HO_7 HB; have HO_4 := n0_; have HO_7 := n1_; have HB := n2_; clear n0_ n1_ n2_; (try (have HX28 := Aside0.mk (show Kd.R k43 43 wr w.heap.size (fun _ => True) (.slice (some ⟨go22, 0, none⟩) x7_3.length co22) x7_3 from (by (with_reducible repeat (first | apply Kd.R_alloc | apply Kd.R_drewN | apply Kd.R_drew)); exact HO_7.out)))); (try (obtain ⟨ce28, hcl28, hM28, hcc28, hfr28⟩ := Kd.R_elem HX28.out z43 (x6_2 : Int) (of_decide_eq_true (by first | (with_reducible assumption) | assumption)) (by have h_ : (x6_2 : Int) < ((x7_3.length : Int) : Int) := of_decide_eq_true (by first | (with_reducible assumption) | assumption); first | exact h_ | (have e_ := (Kd.R_reads' HO_7.out).1; omega) | simpa using h_))); (try (obtain rfl := k43_openM hM28)); (try (have HP28 := Kd.R_seg HX28.out (x6_2 : Int) (of_decide_eq_true (by first | (with_reducible assumption) | assumption)) (by have h_ : (x6_2 : Int) < ((x7_3.length : Int) : Int) := of_decide_eq_true (by first | (with_reducible assumption) | assumption); first | exact h_ | (have e_ := (Kd.R_reads' HO_7.out).1; omega) | simpa using h_) (seg := [.int .i64 1]) (j := 1) hcl28 hcc28 (show 2 ≤ 2 from by decide) (x' := (⟨(rd_T43 x7_3 x6_2).f0, 1⟩ : S43)) (k43_mkM _ _ _ (⟨(rd_T43 x7_3 x6_2).f0, 1⟩ : S43) ) (fun _ hk => hk))); (try (have hx28_1 := hcc28 1 _ rfl)); (try (try simp only [show (k43).sz = 2 from rfl, Nat.mul_one, Nat.add_zero] at hx28_1)); (try (have hf28_1 := hfr28 1)); (try (try simp only [show (k43).sz = 2 from rfl, Nat.mul_one, Nat.add_zero] at hf28_1)); (try (clear hcl28 hcc28 hfr28 hM28)))); refine store_event (t := 3) (p := 62) (v := ?vo_w29) (w1 := (wr.setCell ⟨go22, (x6_2 : Int).toNat * 2 + 1, none⟩ (.int .i64 1))) ?hg ?ho ?hn ?hr ?_; (case ho => rfl); (case hg => rfl); (case hn => rfl); (case hr => first | (go_simp; done) | (go_simp; rfl)); intro w29 hw; have hg : wr.grownBy w29 (some go22) := (by rw [hw]; exact HP28.2); have hp_ : Kd.R k43 43 w29 w.heap.size (fun _ => True) (.slice (some ⟨go22, 0, none⟩) x7_3.length co22) y404 := (by rw [hw, Ny404.out]; exact HP28.1); clear HP28; have n0_ := Aside0.mk (Kd.R_over' (v := (.slice (some ⟨go22, 0, none⟩) x7_3.length co22)) (by (with_reducible repeat (first | apply Kd.R_alloc | apply Kd.R_drewN | apply Kd.R_drew)); exact HO_4.out) (Kd.R_typed HO_7.out) (by decide) hg); have n1_ := Aside0.mk (hp_); have n2_ := Aside0.mk ((by rw [hw]; exact below_set (HB.out) GB22.out : Below w.heap.size w w29)); clear HO_4; clear HO_7; clear HB; have HO_4 := n0_; have HO_7 := n1_; have HB := n2_; clear n0_ n1_ n2_; clear hg hw hp_) | (go_at_call 66; refine calls_of_args (args' := #[.slice (some ⟨go22, 0, none⟩) y404.length co22]) (by first | (rw [show y404.length = x7_3.length from (Kd.R_reads' HO_7.out).1.symm] <;> rfl) | rfl) ?_; (with_reducible refine (verditerref08_Validate.calls k3 _ _ y404 t405 _ ?side1 ?side2 A23.out).mono ?_); (case side1 => repeat (first | exact (Kd.R_reads' HO_7.out).2.2 | (with_reducible refine Kd.C_alloc ?_ _) | (with_reducible refine Kd.C_drewN ?_ _) | (with_reducible refine Kd.C_drew ?_))); (case side2 => rw [show y404.length = x7_3.length from (Kd.R_reads' HO_7.out).1.symm]; exact (Kd.R_reads' HO_7.out).2.1); rintro e w' ⟨rfl, ⟨nd, rfl⟩⟩; (try first | exact ⟨rfl, _, World.drewN_drewN _ _ _⟩ | exact ⟨rfl, _, Eq.trans (World.drewN_drewN _ _ _) (congrArg (World.drewN _) (Nat.add_assoc _ _ _))⟩)) | (go_at_call 76; refine calls_of_args (args' := #[.slice (some ⟨go22, 0, none⟩) y404.length co22]) (by first | (rw [show y404.length = x7_3.length from (Kd.R_reads' HO_7.out).1.symm] <;> rfl) | rfl) ?_; (with_reducible refine (verditerref08_through.calls k3 _ _ y404 t406 _ ?side1 ?side2 A25.out).mono ?_); (case side1 => repeat (first | exact (Kd.R_reads' HO_7.out).2.2 | (with_reducible refine Kd.C_alloc ?_ _) | (with_reducible refine Kd.C_drewN ?_ _) | (with_reducible refine Kd.C_drew ?_))); (case side2 => rw [show y404.length = x7_3.length from (Kd.R_reads' HO_7.out).1.symm]; exact (Kd.R_reads' HO_7.out).2.1); rintro e w30 ⟨v407, rfl, ho0, hb⟩; have n0_ := Aside0.mk (Kd.R_elder' (by (with_reducible repeat (first | apply Kd.R_alloc | apply Kd.R_drewN | apply Kd.R_drew)); exact HO_4.out) (Kd.R_base ho0) hb); have n1_ := Aside0.mk (Kd.R_below (by (with_reducible repeat (first | apply Kd.R_alloc | apply Kd.R_drewN | apply Kd.R_drew)); exact HO_7.out) hb); have n2_ := Aside0.mk (Kd.R_lower (Kd.R_new' ho0 (Kd.R_lt (by (with_reducible repeat (first | apply Kd.R_alloc | apply Kd.R_drewN | apply Kd.R_drew)); exact HO_4.out))) (below_size (by repeat (first | (with_reducible first | exact HB.out | apply below_alloc | apply pw_below_drewN | apply below_drew1) | exact HB.out)))); have n3_ := Aside0.mk (below_step (by repeat (first | (with_reducible first | exact HB.out | apply below_alloc | apply pw_below_drewN | apply below_drew1) | exact HB.out)) hb); clear HO_4; clear HO_7; clear HB; have HO_4 := n0_; have HO_7 := n1_; have HO408 := n2_; have HB := n3_; clear n0_ n1_ n2_ n3_; (try clear hb); (try clear hb2); (try clear hk); (try clear hi); (try clear ho0); obtain ⟨Ao31, co31, eo31⟩ := Kd.R_slice HO408.out; subst eo31; have p409 : 0 ≤ (0 : Int) := (by omega); have q409 : 0 < (t406.length : Int) := of_decide_eq_true (by first | (with_reducible assumption) | assumption); obtain ⟨ad409, e409, hx409_0⟩ := Kd.at_int (Kd.R_reads' HO408.out).2.2 0 p409 q409; cases e409; have qi409 : (0 < t406.length) = True := eq_true (by omega); (try rw [show ((0 : Int)).toNat = 0 from rfl] at hx409_0); (try rw [Addr.add_zero'] at hx409_0); replace p409 := eq_true p409; replace q409 := eq_true q409) | ((with_reducible refine gate_builtin (b := .append) (xs := #[.tmp 66, .tmp 71]) rfl ?_); at_builtin; refine Kd.R_append (Kd.int .i64) (w0 := w) w.heap.size rfl (.tmp 66) (.tmp 71) 26 3 (.int .i64 0) 8 rfl Try.underlying26 info3 rfl (by decide) (by omega) u4 x4_2 (rd t406 0) [.int .i64 (rd t406 0)] (fun k_ => some k_ ≠ (.slice (some ad409) t406.length co31 : Value).ownBlock) (fun _ => False) rfl rfl ?aP (fun _ hk => hk.elim) ?aF ?aO ?aB ?aS ?aL ?_; (case aP => exact rfl); (case aB => exact (by repeat (first | (with_reducible first | exact HB.out | apply below_alloc | apply pw_below_drewN | apply below_drew1) | exact HB.out))); (case aF => exact (fun k_ hk => Kd.fresh' (Kd.R_lt (by (with_reducible repeat (first | apply Kd.R_alloc | apply Kd.R_drewN | apply Kd.R_drew)); exact HO408.out)) k_ hk)); (case aO => exact (by (with_reducible repeat (first | apply Kd.R_alloc | apply Kd.R_drewN | apply Kd.R_drew)); exact Kd.R_mono HO_4.out (fun _ hk => hk.2))); (case aS => exact (below_size (by repeat (first | (with_reducible first | exact HB.out | apply below_alloc | apply pw_below_drewN | apply below_drew1) | exact HB.out)))); (case aL => have := LMc27.out; omega); intro v411 w32 ho hb hg hat; rw [← Ny410.out] at ho; have n0_ := Aside0.mk (Kd.R_over' (by (with_reducible repeat (first | apply Kd.R_alloc | apply Kd.R_drewN | apply Kd.R_drew)); exact HO_7.out) (Kd.R_typed (by (with_reducible repeat (first | apply Kd.R_alloc | apply Kd.R_drewN | apply Kd.R_drew)); exact HO_4.out)) (by decide) hg); have n1_ := Aside0.mk (Kd.R_after (ok := (fun _ => True)) (by (with_reducible repeat (first | apply Kd.R_alloc | apply Kd.R_drewN | apply Kd.R_drew)); exact HO408.out) hg hat); have n2_ := Aside0.mk (hb); have n3_ := Aside0.mk (ho); clear HO_7; clear HO408; clear HB; clear HO_4; have HO_7 := n0_; have HO408 := n1_; have HB := n2_; have HO412 := n3_; clear n0_ n1_ n2_ n3_; clear ho hb hg hat)); try go_wp2_with (first | ((with_reducible refine gate_store (t := 3) (p := 62) rfl ?_); (try (rw [drewN_self wr]; generalize hq_ : World.drewN wr _ = wr; have n0_ := Aside0.mk (Kd.R_at hq_ HO_4.out); have n1_ := Aside0.mk (Kd.R_at hq_ HO_7.out); have n2_ := Aside0.mk (below_at hq_ HB.out); clear hq_ HO_4 HO_7 HB; have HO_4 := n0_; have HO_7 := n1_; have HB := n2_; clear n0_ n1_ n2_; (try (have HX28 := Aside0.mk (show Kd.R k43 43 wr w.heap.size (fun _ => True) (.slice (some ⟨go22, 0, none⟩) x7_3.length co22) x7_3 from (by (with_reducible repeat (first | apply Kd.R_alloc | apply Kd.R_drewN | apply Kd.R_drew)); exact HO_7.out)))); (try (obtain ⟨ce28, hcl28, hM28, hcc28, hfr28⟩ := Kd.R_elem HX28.out z43 (x6_2 : Int) (of_decide_eq_true (by first | (with_reducible assumption) | assumption)) (by have h_ : (x6_2 : Int) < ((x7_3.length : Int) : Int) := of_decide_eq_true (by first | (with_reducible assumption) | assumption); first | exact h_ | (have e_ := (Kd.R_reads' HO_7.out).1; omega) | simpa using h_))); (try (obtain rfl := k43_openM hM28)); (try (have HP28 := Kd.R_seg HX28.out (x6_2 : Int) (of_decide_eq_true (by first | (with_reducible assumption) | assumption)) (by have h_ : (x6_2 : Int) < ((x7_3.length : Int) : Int) := of_decide_eq_true (by first | (with_reducible assumption) | assumption); first | exact h_ | (have e_ := (Kd.R_reads' HO_7.out).1; omega) | simpa using h_) (seg := [.int .i64 1]) (j := 1) hcl28 hcc28 (show 2 ≤ 2 from by decide) (x' := (⟨(rd_T43 x7_3 x6_2).f0, 1⟩ : S43)) (k43_mkM _ _ _ (⟨(rd_T43 x7_3 x6_2).f0, 1⟩ : S43) ) (fun _ hk => hk))); (try (have hx28_1 := hcc28 1 _ rfl)); (try (try simp only [show (k43).sz = 2 from rfl, Nat.mul_one, Nat.add_zero] at hx28_1)); (try (have hf28_1 := hfr28 1)); (try (try simp only [show (k43).sz = 2 from rfl, Nat.mul_one, Nat.add_zero] at hf28_1)); (try (clear hcl28 hcc28 hfr28 hM28)))); refine store_event (t := 3) (p := 62) (v := ?vo_w29) (w1 := (wr.setCell ⟨go22, (x6_2 : Int).toNat * 2 + 1, none⟩ (.int .i64 1))) ?hg ?ho ?hn ?hr ?_; (case ho => rfl); (case hg => rfl); (case hn => rfl); (case hr => first | (go_simp; done) | (go_simp; rfl)); intro w29 hw; have hg : wr.grownBy w29 (some go22) := (by rw [hw]; exact HP28.2); have hp_ : Kd.R k43 43 w29 w.heap.size (fun _ => True) (.slice (some ⟨go22, 0, none⟩) x7_3.length co22) y404 := (by rw [hw, Ny404.out]; exact HP28.1); clear HP28; have n0_ := Aside0.mk (Kd.R_over' (v := (.slice (some ⟨go22, 0, none⟩) x7_3.length co22)) (by (with_reducible repeat (first | apply Kd.R_alloc | apply Kd.R_drewN | apply Kd.R_drew)); exact HO_4.out) (Kd.R_typed HO_7.out) (by decide) hg); have n1_ := Aside0.mk (hp_); have n2_ := Aside0.mk ((by rw [hw]; exact below_set (HB.out) GB22.out : Below w.heap.size w w29)); clear HO_4; clear HO_7; clear HB; have HO_4 := n0_; have HO_7 := n1_; have HB := n2_; clear n0_ n1_ n2_; clear hg hw hp_) | (go_at_call 66; refine calls_of_args (args' := #[.slice (some ⟨go22, 0, none⟩) y404.length co22]) (by first | (rw [show y404.length = x7_3.length from (Kd.R_reads' HO_7.out).1.symm] <;> rfl) | rfl) ?_; (with_reducible refine (verditerref08_Validate.calls k3 _ _ y404 t405 _ ?side1 ?side2 A23.out).mono ?_); (case side1 => repeat (first | exact (Kd.R_reads' HO_7.out).2.2 | (with_reducible refine Kd.C_alloc ?_ _) | (with_reducible refine Kd.C_drewN ?_ _) | (with_reducible refine Kd.C_drew ?_))); (case side2 => rw [show y404.length = x7_3.length from (Kd.R_reads' HO_7.out).1.symm]; exact (Kd.R_reads' HO_7.out).2.1); rintro e w' ⟨rfl, ⟨nd, rfl⟩⟩; (try first | exact ⟨rfl, _, World.drewN_drewN _ _ _⟩ | exact ⟨rfl, _, Eq.trans (World.drewN_drewN _ _ _) (congrArg (World.drewN _) (Nat.add_assoc _ _ _))⟩)) | (go_at_call 76; refine calls_of_args (args' := #[.slice (some ⟨go22, 0, none⟩) y404.length co22]) (by first | (rw [show y404.length = x7_3.length from (Kd.R_reads' HO_7.out).1.symm] <;> rfl) | rfl) ?_; (with_reducible refine (verditerref08_through.calls k3 _ _ y404 t406 _ ?side1 ?side2 A25.out).mono ?_); (case side1 => repeat (first | exact (Kd.R_reads' HO_7.out).2.2 | (with_reducible refine Kd.C_alloc ?_ _) | (with_reducible refine Kd.C_drewN ?_ _) | (with_reducible refine Kd.C_drew ?_))); (case side2 => rw [show y404.length = x7_3.length from (Kd.R_reads' HO_7.out).1.symm]; exact (Kd.R_reads' HO_7.out).2.1); rintro e w30 ⟨v407, rfl, ho0, hb⟩; have n0_ := Aside0.mk (Kd.R_elder' (by (with_reducible repeat (first | apply Kd.R_alloc | apply Kd.R_drewN | apply Kd.R_drew)); exact HO_4.out) (Kd.R_base ho0) hb); have n1_ := Aside0.mk (Kd.R_below (by (with_reducible repeat (first | apply Kd.R_alloc | apply Kd.R_drewN | apply Kd.R_drew)); exact HO_7.out) hb); have n2_ := Aside0.mk (Kd.R_lower (Kd.R_new' ho0 (Kd.R_lt (by (with_reducible repeat (first | apply Kd.R_alloc | apply Kd.R_drewN | apply Kd.R_drew)); exact HO_4.out))) (below_size (by repeat (first | (with_reducible first | exact HB.out | apply below_alloc | apply pw_below_drewN | apply below_drew1) | exact HB.out)))); have n3_ := Aside0.mk (below_step (by repeat (first | (with_reducible first | exact HB.out | apply below_alloc | apply pw_below_drewN | apply below_drew1) | exact HB.out)) hb); clear HO_4; clear HO_7; clear HB; have HO_4 := n0_; have HO_7 := n1_; have HO408 := n2_; have HB := n3_; clear n0_ n1_ n2_ n3_; (try clear hb); (try clear hb2); (try clear hk); (try clear hi); (try clear ho0); obtain ⟨Ao31, co31, eo31⟩ := Kd.R_slice HO408.out; subst eo31; have p409 : 0 ≤ (0 : Int) := (by omega); have q409 : 0 < (t406.length : Int) := of_decide_eq_true (by first | (with_reducible assumption) | assumption); obtain ⟨ad409, e409, hx409_0⟩ := Kd.at_int (Kd.R_reads' HO408.out).2.2 0 p409 q409; cases e409; have qi409 : (0 < t406.length) = True := eq_true (by omega); (try rw [show ((0 : Int)).toNat = 0 from rfl] at hx409_0); (try rw [Addr.add_zero'] at hx409_0); replace p409 := eq_true p409; replace q409 := eq_true q409) | ((with_reducible refine gate_builtin (b := .append) (xs := #[.tmp 66, .tmp 71]) rfl ?_); at_builtin; refine Kd.R_append (Kd.int .i64) (w0 := w) w.heap.size rfl (.tmp 66) (.tmp 71) 26 3 (.int .i64 0) 8 rfl Try.underlying26 info3 rfl (by decide) (by omega) u4 x4_2 (rd t406 0) [.int .i64 (rd t406 0)] (fun k_ => some k_ ≠ (.slice (some ad409) t406.length co31 : Value).ownBlock) (fun _ => False) rfl rfl ?aP (fun _ hk => hk.elim) ?aF ?aO ?aB ?aS ?aL ?_; (case aP => exact rfl); (case aB => exact (by repeat (first | (with_reducible first | exact HB.out | apply below_alloc | apply pw_below_drewN | apply below_drew1) | exact HB.out))); (case aF => exact (fun k_ hk => Kd.fresh' (Kd.R_lt (by (with_reducible repeat (first | apply Kd.R_alloc | apply Kd.R_drewN | apply Kd.R_drew)); exact HO408.out)) k_ hk)); (case aO => exact (by (with_reducible repeat (first | apply Kd.R_alloc | apply Kd.R_drewN | apply Kd.R_drew)); exact Kd.R_mono HO_4.out (fun _ hk => hk.2))); (case aS => exact (below_size (by repeat (first | (with_reducible first | exact HB.out | apply below_alloc | apply pw_below_drewN | apply below_drew1) | exact HB.out)))); (case aL => have := LMc27.out; omega); intro v411 w32 ho hb hg hat; rw [← Ny410.out] at ho; have n0_ := Aside0.mk (Kd.R_over' (by (with_reducible repeat (first | apply Kd.R_alloc | apply Kd.R_drewN | apply Kd.R_drew)); exact HO_7.out) (Kd.R_typed (by (with_reducible repeat (first | apply Kd.R_alloc | apply Kd.R_drewN | apply Kd.R_drew)); exact HO_4.out)) (by decide) hg); have n1_ := Aside0.mk (Kd.R_after (ok := (fun _ => True)) (by (with_reducible repeat (first | apply Kd.R_alloc | apply Kd.R_drewN | apply Kd.R_drew)); exact HO408.out) hg hat); have n2_ := Aside0.mk (hb); have n3_ := Aside0.mk (ho); clear HO_7; clear HO408; clear HB; clear HO_4; have HO_7 := n0_; have HO408 := n1_; have HB := n2_; have HO412 := n3_; clear n0_ n1_ n2_ n3_; clear ho hb hg hat)))
                                go_roundg k3
                                case measure => have := HK1.out; have := HK2.out; have := HK3.out; omega
                                case rel => exact ⟨(y410), (wrap64 (x6_2 + 1)), (by first | rfl | (simp; done) | (simp [*]; done)), H', ⟨by have := HK1.out; have := HK2.out; have := HK3.out; omega⟩, ⟨by (with_reducible repeat (first | apply Kd.R_alloc | apply Kd.R_drewN | apply Kd.R_drew)); exact Kd.R_mono HO412.out (fun _ hk => trivial)⟩, ⟨by repeat (first | (with_reducible first | exact HB.out | apply below_alloc | apply pw_below_drewN | apply below_drew1) | exact HB.out)⟩⟩
                              · rw [if_neg c27] at H
                                exact absurd H (by simp)
                            · rw [if_neg c26] at H
                              exact absurd H (by simp)
                          · rw [if_neg c24] at H
                            have c24b0 : (t405 == 0) = false := beq_eq_false_iff_ne.mpr c24
                            have c24b1 : (t405 != 0) = true := bne_iff_ne.mpr c24
                            simp only [Option.some.injEq, Prod.mk.injEq] at H
                            obtain ⟨rfl, rfl⟩ := H
                            have p22 : 0 ≤ (x6_2 : Int) := of_decide_eq_true (by first | (with_reducible assumption) | assumption)
                            have q22 : (x6_2 : Int) < ((x7_3.length : Int) : Int) := of_decide_eq_true (by first | (with_reducible assumption) | assumption)
                            obtain ⟨go22, co22, eo22, gb22, gl22, cl22, HG22⟩ := Kd.R_form HO_7.out (by omega)
                            (first | cases eo22 | (injection eo22 with ea_ en_ ec_; (first | subst ea_ | (injection ea_ with ea_; subst ea_)); subst ec_; clear en_))
                            have GB22 := Aside0.mk gb22
                            have GG22 := Aside0.mk HG22
                            clear gb22 gl22 HG22
                            obtain ⟨ce22, hcl22, hM22, hcc22, hfr22⟩ := Kd.R_elem HO_7.out z43 (x6_2 : Int) p22 q22
                            obtain rfl := k43_openM hM22
                            have hx22_0 : wr.cell? ⟨go22, (x6_2 : Int).toNat * 2, none⟩ = some (.int .i64 ((rd_T43 x7_3 x6_2).f0)) := hcc22 0 _ rfl
                            have hx22_1 : wr.cell? ⟨go22, (x6_2 : Int).toNat * 2 + 1, none⟩ = some (.int .i64 ((rd_T43 x7_3 x6_2).f1)) := hcc22 1 _ rfl
                            have hf22_0 : wr.frozen? ⟨go22, (x6_2 : Int).toNat * 2, none⟩ = false := hfr22 0
                            have hf22_1 : wr.frozen? ⟨go22, (x6_2 : Int).toNat * 2 + 1, none⟩ = false := hfr22 1
                            clear hcl22 hcc22 hfr22 hM22
                            replace p22 := eq_true p22
                            replace q22 := eq_true q22
                            have HX33 := Aside0.mk (show Kd.R k43 43 wr w.heap.size (fun _ => True) (.slice (some ⟨go22, 0, none⟩) x7_3.length co22) x7_3 from (by (with_reducible repeat (first | apply Kd.R_alloc | apply Kd.R_drewN | apply Kd.R_drew)); exact HO_7.out))
                            obtain ⟨ce33, hcl33, hM33, hcc33, hfr33⟩ := Kd.R_elem HX33.out z43 (x6_2 : Int) (of_decide_eq_true (by first | (with_reducible assumption) | assumption)) (by have h_ : (x6_2 : Int) < ((x7_3.length : Int) : Int) := of_decide_eq_true (by first | (with_reducible assumption) | assumption); first | exact h_ | (have e_ := (Kd.R_reads' HO_7.out).1; omega) | simpa using h_)
                            obtain rfl := k43_openM hM33
                            have HP33 := Kd.R_seg HX33.out (x6_2 : Int) (of_decide_eq_true (by first | (with_reducible assumption) | assumption)) (by have h_ : (x6_2 : Int) < ((x7_3.length : Int) : Int) := of_decide_eq_true (by first | (with_reducible assumption) | assumption); first | exact h_ | (have e_ := (Kd.R_reads' HO_7.out).1; omega) | simpa using h_) (seg := [.int .i64 1]) (j := 1) hcl33 hcc33 (show 2 ≤ 2 from by decide) (x' := (⟨(rd_T43 x7_3 x6_2).f0, 1⟩ : S43)) (k43_mkM _ _ _ (⟨(rd_T43 x7_3 x6_2).f0, 1⟩ : S43) ) (fun _ hk => hk)
                            have hx33_1 := hcc33 1 _ rfl
                            (try simp only [show (k43).sz = 2 from rfl, Nat.mul_one, Nat.add_zero] at hx33_1)
                            have hf33_1 := hfr33 1
                            (try simp only [show (k43).sz = 2 from rfl, Nat.mul_one, Nat.add_zero] at hf33_1)
                            clear hcl33 hcc33 hfr33 hM33
                            go_wp2_with (first | ((with_reducible refine gate_store (t := 3) (p := 62) rfl ?_); (try (rw [drewN_self wr]; generalize hq_ : World.drewN wr _ = wr; have n0_ := Aside0.mk (Kd.R_at hq_ HO_4.out); have n1_ := Aside0.mk (Kd.R_at hq_ HO_7.out); have n2_ := Aside0.mk (below_at hq_ HB.out); clear hq_ HO_4 HO_7 HB; have HO_4 := n0_; have HO_7 := n1_; have HB := n2_; clear n0_ n1_ n2_; (try (have HX33 := Aside0.mk (show Kd.R k43 43 wr w.heap.size (fun _ => True) (.slice (some ⟨go22, 0, none⟩) x7_3.length co22) x7_3 from (by (with_reducible repeat (first | apply Kd.R_alloc | apply Kd.R_drewN | apply Kd.R_drew)); exact HO_7.out)))); (try (obtain ⟨ce33, hcl33, hM33, hcc33, hfr33⟩ := Kd.R_elem HX33.out z43 (x6_2 : Int) (of_decide_eq_true (by first | (with_reducible assumption) | assumption)) (by have h_ : (x6_2 : Int) < ((x7_3.length : Int) : Int) := of_decide_eq_true (by first | (with_reducible assumption) | assumption); first | exact h_ | (have e_ := (Kd.R_reads' HO_7.out).1; omega) | simpa using h_))); (try (obtain rfl := k43_openM hM33)); (try (have HP33 := Kd.R_seg HX33.out (x6_2 : Int) (of_decide_eq_true (by first | (with_reducible assumption) | assumption)) (by have h_ : (x6_2 : Int) < ((x7_3.length : Int) : Int) := of_decide_eq_true (by first | (with_reducible assumption) | assumption); first | exact h_ | (have e_ := (Kd.R_reads' HO_7.out).1; omega) | simpa using h_) (seg := [.int .i64 1]) (j := 1) hcl33 hcc33 (show 2 ≤ 2 from by decide) (x' := (⟨(rd_T43 x7_3 x6_2).f0, 1⟩ : S43)) (k43_mkM _ _ _ (⟨(rd_T43 x7_3 x6_2).f0, 1⟩ : S43) ) (fun _ hk => hk))); (try (have hx33_1 := hcc33 1 _ rfl)); (try (try simp only [show (k43).sz = 2 from rfl, Nat.mul_one, Nat.add_zero] at hx33_1)); (try (have hf33_1 := hfr33 1)); (try (try simp only [show (k43).sz = 2 from rfl, Nat.mul_one, Nat.add_zero] at hf33_1)); (try (clear hcl33 hcc33 hfr33 hM33)))); refine store_event (t := 3) (p := 62) (v := ?vo_w34) (w1 := (wr.setCell ⟨go22, (x6_2 : Int).toNat * 2 + 1, none⟩ (.int .i64 1))) ?hg ?ho ?hn ?hr ?_; (case ho => rfl); (case hg => rfl); (case hn => rfl); (case hr => first | (go_simp; done) | (go_simp; rfl)); intro w34 hw; have hg : wr.grownBy w34 (some go22) := (by rw [hw]; exact HP33.2); have hp_ : Kd.R k43 43 w34 w.heap.size (fun _ => True) (.slice (some ⟨go22, 0, none⟩) x7_3.length co22) y404 := (by rw [hw, Ny404.out]; exact HP33.1); clear HP33; have n0_ := Aside0.mk (Kd.R_over' (v := (.slice (some ⟨go22, 0, none⟩) x7_3.length co22)) (by (with_reducible repeat (first | apply Kd.R_alloc | apply Kd.R_drewN | apply Kd.R_drew)); exact HO_4.out) (Kd.R_typed HO_7.out) (by decide) hg); have n1_ := Aside0.mk (hp_); have n2_ := Aside0.mk ((by rw [hw]; exact below_set (HB.out) GB22.out : Below w.heap.size w w34)); clear HO_4; clear HO_7; clear HB; have HO_4 := n0_; have HO_7 := n1_; have HB := n2_; clear n0_ n1_ n2_; clear hg hw hp_) | (go_at_call 66; refine calls_of_args (args' := #[.slice (some ⟨go22, 0, none⟩) y404.length co22]) (by first | (rw [show y404.length = x7_3.length from (Kd.R_reads' HO_7.out).1.symm] <;> rfl) | rfl) ?_; (with_reducible refine (verditerref08_Validate.calls k3 _ _ y404 t405 _ ?side1 ?side2 A23.out).mono ?_); (case side1 => repeat (first | exact (Kd.R_reads' HO_7.out).2.2 | (with_reducible refine Kd.C_alloc ?_ _) | (with_reducible refine Kd.C_drewN ?_ _) | (with_reducible refine Kd.C_drew ?_))); (case side2 => rw [show y404.length = x7_3.length from (Kd.R_reads' HO_7.out).1.symm]; exact (Kd.R_reads' HO_7.out).2.1); rintro e w' ⟨rfl, ⟨nd, rfl⟩⟩; (try first | exact ⟨rfl, _, World.drewN_drewN _ _ _⟩ | exact ⟨rfl, _, Eq.trans (World.drewN_drewN _ _ _) (congrArg (World.drewN _) (Nat.add_assoc _ _ _))⟩)))
                            repeat (go_quiet (first | ((with_reducible refine gate_store (t := 3) (p := 62) rfl ?_); (try (rw [drewN_self wr]; generalize hq_ : World.drewN wr _ = wr; have n0_ := Aside0.mk (Kd.R_at hq_ HO_4.out); have n1_ := Aside0.mk (Kd.R_at hq_ HO_7.out); have n2_ := Aside0.mk (below_at hq_ HB.out); clear hq_ HO_4 HO_7 HB; have HO_4 := n0_; have HO_7 := n1_; have HB := n2_; clear n0_ n1_ n2_; (try (have HX33 := Aside0.mk (show Kd.R k43 43 wr w.heap.size (fun _ => True) (.slice (some ⟨go22, 0, none⟩) x7_3.length co22) x7_3 from (by (with_reducible repeat (first | apply Kd.R_alloc | apply Kd.R_drewN | apply Kd.R_drew)); exact HO_7.out)))); (try (obtain ⟨ce33, hcl33, hM33, hcc33, hfr33⟩ := Kd.R_elem HX33.out z43 (x6_2 : Int) (of_decide_eq_true (by first | (with_reducible assumption) | assumption)) (by have h_ : (x6_2 : Int) < ((x7_3.length : Int) : Int) := of_decide_eq_true (by first | (with_reducible assumption) | assumption); first | exact h_ | (have e_ := (Kd.R_reads' HO_7.out).1; omega) | simpa using h_))); (try (obtain rfl := k43_openM hM33)); (try (have HP33 := Kd.R_seg HX33.out (x6_2 : Int) (of_decide_eq_true (by first | (with_reducible assumption) | assumption)) (by have h_ : (x6_2 : Int) < ((x7_3.length : Int) : Int) := of_decide_eq_true (by first | (with_reducible assumption) | assumption); first | exact h_ | (have e_ := (Kd.R_reads' HO_7.out).1; omega) | simpa using h_) (seg := [.int .i64 1]) (j := 1) hcl33 hcc33 (show 2 ≤ 2 from by decide) (x' := (⟨(rd_T43 x7_3 x6_2).f0, 1⟩ : S43)) (k43_mkM _ _ _ (⟨(rd_T43 x7_3 x6_2).f0, 1⟩ : S43) ) (fun _ hk => hk))); (try (have hx33_1 := hcc33 1 _ rfl)); (try (try simp only [show (k43).sz = 2 from rfl, Nat.mul_one, Nat.add_zero] at hx33_1)); (try (have hf33_1 := hfr33 1)); (try (try simp only [show (k43).sz = 2 from rfl, Nat.mul_one, Nat.add_zero] at hf33_1)); (try (clear hcl33 hcc33 hfr33 hM33)))); refine store_event (t := 3) (p := 62) (v := ?vo_w34) (w1 := (wr.setCell ⟨go22, (x6_2 : Int).toNat * 2 + 1, none⟩ (.int .i64 1))) ?hg ?ho ?hn ?hr ?_; (case ho => rfl); (case hg => rfl); (case hn => rfl); (case hr => first | (go_simp; done) | (go_simp; rfl)); intro w34 hw; have hg : wr.grownBy w34 (some go22) := (by rw [hw]; exact HP33.2); have hp_ : Kd.R k43 43 w34 w.heap.size (fun _ => True) (.slice (some ⟨go22, 0, none⟩) x7_3.length co22) y404 := (by rw [hw, Ny404.out]; exact HP33.1); clear HP33; have n0_ := Aside0.mk (Kd.R_over' (v := (.slice (some ⟨go22, 0, none⟩) x7_3.length co22)) (by (with_reducible repeat (first | apply Kd.R_alloc | apply Kd.R_drewN | apply Kd.R_drew)); exact HO_4.out) (Kd.R_typed HO_7.out) (by decide) hg); have n1_ := Aside0.mk (hp_); have n2_ := Aside0.mk ((by rw [hw]; exact below_set (HB.out) GB22.out : Below w.heap.size w w34)); clear HO_4; clear HO_7; clear HB; have HO_4 := n0_; have HO_7 := n1_; have HB := n2_; clear n0_ n1_ n2_; clear hg hw hp_) | (go_at_call 66; refine calls_of_args (args' := #[.slice (some ⟨go22, 0, none⟩) y404.length co22]) (by first | (rw [show y404.length = x7_3.length from (Kd.R_reads' HO_7.out).1.symm] <;> rfl) | rfl) ?_; (with_reducible refine (verditerref08_Validate.calls k3 _ _ y404 t405 _ ?side1 ?side2 A23.out).mono ?_); (case side1 => repeat (first | exact (Kd.R_reads' HO_7.out).2.2 | (with_reducible refine Kd.C_alloc ?_ _) | (with_reducible refine Kd.C_drewN ?_ _) | (with_reducible refine Kd.C_drew ?_))); (case side2 => rw [show y404.length = x7_3.length from (Kd.R_reads' HO_7.out).1.symm]; exact (Kd.R_reads' HO_7.out).2.1); rintro e w' ⟨rfl, ⟨nd, rfl⟩⟩; (try first | exact ⟨rfl, _, World.drewN_drewN _ _ _⟩ | exact ⟨rfl, _, Eq.trans (World.drewN_drewN _ _ _) (congrArg (World.drewN _) (Nat.add_assoc _ _ _))⟩))); try go_wp2_with (first | ((with_reducible refine gate_store (t := 3) (p := 62) rfl ?_); (try (rw [drewN_self wr]; generalize hq_ : World.drewN wr _ = wr; have n0_ := Aside0.mk (Kd.R_at hq_ HO_4.out); have n1_ := Aside0.mk (Kd.R_at hq_ HO_7.out); have n2_ := Aside0.mk (below_at hq_ HB.out); clear hq_ HO_4 HO_7 HB; have HO_4 := n0_; have HO_7 := n1_; have HB := n2_; clear n0_ n1_ n2_; (try (have HX33 := Aside0.mk (show Kd.R k43 43 wr w.heap.size (fun _ => True) (.slice (some ⟨go22, 0, none⟩) x7_3.length co22) x7_3 from (by (with_reducible repeat (first | apply Kd.R_alloc | apply Kd.R_drewN | apply Kd.R_drew)); exact HO_7.out)))); (try (obtain ⟨ce33, hcl33, hM33, hcc33, hfr33⟩ := Kd.R_elem HX33.out z43 (x6_2 : Int) (of_decide_eq_true (by first | (with_reducible assumption) | assumption)) (by have h_ : (x6_2 : Int) < ((x7_3.length : Int) : Int) := of_decide_eq_true (by first | (with_reducible assumption) | assumption); first | exact h_ | (have e_ := (Kd.R_reads' HO_7.out).1; omega) | simpa using h_))); (try (obtain rfl := k43_openM hM33)); (try (have HP33 := Kd.R_seg HX33.out (x6_2 : Int) (of_decide_eq_true (by first | (with_reducible assumption) | assumption)) (by have h_ : (x6_2 : Int) < ((x7_3.length : Int) : Int) := of_decide_eq_true (by first | (with_reducible assumption) | assumption); first | exact h_ | (have e_ := (Kd.R_reads' HO_7.out).1; omega) | simpa using h_) (seg := [.int .i64 1]) (j := 1) hcl33 hcc33 (show 2 ≤ 2 from by decide) (x' := (⟨(rd_T43 x7_3 x6_2).f0, 1⟩ : S43)) (k43_mkM _ _ _ (⟨(rd_T43 x7_3 x6_2).f0, 1⟩ : S43) ) (fun _ hk => hk))); (try (have hx33_1 := hcc33 1 _ rfl)); (try (try simp only [show (k43).sz = 2 from rfl, Nat.mul_one, Nat.add_zero] at hx33_1)); (try (have hf33_1 := hfr33 1)); (try (try simp only [show (k43).sz = 2 from rfl, Nat.mul_one, Nat.add_zero] at hf33_1)); (try (clear hcl33 hcc33 hfr33 hM33)))); refine store_event (t := 3) (p := 62) (v := ?vo_w34) (w1 := (wr.setCell ⟨go22, (x6_2 : Int).toNat * 2 + 1, none⟩ (.int .i64 1))) ?hg ?ho ?hn ?hr ?_; (case ho => rfl); (case hg => rfl); (case hn => rfl); (case hr => first | (go_simp; done) | (go_simp; rfl)); intro w34 hw; have hg : wr.grownBy w34 (some go22) := (by rw [hw]; exact HP33.2); have hp_ : Kd.R k43 43 w34 w.heap.size (fun _ => True) (.slice (some ⟨go22, 0, none⟩) x7_3.length co22) y404 := (by rw [hw, Ny404.out]; exact HP33.1); clear HP33; have n0_ := Aside0.mk (Kd.R_over' (v := (.slice (some ⟨go22, 0, none⟩) x7_3.length co22)) (by (with_reducible repeat (first | apply Kd.R_alloc | apply Kd.R_drewN | apply Kd.R_drew)); exact HO_4.out) (Kd.R_typed HO_7.out) (by decide) hg); have n1_ := Aside0.mk (hp_); have n2_ := Aside0.mk ((by rw [hw]; exact below_set (HB.out) GB22.out : Below w.heap.size w w34)); clear HO_4; clear HO_7; clear HB; have HO_4 := n0_; have HO_7 := n1_; have HB := n2_; clear n0_ n1_ n2_; clear hg hw hp_) | (go_at_call 66; refine calls_of_args (args' := #[.slice (some ⟨go22, 0, none⟩) y404.length co22]) (by first | (rw [show y404.length = x7_3.length from (Kd.R_reads' HO_7.out).1.symm] <;> rfl) | rfl) ?_; (with_reducible refine (verditerref08_Validate.calls k3 _ _ y404 t405 _ ?side1 ?side2 A23.out).mono ?_); (case side1 => repeat (first | exact (Kd.R_reads' HO_7.out).2.2 | (with_reducible refine Kd.C_alloc ?_ _) | (with_reducible refine Kd.C_drewN ?_ _) | (with_reducible refine Kd.C_drew ?_))); (case side2 => rw [show y404.length = x7_3.length from (Kd.R_reads' HO_7.out).1.symm]; exact (Kd.R_reads' HO_7.out).2.1); rintro e w' ⟨rfl, ⟨nd, rfl⟩⟩; (try first | exact ⟨rfl, _, World.drewN_drewN _ _ _⟩ | exact ⟨rfl, _, Eq.trans (World.drewN_drewN _ _ _) (congrArg (World.drewN _) (Nat.add_assoc _ _ _))⟩))))
                            go_ret2
                            exact ⟨_, by first | rfl | (simp [errW_none, errW_some] <;> rfl) | (simp [*, errW_none, errW_some] <;> rfl), by first | exact Kd.R_nil _ _ _ _ _ | exact Kd.N_nil _ _ _ _ _ | exact Kd.V_nil _ _ _ _ _ | exact Kd.Q_nil _ _ _ _ _ | exact Kd.S_nil _ _ _ _ _, by repeat (first | (with_reducible first | exact HB.out | apply below_alloc | apply pw_below_drewN | apply below_drew1) | exact HB.out)⟩
                        · rw [if_neg c21] at H
                          exact absurd H (by simp)
                      · rw [if_neg c20] at H
                        exact absurd H (by simp)
              · rw [if_neg c8] at H
                have c8b0 : decide (x6_2 < (l0.length : Int)) = false := decide_eq_false c8
                clear c8
                simp only [Option.some.injEq, Prod.mk.injEq] at H
                obtain ⟨rfl, rfl⟩ := H
                go_wp2
                repeat (go_quiet (fail); try go_wp2)
                go_ret2
                exact ⟨_, by first | rfl | (simp [errW_none, errW_some] <;> rfl) | (simp [*, errW_none, errW_some] <;> rfl), by (with_reducible repeat (first | apply Kd.R_alloc | apply Kd.R_drewN | apply Kd.R_drew)); exact HO_4.out, by repeat (first | (with_reducible first | exact HB.out | apply below_alloc | apply pw_below_drewN | apply below_drew1) | exact HB.out)⟩
  · replace c3 := Bool.eq_false_iff.mpr c3
    subst c3
    have H1 : (some (([] : List Int), 3)) = some (r1, r2) := by rw [if_neg (show ¬ (false = true) by decide)] at H; exact H
    clear H
    have H := H1
    clear H1
    simp only [Option.some.injEq, Prod.mk.injEq] at H
    obtain ⟨rfl, rfl⟩ := H
    go_enter Try.func60, Try.ntmps60
    go_wp2_with (first | (go_at_call 83; (with_reducible refine (verditerref08_within.calls (l0.length : Int) 1 6 false _ A2.out).mono ?_); rintro e w' ⟨rfl, ⟨nd, rfl⟩⟩; (try first | exact ⟨rfl, _, World.drewN_drewN _ _ _⟩ | exact ⟨rfl, _, Eq.trans (World.drewN_drewN _ _ _) (congrArg (World.drewN _) (Nat.add_assoc _ _ _))⟩)))
    repeat (go_quiet (first | (go_at_call 83; (with_reducible refine (verditerref08_within.calls (l0.length : Int) 1 6 false _ A2.out).mono ?_); rintro e w' ⟨rfl, ⟨nd, rfl⟩⟩; (try first | exact ⟨rfl, _, World.drewN_drewN _ _ _⟩ | exact ⟨rfl, _, Eq.trans (World.drewN_drewN _ _ _) (congrArg (World.drewN _) (Nat.add_assoc _ _ _))⟩))); try go_wp2_with (first | (go_at_call 83; (with_reducible refine (verditerref08_within.calls (l0.length : Int) 1 6 false _ A2.out).mono ?_); rintro e w' ⟨rfl, ⟨nd, rfl⟩⟩; (try first | exact ⟨rfl, _, World.drewN_drewN _ _ _⟩ | exact ⟨rfl, _, Eq.trans (World.drewN_drewN _ _ _) (congrArg (World.drewN _) (Nat.add_assoc _ _ _))⟩))))
    go_ret2
    exact ⟨_, by first | rfl | (simp [errW_none, errW_some] <;> rfl) | (simp [*, errW_none, errW_some] <;> rfl), by first | exact Kd.R_nil _ _ _ _ _ | exact Kd.N_nil _ _ _ _ _ | exact Kd.V_nil _ _ _ _ _ | exact Kd.Q_nil _ _ _ _ _ | exact Kd.S_nil _ _ _ _ _, by repeat (first | (with_reducible first | exact HB.out | apply below_alloc | apply pw_below_drewN | apply below_drew1) | exact HB.out)⟩

end Go.Proofs.Ythlbjdiicmojfaa.P
