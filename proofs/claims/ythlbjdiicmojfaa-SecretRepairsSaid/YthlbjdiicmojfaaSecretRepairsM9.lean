/- Parts of the proof of the law SecretRepairs: walks of functions that it reaches, and plain facts about numbers, lists and curves; without a condition. -/
import Derived.Test.YthlbjdiicmojfaaSecretRepairsM1
import Derived.Test.YthlbjdiicmojfaaSecretRepairsM4
import Derived.Test.YthlbjdiicmojfaaSecretRepairsM5
import Derived.Test.YthlbjdiicmojfaaSecretRepairsM2
import Derived.Test.YthlbjdiicmojfaaSecretRepairsM8
import Derived.Test.YthlbjdiicmojfaaSecretRepairsM6
import Derived.Test.YthlbjdiicmojfaaSecretRepairsM7
/-! Part PF63. -/
-- Written for this claim by wip/print_more.py (a session's program that runs the kit's printer with hand-proved functions beside). Lean checks it.
namespace Go.Proofs.Ythlbjdiicmojfaa.P
open Go.RowKit Go.Proofs.YthlbjdiicmojfaaW.PrintWords Go.Proofs.YthlbjdiicmojfaaW.PrintLast Go.Proofs.YthlbjdiicmojfaaW.PrintMore
attribute [local go_sem] max2_int min2_int max_two min_two max_three min_three max_four min_four   -- for this text's walks alone
set_option linter.unusedVariables false
set_option linter.unusedSimpArgs false

/-! ### verditerref08_Curve: function 63 -/
def verditerref08_Curve.f (k : Nat) (l0 : List (S43)) : Option (List Int × Int) := (verditerref08_Validate.f k l0).bind fun t265 => (if t265 = 0 then (if (l0.length : Int) = 0 then (some (([] : List Int), 4)) else (if (l0.length : Int) > 6 then (some (([] : List Int), 3)) else ((verditerref08_through.f k l0).bind fun t266 => (some (t266, 0))))) else (some (([] : List Int), t265)))
theorem verditerref08_Curve.mono : ∀ a0 k, LeO (verditerref08_Curve.f k a0) (verditerref08_Curve.f (k + 1) a0) := by
  intro a0 k
  unfold verditerref08_Curve.f
  repeat' first
      | (with_reducible exact verditerref08_Validate.mono _ _)
      | (with_reducible exact verditerref08_through.mono _ _)
      | (with_reducible exact LeO.refl _)
      | (with_reducible exact LeO.none _)
      | (with_reducible refine LeO.ite ?_ ?_)
      | (with_reducible refine LeO.bind ?_ (fun _ => ?_))
      | exact verditerref08_Validate.mono _ _
      | exact verditerref08_through.mono _ _
      | exact LeO.none _
      | refine LeO.ite ?_ ?_
      | refine LeO.bind ?_ (fun _ => ?_)
set_option maxHeartbeats 8000000 in
set_option maxRecDepth 100000 in
theorem verditerref08_Curve.calls (k : Nat) (A0 : Option Addr) (c0 : Nat) (l0 : List (S43)) (r1 : List Int) (r2 : Int) (w : World) (hr0 : Kd.C k43 w A0 l0.length l0) (hc0 : l0.length ≤ c0) (h : verditerref08_Curve.f k l0 = some (r1, r2)) :
    Calls Try.prog 63 #[.slice A0 l0.length c0] w fun e w' => ∃ v0_ : Value, e = .returned (.tuple #[v0_, .int .i64 r2]) ∧ Kd.R (Kd.int .i64) 3 w' w.heap.size (fun _ => True) v0_ r1 ∧ Below w.heap.size w w' := by
  have HR0 := Aside0.mk hr0
  have HC0 := Aside0.mk hc0
  clear hr0 hc0
  have HB := Aside0.mk (Below.refl w.heap.size w)
  have H : ((verditerref08_Validate.f k l0).bind fun t265 => (if t265 = 0 then (if (l0.length : Int) = 0 then (some (([] : List Int), 4)) else (if (l0.length : Int) > 6 then (some (([] : List Int), 3)) else ((verditerref08_through.f k l0).bind fun t266 => (some (t266, 0))))) else (some (([] : List Int), t265)))) = some (r1, r2) := h
  clear h
  replace H := Option.bind_eq_some_iff.mp H
  obtain ⟨t265, A20, H⟩ := H
  replace H : (if t265 = 0 then (if (l0.length : Int) = 0 then (some (([] : List Int), 4)) else (if (l0.length : Int) > 6 then (some (([] : List Int), 3)) else ((verditerref08_through.f k l0).bind fun t266 => (some (t266, 0))))) else (some (([] : List Int), t265))) = some (r1, r2) := H
  have A2 := Aside0.mk A20
  clear A20
  by_cases c3 : t265 = 0
  · rw [if_pos c3] at H
    have c3b0 : (t265 == 0) = true := beq_iff_eq.mpr c3
    have c3b1 : (t265 != 0) = false := bne_eq_false_iff_eq.mpr c3
    clear c3
    by_cases c4 : (l0.length : Int) = 0
    · rw [if_pos c4] at H
      have c4b0 : ((l0.length : Int) == 0) = true := beq_iff_eq.mpr c4
      have c4b1 : ((l0.length : Int) != 0) = false := bne_eq_false_iff_eq.mpr c4
      clear c4
      simp only [Option.some.injEq, Prod.mk.injEq] at H
      obtain ⟨rfl, rfl⟩ := H
      go_enter Try.func63, Try.ntmps63
      go_wp2_with (first | ((with_reducible refine gate_callee (f := 66) rfl ?_); refine goesL_ (some 6) rfl rfl Try.func66 (by kernel_rfl) rfl #[.slice A0 l0.length c0] rfl (by (try simp only [List.map_toArray, List.map_cons, List.map_nil]); first | done | rfl | (simp only [List.length_drop, List.length_take]; rfl)) ?_; (with_reducible refine (verditerref08_Validate.calls k _ _ l0 t265 _ ?side1 ?side2 A2.out).mono ?_); (case side1 => repeat (first | exact HR0.out | (with_reducible refine Kd.C_alloc ?_ _) | (with_reducible refine Kd.C_drewN ?_ _) | (with_reducible refine Kd.C_drew ?_))); (case side2 => exact HC0.out); rintro e w' ⟨rfl, ⟨nd, rfl⟩⟩; refine ⟨_, rfl, ?_⟩))
      go_ret2
      exact ⟨_, by first | rfl | (simp [errW_none, errW_some] <;> rfl) | (simp [*, errW_none, errW_some] <;> rfl), by first | exact Kd.R_nil _ _ _ _ _ | exact Kd.N_nil _ _ _ _ _ | exact Kd.V_nil _ _ _ _ _ | exact Kd.Q_nil _ _ _ _ _ | exact Kd.S_nil _ _ _ _ _, by repeat (first | (with_reducible first | exact HB.out | apply below_alloc | apply pw_below_drewN | apply below_drew1) | exact HB.out)⟩
    · rw [if_neg c4] at H
      have c4b0 : ((l0.length : Int) == 0) = false := beq_eq_false_iff_ne.mpr c4
      have c4b1 : ((l0.length : Int) != 0) = true := bne_iff_ne.mpr c4
      have c4b2 : ¬ (l0 = []) := fun h_ => c4 (by rw [h_]; rfl)
      by_cases c5 : (l0.length : Int) > 6
      · rw [if_pos c5] at H
        have c5b0 : decide (6 < (l0.length : Int)) = true := decide_eq_true c5
        have c5b1 : decide (6 < l0.length) = true := decide_eq_true (by omega)
        clear c5
        simp only [Option.some.injEq, Prod.mk.injEq] at H
        obtain ⟨rfl, rfl⟩ := H
        go_enter Try.func63, Try.ntmps63
        go_wp2_with (first | ((with_reducible refine gate_callee (f := 66) rfl ?_); refine goesL_ (some 6) rfl rfl Try.func66 (by kernel_rfl) rfl #[.slice A0 l0.length c0] rfl (by (try simp only [List.map_toArray, List.map_cons, List.map_nil]); first | done | rfl | (simp only [List.length_drop, List.length_take]; rfl)) ?_; (with_reducible refine (verditerref08_Validate.calls k _ _ l0 t265 _ ?side1 ?side2 A2.out).mono ?_); (case side1 => repeat (first | exact HR0.out | (with_reducible refine Kd.C_alloc ?_ _) | (with_reducible refine Kd.C_drewN ?_ _) | (with_reducible refine Kd.C_drew ?_))); (case side2 => exact HC0.out); rintro e w' ⟨rfl, ⟨nd, rfl⟩⟩; refine ⟨_, rfl, ?_⟩))
        go_ret2
        exact ⟨_, by first | rfl | (simp [errW_none, errW_some] <;> rfl) | (simp [*, errW_none, errW_some] <;> rfl), by first | exact Kd.R_nil _ _ _ _ _ | exact Kd.N_nil _ _ _ _ _ | exact Kd.V_nil _ _ _ _ _ | exact Kd.Q_nil _ _ _ _ _ | exact Kd.S_nil _ _ _ _ _, by repeat (first | (with_reducible first | exact HB.out | apply below_alloc | apply pw_below_drewN | apply below_drew1) | exact HB.out)⟩
      · rw [if_neg c5] at H
        have c5b0 : decide (6 < (l0.length : Int)) = false := decide_eq_false c5
        have c5b1 : decide (6 < l0.length) = false := decide_eq_false (by omega)
        clear c5
        replace H := Option.bind_eq_some_iff.mp H
        obtain ⟨t266, A60, H⟩ := H
        replace H : (some (t266, 0)) = some (r1, r2) := H
        have A6 := Aside0.mk A60
        clear A60
        simp only [Option.some.injEq, Prod.mk.injEq] at H
        obtain ⟨rfl, rfl⟩ := H
        go_enter Try.func63, Try.ntmps63
        go_wp2_with (first | ((with_reducible refine gate_callee (f := 66) rfl ?_); refine goesL_ (some 6) rfl rfl Try.func66 (by kernel_rfl) rfl #[.slice A0 l0.length c0] rfl (by (try simp only [List.map_toArray, List.map_cons, List.map_nil]); first | done | rfl | (simp only [List.length_drop, List.length_take]; rfl)) ?_; (with_reducible refine (verditerref08_Validate.calls k _ _ l0 t265 _ ?side1 ?side2 A2.out).mono ?_); (case side1 => repeat (first | exact HR0.out | (with_reducible refine Kd.C_alloc ?_ _) | (with_reducible refine Kd.C_drewN ?_ _) | (with_reducible refine Kd.C_drew ?_))); (case side2 => exact HC0.out); rintro e w' ⟨rfl, ⟨nd, rfl⟩⟩; refine ⟨_, rfl, ?_⟩) | ((with_reducible refine gate_callee (f := 76) rfl ?_); refine goesL_ (some 17) rfl rfl Try.func76 (by kernel_rfl) rfl #[.slice A0 l0.length c0] rfl (by (try simp only [List.map_toArray, List.map_cons, List.map_nil]); first | done | rfl | (simp only [List.length_drop, List.length_take]; rfl)) ?_; (with_reducible refine (verditerref08_through.calls k _ _ l0 t266 _ ?side1 ?side2 A6.out).mono ?_); (case side1 => repeat (first | exact HR0.out | (with_reducible refine Kd.C_alloc ?_ _) | (with_reducible refine Kd.C_drewN ?_ _) | (with_reducible refine Kd.C_drew ?_))); (case side2 => exact HC0.out); rintro e w7 ⟨v267, rfl, ho0, hb⟩; refine ⟨_, rfl, ?_⟩; have n0_ := Aside0.mk (Kd.R_lower ho0 (below_size (by repeat (first | (with_reducible first | exact HB.out | apply below_alloc | apply pw_below_drewN | apply below_drew1) | exact HB.out)))); have n1_ := Aside0.mk (below_step (by repeat (first | (with_reducible first | exact HB.out | apply below_alloc | apply pw_below_drewN | apply below_drew1) | exact HB.out)) hb); clear HB; have HO268 := n0_; have HB := n1_; clear n0_ n1_; (try clear hb); (try clear hb2); (try clear hk); (try clear hi); (try clear ho0)))
        go_ret2
        exact ⟨_, by first | rfl | (simp [errW_none, errW_some] <;> rfl) | (simp [*, errW_none, errW_some] <;> rfl), by (with_reducible repeat (first | apply Kd.R_alloc | apply Kd.R_drewN | apply Kd.R_drew)); exact HO268.out, by repeat (first | (with_reducible first | exact HB.out | apply below_alloc | apply pw_below_drewN | apply below_drew1) | exact HB.out)⟩
  · rw [if_neg c3] at H
    have c3b0 : (t265 == 0) = false := beq_eq_false_iff_ne.mpr c3
    have c3b1 : (t265 != 0) = true := bne_iff_ne.mpr c3
    simp only [Option.some.injEq, Prod.mk.injEq] at H
    obtain ⟨rfl, rfl⟩ := H
    go_enter Try.func63, Try.ntmps63
    go_wp2_with (first | ((with_reducible refine gate_callee (f := 66) rfl ?_); refine goesL_ (some 6) rfl rfl Try.func66 (by kernel_rfl) rfl #[.slice A0 l0.length c0] rfl (by (try simp only [List.map_toArray, List.map_cons, List.map_nil]); first | done | rfl | (simp only [List.length_drop, List.length_take]; rfl)) ?_; (with_reducible refine (verditerref08_Validate.calls k _ _ l0 t265 _ ?side1 ?side2 A2.out).mono ?_); (case side1 => repeat (first | exact HR0.out | (with_reducible refine Kd.C_alloc ?_ _) | (with_reducible refine Kd.C_drewN ?_ _) | (with_reducible refine Kd.C_drew ?_))); (case side2 => exact HC0.out); rintro e w' ⟨rfl, ⟨nd, rfl⟩⟩; refine ⟨_, rfl, ?_⟩))
    go_ret2
    exact ⟨_, by first | rfl | (simp [errW_none, errW_some] <;> rfl) | (simp [*, errW_none, errW_some] <;> rfl), by first | exact Kd.R_nil _ _ _ _ _ | exact Kd.N_nil _ _ _ _ _ | exact Kd.V_nil _ _ _ _ _ | exact Kd.Q_nil _ _ _ _ _ | exact Kd.S_nil _ _ _ _ _, by repeat (first | (with_reducible first | exact HB.out | apply below_alloc | apply pw_below_drewN | apply below_drew1) | exact HB.out)⟩

end Go.Proofs.Ythlbjdiicmojfaa.P

/-! Part PF64. -/
-- Written for this claim by wip/print_more.py (a session's program that runs the kit's printer with hand-proved functions beside). Lean checks it.
namespace Go.Proofs.Ythlbjdiicmojfaa.P
open Go.RowKit Go.Proofs.YthlbjdiicmojfaaW.PrintWords Go.Proofs.YthlbjdiicmojfaaW.PrintLast Go.Proofs.YthlbjdiicmojfaaW.PrintMore
attribute [local go_sem] max2_int min2_int max_two min_two max_three min_three max_four min_four   -- for this text's walks alone
set_option linter.unusedVariables false
set_option linter.unusedSimpArgs false

/-! ### verditerref08_Secret: function 64 -/
def verditerref08_Secret.f (k : Nat) (l0 : List (S43)) : Option (Int × Int) := (verditerref08_Curve.f k l0).bind fun bt470 => (if bt470.2 = 0 then (if 0 < (bt470.1.length : Int) then (some (rd bt470.1 0, 0)) else (none)) else (some (0, bt470.2)))
theorem verditerref08_Secret.mono : ∀ a0 k, LeO (verditerref08_Secret.f k a0) (verditerref08_Secret.f (k + 1) a0) := by
  intro a0 k
  unfold verditerref08_Secret.f
  repeat' first
      | (with_reducible exact verditerref08_Curve.mono _ _)
      | (with_reducible exact LeO.refl _)
      | (with_reducible exact LeO.none _)
      | (with_reducible refine LeO.ite ?_ ?_)
      | (with_reducible refine LeO.bind ?_ (fun _ => ?_))
      | exact verditerref08_Curve.mono _ _
      | exact LeO.none _
      | refine LeO.ite ?_ ?_
      | refine LeO.bind ?_ (fun _ => ?_)
set_option maxHeartbeats 8000000 in
set_option maxRecDepth 100000 in
theorem verditerref08_Secret.calls (k : Nat) (A0 : Option Addr) (c0 : Nat) (l0 : List (S43)) (r1 : Int) (r2 : Int) (w : World) (hr0 : Kd.C k43 w A0 l0.length l0) (hc0 : l0.length ≤ c0) (h : verditerref08_Secret.f k l0 = some (r1, r2)) :
    Calls Try.prog 64 #[.slice A0 l0.length c0] w fun e w' => e = .returned (.tuple #[.int .i64 r1, .int .i64 r2]) ∧ Below w.heap.size w w' := by
  have HR0 := Aside0.mk hr0
  have HC0 := Aside0.mk hc0
  clear hr0 hc0
  have HB := Aside0.mk (Below.refl w.heap.size w)
  have H : ((verditerref08_Curve.f k l0).bind fun bt470 => (if bt470.2 = 0 then (if 0 < (bt470.1.length : Int) then (some (rd bt470.1 0, 0)) else (none)) else (some (0, bt470.2)))) = some (r1, r2) := h
  clear h
  replace H := Option.bind_eq_some_iff.mp H
  obtain ⟨⟨t470, t471⟩, A20, H⟩ := H
  replace H : (if t471 = 0 then (if 0 < (t470.length : Int) then (some (rd t470 0, 0)) else (none)) else (some (0, t471))) = some (r1, r2) := H
  have A2 := Aside0.mk A20
  clear A20
  by_cases c3 : t471 = 0
  · rw [if_pos c3] at H
    have c3b0 : (t471 == 0) = true := beq_iff_eq.mpr c3
    have c3b1 : (t471 != 0) = false := bne_eq_false_iff_eq.mpr c3
    clear c3
    by_cases c4 : 0 < (t470.length : Int)
    · rw [if_pos c4] at H
      have c4b0 : decide (0 < (t470.length : Int)) = true := decide_eq_true c4
      have c4b1 : decide (0 < t470.length) = true := decide_eq_true (by omega)
      clear c4
      simp only [Option.some.injEq, Prod.mk.injEq] at H
      obtain ⟨rfl, rfl⟩ := H
      go_enter Try.func64, Try.ntmps64
      go_wp2_with (first | ((with_reducible refine gate_callee (f := 63) rfl ?_); refine goesL_ (some 8) rfl rfl Try.func63 (by kernel_rfl) rfl #[.slice A0 l0.length c0] rfl (by (try simp only [List.map_toArray, List.map_cons, List.map_nil]); first | done | rfl | (simp only [List.length_drop, List.length_take]; rfl)) ?_; (with_reducible refine (verditerref08_Curve.calls k _ _ l0 t470 t471 _ ?side1 ?side2 A2.out).mono ?_); (case side1 => repeat (first | exact HR0.out | (with_reducible refine Kd.C_alloc ?_ _) | (with_reducible refine Kd.C_drewN ?_ _) | (with_reducible refine Kd.C_drew ?_))); (case side2 => exact HC0.out); rintro e w5 ⟨v472, rfl, ho0, hb⟩; refine ⟨_, rfl, ?_⟩; have n0_ := Aside0.mk (Kd.R_lower ho0 (below_size (by repeat (first | (with_reducible first | exact HB.out | apply below_alloc | apply pw_below_drewN | apply below_drew1) | exact HB.out)))); have n1_ := Aside0.mk (below_step (by repeat (first | (with_reducible first | exact HB.out | apply below_alloc | apply pw_below_drewN | apply below_drew1) | exact HB.out)) hb); clear HB; have HO473 := n0_; have HB := n1_; clear n0_ n1_; (try clear hb); (try clear hb2); (try clear hk); (try clear hi); (try clear ho0); obtain ⟨Ao6, co6, eo6⟩ := Kd.R_slice HO473.out; subst eo6; have p474 : 0 ≤ (0 : Int) := (by omega); have q474 : 0 < (t470.length : Int) := of_decide_eq_true (by first | (with_reducible assumption) | assumption); obtain ⟨ad474, e474, hx474_0⟩ := Kd.at_int (Kd.R_reads' HO473.out).2.2 0 p474 q474; cases e474; have qi474 : (0 < t470.length) = True := eq_true (by omega); (try rw [show ((0 : Int)).toNat = 0 from rfl] at hx474_0); (try rw [Addr.add_zero'] at hx474_0); replace p474 := eq_true p474; replace q474 := eq_true q474))
      go_ret2
      exact ⟨by first | rfl | (simp [errW_none, errW_some] <;> rfl) | (simp [*, errW_none, errW_some] <;> rfl), by repeat (first | (with_reducible first | exact HB.out | apply below_alloc | apply pw_below_drewN | apply below_drew1) | exact HB.out)⟩
    · rw [if_neg c4] at H
      exact absurd H (by simp)
  · rw [if_neg c3] at H
    have c3b0 : (t471 == 0) = false := beq_eq_false_iff_ne.mpr c3
    have c3b1 : (t471 != 0) = true := bne_iff_ne.mpr c3
    simp only [Option.some.injEq, Prod.mk.injEq] at H
    obtain ⟨rfl, rfl⟩ := H
    go_enter Try.func64, Try.ntmps64
    go_wp2_with (first | ((with_reducible refine gate_callee (f := 63) rfl ?_); refine goesL_ (some 8) rfl rfl Try.func63 (by kernel_rfl) rfl #[.slice A0 l0.length c0] rfl (by (try simp only [List.map_toArray, List.map_cons, List.map_nil]); first | done | rfl | (simp only [List.length_drop, List.length_take]; rfl)) ?_; (with_reducible refine (verditerref08_Curve.calls k _ _ l0 t470 t471 _ ?side1 ?side2 A2.out).mono ?_); (case side1 => repeat (first | exact HR0.out | (with_reducible refine Kd.C_alloc ?_ _) | (with_reducible refine Kd.C_drewN ?_ _) | (with_reducible refine Kd.C_drew ?_))); (case side2 => exact HC0.out); rintro e w7 ⟨v472, rfl, ho0, hb⟩; refine ⟨_, rfl, ?_⟩; have n0_ := Aside0.mk (Kd.R_lower ho0 (below_size (by repeat (first | (with_reducible first | exact HB.out | apply below_alloc | apply pw_below_drewN | apply below_drew1) | exact HB.out)))); have n1_ := Aside0.mk (below_step (by repeat (first | (with_reducible first | exact HB.out | apply below_alloc | apply pw_below_drewN | apply below_drew1) | exact HB.out)) hb); clear HB; have HO473 := n0_; have HB := n1_; clear n0_ n1_; (try clear hb); (try clear hb2); (try clear hk); (try clear hi); (try clear ho0)))
    go_ret2
    exact ⟨by first | rfl | (simp [errW_none, errW_some] <;> rfl) | (simp [*, errW_none, errW_some] <;> rfl), by repeat (first | (with_reducible first | exact HB.out | apply below_alloc | apply pw_below_drewN | apply below_drew1) | exact HB.out)⟩

end Go.Proofs.Ythlbjdiicmojfaa.P

/-! Part PF86. -/
-- Written for this claim by wip/print_more.py (a session's program that runs the kit's printer with hand-proved functions beside). Lean checks it.
namespace Go.Proofs.Ythlbjdiicmojfaa.P
open Go.RowKit Go.Proofs.YthlbjdiicmojfaaW.PrintWords Go.Proofs.YthlbjdiicmojfaaW.PrintLast Go.Proofs.YthlbjdiicmojfaaW.PrintMore
attribute [local go_sem] max2_int min2_int max_two min_two max_three min_three max_four min_four   -- for this text's walks alone
set_option linter.unusedVariables false
set_option linter.unusedSimpArgs false

/-! ### secret_some: function 86 -/
def secret_some.f (l0 : List (S43)) : Option (Int) := if (l0.length : Int) = 0 then (some 4) else (if (l0.length : Int) > 6 then (some 3) else (some 0))
set_option maxHeartbeats 8000000 in
set_option maxRecDepth 100000 in
theorem secret_some.calls (A0 : Option Addr) (c0 : Nat) (l0 : List (S43)) (r : Int) (w : World) (hr0 : Kd.C k43 w A0 l0.length l0) (hc0 : l0.length ≤ c0) (h : secret_some.f l0 = some r) :
    Calls Try.prog 86 #[.slice A0 l0.length c0] w fun e w' => e = .returned (.int .i64 r) ∧ Drawn0 w w' := by
  have HR0 := Aside0.mk hr0
  have HC0 := Aside0.mk hc0
  clear hr0 hc0
  have H : (if (l0.length : Int) = 0 then (some 4) else (if (l0.length : Int) > 6 then (some 3) else (some 0))) = some r := h
  clear h
  by_cases c2 : (l0.length : Int) = 0
  · rw [if_pos c2] at H
    have c2b0 : ((l0.length : Int) == 0) = true := beq_iff_eq.mpr c2
    have c2b1 : ((l0.length : Int) != 0) = false := bne_eq_false_iff_eq.mpr c2
    clear c2
    obtain rfl := Option.some.inj H
    go_enter Try.func86, Try.ntmps86
    go_wp2
    go_ret
    exact ⟨by first | rfl | (simp; done) | (simp [*]; done), by repeat (first | exact Drawn0.refl _ | apply Drawn0.step)⟩
  · rw [if_neg c2] at H
    have c2b0 : ((l0.length : Int) == 0) = false := beq_eq_false_iff_ne.mpr c2
    have c2b1 : ((l0.length : Int) != 0) = true := bne_iff_ne.mpr c2
    have c2b2 : ¬ (l0 = []) := fun h_ => c2 (by rw [h_]; rfl)
    by_cases c3 : (l0.length : Int) > 6
    · rw [if_pos c3] at H
      have c3b0 : decide (6 < (l0.length : Int)) = true := decide_eq_true c3
      have c3b1 : decide (6 < l0.length) = true := decide_eq_true (by omega)
      clear c3
      obtain rfl := Option.some.inj H
      go_enter Try.func86, Try.ntmps86
      go_wp2
      go_ret
      exact ⟨by first | rfl | (simp; done) | (simp [*]; done), by repeat (first | exact Drawn0.refl _ | apply Drawn0.step)⟩
    · rw [if_neg c3] at H
      have c3b0 : decide (6 < (l0.length : Int)) = false := decide_eq_false c3
      have c3b1 : decide (6 < l0.length) = false := decide_eq_false (by omega)
      clear c3
      obtain rfl := Option.some.inj H
      go_enter Try.func86, Try.ntmps86
      go_wp2
      go_ret
      exact ⟨by first | rfl | (simp; done) | (simp [*]; done), by repeat (first | exact Drawn0.refl _ | apply Drawn0.step)⟩

end Go.Proofs.Ythlbjdiicmojfaa.P

/-! Part PF55. -/
-- Written for this claim by wip/print_more.py (a session's program that runs the kit's printer with hand-proved functions beside). Lean checks it.
namespace Go.Proofs.Ythlbjdiicmojfaa.P
open Go.RowKit Go.Proofs.YthlbjdiicmojfaaW.PrintWords Go.Proofs.YthlbjdiicmojfaaW.PrintLast Go.Proofs.YthlbjdiicmojfaaW.PrintMore
attribute [local go_sem] max2_int min2_int max_two min_two max_three min_three max_four min_four   -- for this text's walks alone
set_option linter.unusedVariables false
set_option linter.unusedSimpArgs false

/-! ### secret_Curve: function 55 -/
def secret_Curve.f (l0 : List (S43)) : Option (List Int × Int) := (secret_Validate.f l0).bind fun t346 => (if t346 = 0 then ((secret_some.f l0).bind fun t347 => (if t347 = 0 then ((secret_of.f l0).bind fun t348 => (some (t348, 0))) else (some (([] : List Int), t347)))) else (some (([] : List Int), t346)))
set_option maxHeartbeats 8000000 in
set_option maxRecDepth 100000 in
theorem secret_Curve.calls (A0 : Option Addr) (c0 : Nat) (l0 : List (S43)) (r1 : List Int) (r2 : Int) (w : World) (hr0 : Kd.C k43 w A0 l0.length l0) (hc0 : l0.length ≤ c0) (h : secret_Curve.f l0 = some (r1, r2)) :
    Calls Try.prog 55 #[.slice A0 l0.length c0] w fun e w' => ∃ v0_ : Value, e = .returned (.tuple #[v0_, .int .i64 r2]) ∧ Kd.R (Kd.int .i64) 3 w' w.heap.size (fun _ => True) v0_ r1 ∧ Below w.heap.size w w' := by
  have HR0 := Aside0.mk hr0
  have HC0 := Aside0.mk hc0
  clear hr0 hc0
  have HB := Aside0.mk (Below.refl w.heap.size w)
  have H : ((secret_Validate.f l0).bind fun t346 => (if t346 = 0 then ((secret_some.f l0).bind fun t347 => (if t347 = 0 then ((secret_of.f l0).bind fun t348 => (some (t348, 0))) else (some (([] : List Int), t347)))) else (some (([] : List Int), t346)))) = some (r1, r2) := h
  clear h
  replace H := Option.bind_eq_some_iff.mp H
  obtain ⟨t346, A20, H⟩ := H
  replace H : (if t346 = 0 then ((secret_some.f l0).bind fun t347 => (if t347 = 0 then ((secret_of.f l0).bind fun t348 => (some (t348, 0))) else (some (([] : List Int), t347)))) else (some (([] : List Int), t346))) = some (r1, r2) := H
  have A2 := Aside0.mk A20
  clear A20
  by_cases c3 : t346 = 0
  · rw [if_pos c3] at H
    have c3b0 : (t346 == 0) = true := beq_iff_eq.mpr c3
    have c3b1 : (t346 != 0) = false := bne_eq_false_iff_eq.mpr c3
    clear c3
    replace H := Option.bind_eq_some_iff.mp H
    obtain ⟨t347, A40, H⟩ := H
    replace H : (if t347 = 0 then ((secret_of.f l0).bind fun t348 => (some (t348, 0))) else (some (([] : List Int), t347))) = some (r1, r2) := H
    have A4 := Aside0.mk A40
    clear A40
    by_cases c5 : t347 = 0
    · rw [if_pos c5] at H
      have c5b0 : (t347 == 0) = true := beq_iff_eq.mpr c5
      have c5b1 : (t347 != 0) = false := bne_eq_false_iff_eq.mpr c5
      clear c5
      replace H := Option.bind_eq_some_iff.mp H
      obtain ⟨t348, A60, H⟩ := H
      replace H : (some (t348, 0)) = some (r1, r2) := H
      have A6 := Aside0.mk A60
      clear A60
      simp only [Option.some.injEq, Prod.mk.injEq] at H
      obtain ⟨rfl, rfl⟩ := H
      go_enter Try.func55, Try.ntmps55
      go_wp2_with (first | ((with_reducible refine gate_callee (f := 65) rfl ?_); refine goesL_ (some 7) rfl rfl Try.func65 (by kernel_rfl) rfl #[.slice A0 l0.length c0] rfl (by (try simp only [List.map_toArray, List.map_cons, List.map_nil]); first | done | rfl | (simp only [List.length_drop, List.length_take]; rfl)) ?_; (with_reducible refine (secret_Validate.calls _ _ l0 t346 _ ?side1 ?side2 A2.out).mono ?_); (case side1 => repeat (first | exact HR0.out | (with_reducible refine Kd.C_alloc ?_ _) | (with_reducible refine Kd.C_drewN ?_ _) | (with_reducible refine Kd.C_drew ?_))); (case side2 => exact HC0.out); rintro e w7 ⟨rfl, hb⟩; refine ⟨_, rfl, ?_⟩; have n0_ := Aside0.mk (below_step (by repeat (first | (with_reducible first | exact HB.out | apply below_alloc | apply pw_below_drewN | apply below_drew1) | exact HB.out)) hb); clear HB; have HB := n0_; clear n0_; (try clear hb); (try clear hb2); (try clear hk); (try clear hi)) | ((with_reducible refine gate_callee (f := 86) rfl ?_); refine goesL_ (some 12) rfl rfl Try.func86 (by kernel_rfl) rfl #[.slice A0 l0.length c0] rfl (by (try simp only [List.map_toArray, List.map_cons, List.map_nil]); first | done | rfl | (simp only [List.length_drop, List.length_take]; rfl)) ?_; (with_reducible refine (secret_some.calls _ _ l0 t347 _ ?side1 ?side2 A4.out).mono ?_); (case side1 => repeat (first | exact (Kd.C_below HR0.out HB.out) | (with_reducible refine Kd.C_alloc ?_ _) | (with_reducible refine Kd.C_drewN ?_ _) | (with_reducible refine Kd.C_drew ?_))); (case side2 => exact HC0.out); rintro e w' ⟨rfl, ⟨nd, rfl⟩⟩; refine ⟨_, rfl, ?_⟩) | ((with_reducible refine gate_callee (f := 87) rfl ?_); refine goesL_ (some 17) rfl rfl Try.func87 (by kernel_rfl) rfl #[.slice A0 l0.length c0] rfl (by (try simp only [List.map_toArray, List.map_cons, List.map_nil]); first | done | rfl | (simp only [List.length_drop, List.length_take]; rfl)) ?_; (with_reducible refine (secret_of.calls _ _ l0 t348 _ ?side1 ?side2 A6.out).mono ?_); (case side1 => repeat (first | exact (Kd.C_below HR0.out (by repeat (first | (with_reducible first | exact HB.out | apply below_alloc | apply pw_below_drewN | apply below_drew1) | exact HB.out))) | (with_reducible refine Kd.C_alloc ?_ _) | (with_reducible refine Kd.C_drewN ?_ _) | (with_reducible refine Kd.C_drew ?_))); (case side2 => exact HC0.out); rintro e w8 ⟨v349, rfl, ho0, hb⟩; refine ⟨_, rfl, ?_⟩; have n0_ := Aside0.mk (Kd.R_lower ho0 (below_size (by repeat (first | (with_reducible first | exact HB.out | apply below_alloc | apply pw_below_drewN | apply below_drew1) | exact HB.out)))); have n1_ := Aside0.mk (below_step (by repeat (first | (with_reducible first | exact HB.out | apply below_alloc | apply pw_below_drewN | apply below_drew1) | exact HB.out)) hb); clear HB; have HO350 := n0_; have HB := n1_; clear n0_ n1_; (try clear hb); (try clear hb2); (try clear hk); (try clear hi); (try clear ho0)))
      go_ret2
      exact ⟨_, by first | rfl | (simp [errW_none, errW_some] <;> rfl) | (simp [*, errW_none, errW_some] <;> rfl), by (with_reducible repeat (first | apply Kd.R_alloc | apply Kd.R_drewN | apply Kd.R_drew)); exact HO350.out, by repeat (first | (with_reducible first | exact HB.out | apply below_alloc | apply pw_below_drewN | apply below_drew1) | exact HB.out)⟩
    · rw [if_neg c5] at H
      have c5b0 : (t347 == 0) = false := beq_eq_false_iff_ne.mpr c5
      have c5b1 : (t347 != 0) = true := bne_iff_ne.mpr c5
      simp only [Option.some.injEq, Prod.mk.injEq] at H
      obtain ⟨rfl, rfl⟩ := H
      go_enter Try.func55, Try.ntmps55
      go_wp2_with (first | ((with_reducible refine gate_callee (f := 65) rfl ?_); refine goesL_ (some 7) rfl rfl Try.func65 (by kernel_rfl) rfl #[.slice A0 l0.length c0] rfl (by (try simp only [List.map_toArray, List.map_cons, List.map_nil]); first | done | rfl | (simp only [List.length_drop, List.length_take]; rfl)) ?_; (with_reducible refine (secret_Validate.calls _ _ l0 t346 _ ?side1 ?side2 A2.out).mono ?_); (case side1 => repeat (first | exact HR0.out | (with_reducible refine Kd.C_alloc ?_ _) | (with_reducible refine Kd.C_drewN ?_ _) | (with_reducible refine Kd.C_drew ?_))); (case side2 => exact HC0.out); rintro e w9 ⟨rfl, hb⟩; refine ⟨_, rfl, ?_⟩; have n0_ := Aside0.mk (below_step (by repeat (first | (with_reducible first | exact HB.out | apply below_alloc | apply pw_below_drewN | apply below_drew1) | exact HB.out)) hb); clear HB; have HB := n0_; clear n0_; (try clear hb); (try clear hb2); (try clear hk); (try clear hi)) | ((with_reducible refine gate_callee (f := 86) rfl ?_); refine goesL_ (some 12) rfl rfl Try.func86 (by kernel_rfl) rfl #[.slice A0 l0.length c0] rfl (by (try simp only [List.map_toArray, List.map_cons, List.map_nil]); first | done | rfl | (simp only [List.length_drop, List.length_take]; rfl)) ?_; (with_reducible refine (secret_some.calls _ _ l0 t347 _ ?side1 ?side2 A4.out).mono ?_); (case side1 => repeat (first | exact (Kd.C_below HR0.out HB.out) | (with_reducible refine Kd.C_alloc ?_ _) | (with_reducible refine Kd.C_drewN ?_ _) | (with_reducible refine Kd.C_drew ?_))); (case side2 => exact HC0.out); rintro e w' ⟨rfl, ⟨nd, rfl⟩⟩; refine ⟨_, rfl, ?_⟩))
      go_ret2
      exact ⟨_, by first | rfl | (simp [errW_none, errW_some] <;> rfl) | (simp [*, errW_none, errW_some] <;> rfl), by first | exact Kd.R_nil _ _ _ _ _ | exact Kd.N_nil _ _ _ _ _ | exact Kd.V_nil _ _ _ _ _ | exact Kd.Q_nil _ _ _ _ _ | exact Kd.S_nil _ _ _ _ _, by repeat (first | (with_reducible first | exact HB.out | apply below_alloc | apply pw_below_drewN | apply below_drew1) | exact HB.out)⟩
  · rw [if_neg c3] at H
    have c3b0 : (t346 == 0) = false := beq_eq_false_iff_ne.mpr c3
    have c3b1 : (t346 != 0) = true := bne_iff_ne.mpr c3
    simp only [Option.some.injEq, Prod.mk.injEq] at H
    obtain ⟨rfl, rfl⟩ := H
    go_enter Try.func55, Try.ntmps55
    go_wp2_with (first | ((with_reducible refine gate_callee (f := 65) rfl ?_); refine goesL_ (some 7) rfl rfl Try.func65 (by kernel_rfl) rfl #[.slice A0 l0.length c0] rfl (by (try simp only [List.map_toArray, List.map_cons, List.map_nil]); first | done | rfl | (simp only [List.length_drop, List.length_take]; rfl)) ?_; (with_reducible refine (secret_Validate.calls _ _ l0 t346 _ ?side1 ?side2 A2.out).mono ?_); (case side1 => repeat (first | exact HR0.out | (with_reducible refine Kd.C_alloc ?_ _) | (with_reducible refine Kd.C_drewN ?_ _) | (with_reducible refine Kd.C_drew ?_))); (case side2 => exact HC0.out); rintro e w10 ⟨rfl, hb⟩; refine ⟨_, rfl, ?_⟩; have n0_ := Aside0.mk (below_step (by repeat (first | (with_reducible first | exact HB.out | apply below_alloc | apply pw_below_drewN | apply below_drew1) | exact HB.out)) hb); clear HB; have HB := n0_; clear n0_; (try clear hb); (try clear hb2); (try clear hk); (try clear hi)))
    go_ret2
    exact ⟨_, by first | rfl | (simp [errW_none, errW_some] <;> rfl) | (simp [*, errW_none, errW_some] <;> rfl), by first | exact Kd.R_nil _ _ _ _ _ | exact Kd.N_nil _ _ _ _ _ | exact Kd.V_nil _ _ _ _ _ | exact Kd.Q_nil _ _ _ _ _ | exact Kd.S_nil _ _ _ _ _, by repeat (first | (with_reducible first | exact HB.out | apply below_alloc | apply pw_below_drewN | apply below_drew1) | exact HB.out)⟩

end Go.Proofs.Ythlbjdiicmojfaa.P

/-! Part PF58. -/
-- Written for this claim by wip/print_more.py (a session's program that runs the kit's printer with hand-proved functions beside). Lean checks it.
namespace Go.Proofs.Ythlbjdiicmojfaa.P
open Go.RowKit Go.Proofs.YthlbjdiicmojfaaW.PrintWords Go.Proofs.YthlbjdiicmojfaaW.PrintLast Go.Proofs.YthlbjdiicmojfaaW.PrintMore
attribute [local go_sem] max2_int min2_int max_two min_two max_three min_three max_four min_four   -- for this text's walks alone
set_option linter.unusedVariables false
set_option linter.unusedSimpArgs false

/-! ### secret_Secret: function 58 -/
def secret_Secret.f (l0 : List (S43)) : Option (Int × Int) := (secret_Curve.f l0).bind fun bt351 => (if bt351.2 = 0 then (if 0 < (bt351.1.length : Int) then (some (rd bt351.1 0, 0)) else (none)) else (some (0, bt351.2)))
set_option maxHeartbeats 8000000 in
set_option maxRecDepth 100000 in
theorem secret_Secret.calls (A0 : Option Addr) (c0 : Nat) (l0 : List (S43)) (r1 : Int) (r2 : Int) (w : World) (hr0 : Kd.C k43 w A0 l0.length l0) (hc0 : l0.length ≤ c0) (h : secret_Secret.f l0 = some (r1, r2)) :
    Calls Try.prog 58 #[.slice A0 l0.length c0] w fun e w' => e = .returned (.tuple #[.int .i64 r1, .int .i64 r2]) ∧ Below w.heap.size w w' := by
  have HR0 := Aside0.mk hr0
  have HC0 := Aside0.mk hc0
  clear hr0 hc0
  have HB := Aside0.mk (Below.refl w.heap.size w)
  have H : ((secret_Curve.f l0).bind fun bt351 => (if bt351.2 = 0 then (if 0 < (bt351.1.length : Int) then (some (rd bt351.1 0, 0)) else (none)) else (some (0, bt351.2)))) = some (r1, r2) := h
  clear h
  replace H := Option.bind_eq_some_iff.mp H
  obtain ⟨⟨t351, t352⟩, A20, H⟩ := H
  replace H : (if t352 = 0 then (if 0 < (t351.length : Int) then (some (rd t351 0, 0)) else (none)) else (some (0, t352))) = some (r1, r2) := H
  have A2 := Aside0.mk A20
  clear A20
  by_cases c3 : t352 = 0
  · rw [if_pos c3] at H
    have c3b0 : (t352 == 0) = true := beq_iff_eq.mpr c3
    have c3b1 : (t352 != 0) = false := bne_eq_false_iff_eq.mpr c3
    clear c3
    by_cases c4 : 0 < (t351.length : Int)
    · rw [if_pos c4] at H
      have c4b0 : decide (0 < (t351.length : Int)) = true := decide_eq_true c4
      have c4b1 : decide (0 < t351.length) = true := decide_eq_true (by omega)
      clear c4
      simp only [Option.some.injEq, Prod.mk.injEq] at H
      obtain ⟨rfl, rfl⟩ := H
      go_enter Try.func58, Try.ntmps58
      go_wp2_with (first | ((with_reducible refine gate_callee (f := 55) rfl ?_); refine goesL_ (some 8) rfl rfl Try.func55 (by kernel_rfl) rfl #[.slice A0 l0.length c0] rfl (by (try simp only [List.map_toArray, List.map_cons, List.map_nil]); first | done | rfl | (simp only [List.length_drop, List.length_take]; rfl)) ?_; (with_reducible refine (secret_Curve.calls _ _ l0 t351 t352 _ ?side1 ?side2 A2.out).mono ?_); (case side1 => repeat (first | exact HR0.out | (with_reducible refine Kd.C_alloc ?_ _) | (with_reducible refine Kd.C_drewN ?_ _) | (with_reducible refine Kd.C_drew ?_))); (case side2 => exact HC0.out); rintro e w5 ⟨v353, rfl, ho0, hb⟩; refine ⟨_, rfl, ?_⟩; have n0_ := Aside0.mk (Kd.R_lower ho0 (below_size (by repeat (first | (with_reducible first | exact HB.out | apply below_alloc | apply pw_below_drewN | apply below_drew1) | exact HB.out)))); have n1_ := Aside0.mk (below_step (by repeat (first | (with_reducible first | exact HB.out | apply below_alloc | apply pw_below_drewN | apply below_drew1) | exact HB.out)) hb); clear HB; have HO354 := n0_; have HB := n1_; clear n0_ n1_; (try clear hb); (try clear hb2); (try clear hk); (try clear hi); (try clear ho0); obtain ⟨Ao6, co6, eo6⟩ := Kd.R_slice HO354.out; subst eo6; have p355 : 0 ≤ (0 : Int) := (by omega); have q355 : 0 < (t351.length : Int) := of_decide_eq_true (by first | (with_reducible assumption) | assumption); obtain ⟨ad355, e355, hx355_0⟩ := Kd.at_int (Kd.R_reads' HO354.out).2.2 0 p355 q355; cases e355; have qi355 : (0 < t351.length) = True := eq_true (by omega); (try rw [show ((0 : Int)).toNat = 0 from rfl] at hx355_0); (try rw [Addr.add_zero'] at hx355_0); replace p355 := eq_true p355; replace q355 := eq_true q355))
      go_ret2
      exact ⟨by first | rfl | (simp [errW_none, errW_some] <;> rfl) | (simp [*, errW_none, errW_some] <;> rfl), by repeat (first | (with_reducible first | exact HB.out | apply below_alloc | apply pw_below_drewN | apply below_drew1) | exact HB.out)⟩
    · rw [if_neg c4] at H
      exact absurd H (by simp)
  · rw [if_neg c3] at H
    have c3b0 : (t352 == 0) = false := beq_eq_false_iff_ne.mpr c3
    have c3b1 : (t352 != 0) = true := bne_iff_ne.mpr c3
    simp only [Option.some.injEq, Prod.mk.injEq] at H
    obtain ⟨rfl, rfl⟩ := H
    go_enter Try.func58, Try.ntmps58
    go_wp2_with (first | ((with_reducible refine gate_callee (f := 55) rfl ?_); refine goesL_ (some 8) rfl rfl Try.func55 (by kernel_rfl) rfl #[.slice A0 l0.length c0] rfl (by (try simp only [List.map_toArray, List.map_cons, List.map_nil]); first | done | rfl | (simp only [List.length_drop, List.length_take]; rfl)) ?_; (with_reducible refine (secret_Curve.calls _ _ l0 t351 t352 _ ?side1 ?side2 A2.out).mono ?_); (case side1 => repeat (first | exact HR0.out | (with_reducible refine Kd.C_alloc ?_ _) | (with_reducible refine Kd.C_drewN ?_ _) | (with_reducible refine Kd.C_drew ?_))); (case side2 => exact HC0.out); rintro e w7 ⟨v353, rfl, ho0, hb⟩; refine ⟨_, rfl, ?_⟩; have n0_ := Aside0.mk (Kd.R_lower ho0 (below_size (by repeat (first | (with_reducible first | exact HB.out | apply below_alloc | apply pw_below_drewN | apply below_drew1) | exact HB.out)))); have n1_ := Aside0.mk (below_step (by repeat (first | (with_reducible first | exact HB.out | apply below_alloc | apply pw_below_drewN | apply below_drew1) | exact HB.out)) hb); clear HB; have HO354 := n0_; have HB := n1_; clear n0_ n1_; (try clear hb); (try clear hb2); (try clear hk); (try clear hi); (try clear ho0)))
    go_ret2
    exact ⟨by first | rfl | (simp [errW_none, errW_some] <;> rfl) | (simp [*, errW_none, errW_some] <;> rfl), by repeat (first | (with_reducible first | exact HB.out | apply below_alloc | apply pw_below_drewN | apply below_drew1) | exact HB.out)⟩

end Go.Proofs.Ythlbjdiicmojfaa.P

/-! Part PF41. -/
-- Written for this claim by wip/print_more.py (a session's program that runs the kit's printer with hand-proved functions beside). Lean checks it.
namespace Go.Proofs.Ythlbjdiicmojfaa.P
open Go.RowKit Go.Proofs.YthlbjdiicmojfaaW.PrintWords Go.Proofs.YthlbjdiicmojfaaW.PrintLast Go.Proofs.YthlbjdiicmojfaaW.PrintMore
attribute [local go_sem] max2_int min2_int max_two min_two max_three min_three max_four min_four   -- for this text's walks alone
set_option linter.unusedVariables false
set_option linter.unusedSimpArgs false

/-! ### verditerref08_Complete: function 41 -/
def verditerref08_Complete.f (k : Nat) (l0 : List (S43)) (a1 : Int) : Option (List Int × Int) := (verditerref08_Validate.f k l0).bind fun t209 => (if t209 = 0 then ((verditerref08_isNumber.f a1).bind fun t210 => (if t210 = true then (if (l0.length : Int) ≥ 6 then (some (([] : List Int), 3)) else ((some (([(⟨0, a1⟩ : S43)] : List (S43)) : List (S43))).bind fun y211 => (if y211.length + l0.length < 8796093022208 then ((verditerref08_through.f k (y211 ++ l0)).bind fun t217 => (some (t217, 0))) else (none)))) else (some (([] : List Int), 1)))) else (some (([] : List Int), t209)))
theorem verditerref08_Complete.mono : ∀ a0 a1 k, LeO (verditerref08_Complete.f k a0 a1) (verditerref08_Complete.f (k + 1) a0 a1) := by
  intro a0 a1 k
  unfold verditerref08_Complete.f
  repeat' first
      | (with_reducible exact verditerref08_Validate.mono _ _)
      | (with_reducible exact verditerref08_through.mono _ _)
      | (with_reducible exact LeO.refl _)
      | (with_reducible exact LeO.none _)
      | (with_reducible refine LeO.ite ?_ ?_)
      | (with_reducible refine LeO.bind ?_ (fun _ => ?_))
      | exact verditerref08_Validate.mono _ _
      | exact verditerref08_through.mono _ _
      | exact LeO.none _
      | refine LeO.ite ?_ ?_
      | refine LeO.bind ?_ (fun _ => ?_)
set_option maxHeartbeats 8000000 in
set_option maxRecDepth 100000 in
theorem verditerref08_Complete.calls (k : Nat) (A0 : Option Addr) (c0 : Nat) (l0 : List (S43)) (a1 : Int) (r1 : List Int) (r2 : Int) (w : World) (hr0 : Kd.C k43 w A0 l0.length l0) (hc0 : l0.length ≤ c0) (h : verditerref08_Complete.f k l0 a1 = some (r1, r2)) :
    Calls Try.prog 41 #[.slice A0 l0.length c0, .int .i64 a1] w fun e w' => ∃ v0_ : Value, e = .returned (.tuple #[v0_, .int .i64 r2]) ∧ Kd.R (Kd.int .i64) 3 w' w.heap.size (fun _ => True) v0_ r1 ∧ Below w.heap.size w w' := by
  have hu43 := Try.underlying43
  have HR0 := Aside0.mk hr0
  have HC0 := Aside0.mk hc0
  clear hr0 hc0
  have HB := Aside0.mk (Below.refl w.heap.size w)
  have H : ((verditerref08_Validate.f k l0).bind fun t209 => (if t209 = 0 then ((verditerref08_isNumber.f a1).bind fun t210 => (if t210 = true then (if (l0.length : Int) ≥ 6 then (some (([] : List Int), 3)) else ((some (([(⟨0, a1⟩ : S43)] : List (S43)) : List (S43))).bind fun y211 => (if y211.length + l0.length < 8796093022208 then ((verditerref08_through.f k (y211 ++ l0)).bind fun t217 => (some (t217, 0))) else (none)))) else (some (([] : List Int), 1)))) else (some (([] : List Int), t209)))) = some (r1, r2) := h
  clear h
  replace H := Option.bind_eq_some_iff.mp H
  obtain ⟨t209, A30, H⟩ := H
  replace H : (if t209 = 0 then ((verditerref08_isNumber.f a1).bind fun t210 => (if t210 = true then (if (l0.length : Int) ≥ 6 then (some (([] : List Int), 3)) else ((some (([(⟨0, a1⟩ : S43)] : List (S43)) : List (S43))).bind fun y211 => (if y211.length + l0.length < 8796093022208 then ((verditerref08_through.f k (y211 ++ l0)).bind fun t217 => (some (t217, 0))) else (none)))) else (some (([] : List Int), 1)))) else (some (([] : List Int), t209))) = some (r1, r2) := H
  have A3 := Aside0.mk A30
  clear A30
  by_cases c4 : t209 = 0
  · rw [if_pos c4] at H
    have c4b0 : (t209 == 0) = true := beq_iff_eq.mpr c4
    have c4b1 : (t209 != 0) = false := bne_eq_false_iff_eq.mpr c4
    clear c4
    replace H := Option.bind_eq_some_iff.mp H
    obtain ⟨t210, A50, H⟩ := H
    replace H : (if t210 = true then (if (l0.length : Int) ≥ 6 then (some (([] : List Int), 3)) else ((some (([(⟨0, a1⟩ : S43)] : List (S43)) : List (S43))).bind fun y211 => (if y211.length + l0.length < 8796093022208 then ((verditerref08_through.f k (y211 ++ l0)).bind fun t217 => (some (t217, 0))) else (none)))) else (some (([] : List Int), 1))) = some (r1, r2) := H
    have A5 := Aside0.mk A50
    clear A50
    by_cases c6 : t210 = true
    · subst c6
      have H1 : (if (l0.length : Int) ≥ 6 then (some (([] : List Int), 3)) else ((some (([(⟨0, a1⟩ : S43)] : List (S43)) : List (S43))).bind fun y211 => (if y211.length + l0.length < 8796093022208 then ((verditerref08_through.f k (y211 ++ l0)).bind fun t217 => (some (t217, 0))) else (none)))) = some (r1, r2) := by rw [if_pos rfl] at H; exact H
      clear H
      have H := H1
      clear H1
      by_cases c7 : (l0.length : Int) ≥ 6
      · rw [if_pos c7] at H
        have c7b0 : decide (6 ≤ (l0.length : Int)) = true := decide_eq_true c7
        have c7b1 : decide (6 ≤ l0.length) = true := decide_eq_true (by omega)
        clear c7
        simp only [Option.some.injEq, Prod.mk.injEq] at H
        obtain ⟨rfl, rfl⟩ := H
        go_enter Try.func41, Try.ntmps41
        go_wp2_with (first | ((with_reducible refine gate_callee (f := 66) rfl ?_); refine goesL_ (some 8) rfl rfl Try.func66 (by kernel_rfl) rfl #[.slice A0 l0.length c0] rfl (by (try simp only [List.map_toArray, List.map_cons, List.map_nil]); first | done | rfl | (simp only [List.length_drop, List.length_take]; rfl)) ?_; (with_reducible refine (verditerref08_Validate.calls k _ _ l0 t209 _ ?side1 ?side2 A3.out).mono ?_); (case side1 => repeat (first | exact HR0.out | (with_reducible refine Kd.C_alloc ?_ _) | (with_reducible refine Kd.C_drewN ?_ _) | (with_reducible refine Kd.C_drew ?_))); (case side2 => exact HC0.out); rintro e w' ⟨rfl, ⟨nd, rfl⟩⟩; refine ⟨_, rfl, ?_⟩) | ((with_reducible refine gate_callee (f := 75) rfl ?_); refine goesL_ (some 13) rfl rfl Try.func75 (by kernel_rfl) rfl #[.int .i64 a1] rfl (by (try simp only [List.map_toArray, List.map_cons, List.map_nil]); first | done | rfl | (simp only [List.length_drop, List.length_take]; rfl)) ?_; (with_reducible refine (verditerref08_isNumber.calls a1 true _ A5.out).mono ?_); rintro e w' ⟨rfl, ⟨nd, rfl⟩⟩; refine ⟨_, rfl, ?_⟩))
        go_ret2
        exact ⟨_, by first | rfl | (simp [errW_none, errW_some] <;> rfl) | (simp [*, errW_none, errW_some] <;> rfl), by first | exact Kd.R_nil _ _ _ _ _ | exact Kd.N_nil _ _ _ _ _ | exact Kd.V_nil _ _ _ _ _ | exact Kd.Q_nil _ _ _ _ _ | exact Kd.S_nil _ _ _ _ _, by repeat (first | (with_reducible first | exact HB.out | apply below_alloc | apply pw_below_drewN | apply below_drew1) | exact HB.out)⟩
      · rw [if_neg c7] at H
        have c7b0 : decide (6 ≤ (l0.length : Int)) = false := decide_eq_false c7
        have c7b1 : decide (6 ≤ l0.length) = false := decide_eq_false (by omega)
        clear c7
        obtain ⟨y211, hy211⟩ : ∃ y_ : List (S43), y_ = (([(⟨0, a1⟩ : S43)] : List (S43))) := ⟨_, rfl⟩
        replace H : (if y211.length + l0.length < 8796093022208 then ((verditerref08_through.f k (y211 ++ l0)).bind fun t217 => (some (t217, 0))) else (none)) = some (r1, r2) := by first | (rw [hy211]; with_reducible exact H) | (have H2_ := (Option.bind_some _ _).symm.trans H; rw [hy211]; with_reducible exact H2_) | (have H2_ := (Option.bind_some _ _).symm.trans H; with_reducible exact H2_) | with_reducible exact H | (rw [hy211]; exact H) | exact H
        have Ny211 := Aside0.mk hy211
        clear hy211
        by_cases c8 : y211.length + l0.length < 8796093022208
        · rw [if_pos c8] at H
          have LMc8 := Aside0.mk c8
          clear c8
          obtain ⟨y214, hy214⟩ : ∃ y_ : List (S43), y_ = (y211 ++ l0) := ⟨_, rfl⟩
          replace H : ((verditerref08_through.f k y214).bind fun t217 => (some (t217, 0))) = some (r1, r2) := by first | (rw [hy214]; with_reducible exact H) | (have H2_ := (Option.bind_some _ _).symm.trans H; rw [hy214]; with_reducible exact H2_) | (have H2_ := (Option.bind_some _ _).symm.trans H; with_reducible exact H2_) | with_reducible exact H | (rw [hy214]; exact H) | exact H
          have Ny214 := Aside0.mk hy214
          clear hy214
          replace H := Option.bind_eq_some_iff.mp H
          obtain ⟨t217, A90, H⟩ := H
          replace H : (some (t217, 0)) = some (r1, r2) := H
          have A9 := Aside0.mk A90
          clear A90
          simp only [Option.some.injEq, Prod.mk.injEq] at H
          obtain ⟨rfl, rfl⟩ := H
          go_enter Try.func41, Try.ntmps41
          go_wp2_with (first | ((with_reducible refine gate_callee (f := 66) rfl ?_); refine goesL_ (some 8) rfl rfl Try.func66 (by kernel_rfl) rfl #[.slice A0 l0.length c0] rfl (by (try simp only [List.map_toArray, List.map_cons, List.map_nil]); first | done | rfl | (simp only [List.length_drop, List.length_take]; rfl)) ?_; (with_reducible refine (verditerref08_Validate.calls k _ _ l0 t209 _ ?side1 ?side2 A3.out).mono ?_); (case side1 => repeat (first | exact HR0.out | (with_reducible refine Kd.C_alloc ?_ _) | (with_reducible refine Kd.C_drewN ?_ _) | (with_reducible refine Kd.C_drew ?_))); (case side2 => exact HC0.out); rintro e w' ⟨rfl, ⟨nd, rfl⟩⟩; refine ⟨_, rfl, ?_⟩) | ((with_reducible refine gate_callee (f := 75) rfl ?_); refine goesL_ (some 13) rfl rfl Try.func75 (by kernel_rfl) rfl #[.int .i64 a1] rfl (by (try simp only [List.map_toArray, List.map_cons, List.map_nil]); first | done | rfl | (simp only [List.length_drop, List.length_take]; rfl)) ?_; (with_reducible refine (verditerref08_isNumber.calls a1 true _ A5.out).mono ?_); rintro e w' ⟨rfl, ⟨nd, rfl⟩⟩; refine ⟨_, rfl, ?_⟩) | ((with_reducible refine gate_dst (N := 20) rfl ?_); refine Kd.R_lit k43 _ 43 ?hg (N := 20) ?hd (xs := ([(⟨0, a1⟩ : S43)] : List (S43))) (inner := [.int .i64 0, .int .i64 a1]) (ok := fun _ => True) (okp := fun _ => True) ?hr ?hp (fun _ hk => hk) trivial (Below.refl _ _) (Nat.le_refl _) (by simp) ?_; (case hd => rfl); (case hg => rfl); (case hr => first | (go_simp; done) | (go_simp; rfl)); (case hp => exact (Reps.c2 (show Kd.M k43 _ _ _ (⟨0, a1⟩ : S43) [.int .i64 0, .int .i64 a1] from (k43_mkM _ _ _ (⟨0, a1⟩ : S43) )) (Reps.none _ _))); intro v212 w10 ho11 hb hg_ hnew_; clear hg_ hnew_; (first | rw [← Ny211.out] at ho11 | (simp only [Int.reduceToNat] at ho11; rw [← Ny211.out] at ho11)); have n0_ := Aside0.mk (Kd.R_lower ho11 (below_size (by repeat (first | (with_reducible first | exact HB.out | apply below_alloc | apply pw_below_drewN | apply below_drew1) | exact HB.out)))); have n1_ := Aside0.mk (below_step (by repeat (first | (with_reducible first | exact HB.out | apply below_alloc | apply pw_below_drewN | apply below_drew1) | exact HB.out)) hb); clear HB; have HO213 := n0_; have HB := n1_; clear n0_ n1_; clear hb ho11) | ((with_reducible refine gate_builtin (b := .append) (xs := #[.tmp 20, .tmp 21]) rfl ?_); at_builtin; refine Kd.R_append_rows k43 (w0 := w) w.heap.size rfl (.tmp 20) (.tmp 21) 22 43 (.agg #[(.int .i64 0), (.int .i64 0)]) 16 rfl Try.underlying22 info43 rfl (by decide) (by omega) v212 y211 l0 _ _ _ (fun _ => True) (fun _ => False) rfl rfl ?aO ?aR (fun _ _ h => h) (fun _ h => h.elim) ?aF ?aB ?aS ?aL ?_; (case aR => repeat (first | exact (Kd.C_below HR0.out HB.out) | (with_reducible refine Kd.C_alloc ?_ _) | (with_reducible refine Kd.C_drewN ?_ _) | (with_reducible refine Kd.C_drew ?_))); (case aB => exact (by repeat (first | (with_reducible first | exact HB.out | apply below_alloc | apply pw_below_drewN | apply below_drew1) | exact HB.out))); (case aF => exact (fun _ _ => trivial)); (case aO => exact (by (with_reducible repeat (first | apply Kd.R_alloc | apply Kd.R_drewN | apply Kd.R_drew)); exact HO213.out)); (case aS => exact (below_size (by repeat (first | (with_reducible first | exact HB.out | apply below_alloc | apply pw_below_drewN | apply below_drew1) | exact HB.out)))); (case aL => have := LMc8.out; omega); intro v215 w12 ho hb hg hat; rw [← Ny214.out] at ho; have n0_ := Aside0.mk (hb); have n1_ := Aside0.mk (ho); clear HB; clear HO213; have HB := n0_; have HO216 := n1_; clear n0_ n1_; clear ho hb hg hat; obtain ⟨Ao13, co13, eo13⟩ := Kd.R_slice HO216.out; subst eo13) | ((with_reducible refine gate_callee (f := 76) rfl ?_); refine goesL_ (some 23) rfl rfl Try.func76 (by kernel_rfl) rfl #[.slice Ao13 y214.length co13] rfl (by (try simp only [List.map_toArray, List.map_cons, List.map_nil]); first | done | rfl | (simp only [List.length_drop, List.length_take]; rfl)) ?_; (with_reducible refine (verditerref08_through.calls k _ _ y214 t217 _ ?side1 ?side2 A9.out).mono ?_); (case side1 => repeat (first | exact (Kd.R_reads' HO216.out).2.2 | (with_reducible refine Kd.C_alloc ?_ _) | (with_reducible refine Kd.C_drewN ?_ _) | (with_reducible refine Kd.C_drew ?_))); (case side2 => exact (Kd.R_reads' HO216.out).2.1); rintro e w14 ⟨v218, rfl, ho0, hb⟩; refine ⟨_, rfl, ?_⟩; have n0_ := Aside0.mk (Kd.R_below (by (with_reducible repeat (first | apply Kd.R_alloc | apply Kd.R_drewN | apply Kd.R_drew)); exact HO216.out) hb); have n1_ := Aside0.mk (Kd.R_lower ho0 (below_size (by repeat (first | (with_reducible first | exact HB.out | apply below_alloc | apply pw_below_drewN | apply below_drew1) | exact HB.out)))); have n2_ := Aside0.mk (below_step (by repeat (first | (with_reducible first | exact HB.out | apply below_alloc | apply pw_below_drewN | apply below_drew1) | exact HB.out)) hb); clear HO216; clear HB; have HO216 := n0_; have HO219 := n1_; have HB := n2_; clear n0_ n1_ n2_; (try clear hb); (try clear hb2); (try clear hk); (try clear hi); (try clear ho0)))
          go_ret2
          exact ⟨_, by first | rfl | (simp [errW_none, errW_some] <;> rfl) | (simp [*, errW_none, errW_some] <;> rfl), by (with_reducible repeat (first | apply Kd.R_alloc | apply Kd.R_drewN | apply Kd.R_drew)); exact HO219.out, by repeat (first | (with_reducible first | exact HB.out | apply below_alloc | apply pw_below_drewN | apply below_drew1) | exact HB.out)⟩
        · rw [if_neg c8] at H
          exact absurd H (by simp)
    · replace c6 := Bool.eq_false_iff.mpr c6
      subst c6
      have H1 : (some (([] : List Int), 1)) = some (r1, r2) := by rw [if_neg (show ¬ (false = true) by decide)] at H; exact H
      clear H
      have H := H1
      clear H1
      simp only [Option.some.injEq, Prod.mk.injEq] at H
      obtain ⟨rfl, rfl⟩ := H
      go_enter Try.func41, Try.ntmps41
      go_wp2_with (first | ((with_reducible refine gate_callee (f := 66) rfl ?_); refine goesL_ (some 8) rfl rfl Try.func66 (by kernel_rfl) rfl #[.slice A0 l0.length c0] rfl (by (try simp only [List.map_toArray, List.map_cons, List.map_nil]); first | done | rfl | (simp only [List.length_drop, List.length_take]; rfl)) ?_; (with_reducible refine (verditerref08_Validate.calls k _ _ l0 t209 _ ?side1 ?side2 A3.out).mono ?_); (case side1 => repeat (first | exact HR0.out | (with_reducible refine Kd.C_alloc ?_ _) | (with_reducible refine Kd.C_drewN ?_ _) | (with_reducible refine Kd.C_drew ?_))); (case side2 => exact HC0.out); rintro e w' ⟨rfl, ⟨nd, rfl⟩⟩; refine ⟨_, rfl, ?_⟩) | ((with_reducible refine gate_callee (f := 75) rfl ?_); refine goesL_ (some 13) rfl rfl Try.func75 (by kernel_rfl) rfl #[.int .i64 a1] rfl (by (try simp only [List.map_toArray, List.map_cons, List.map_nil]); first | done | rfl | (simp only [List.length_drop, List.length_take]; rfl)) ?_; (with_reducible refine (verditerref08_isNumber.calls a1 false _ A5.out).mono ?_); rintro e w' ⟨rfl, ⟨nd, rfl⟩⟩; refine ⟨_, rfl, ?_⟩))
      go_ret2
      exact ⟨_, by first | rfl | (simp [errW_none, errW_some] <;> rfl) | (simp [*, errW_none, errW_some] <;> rfl), by first | exact Kd.R_nil _ _ _ _ _ | exact Kd.N_nil _ _ _ _ _ | exact Kd.V_nil _ _ _ _ _ | exact Kd.Q_nil _ _ _ _ _ | exact Kd.S_nil _ _ _ _ _, by repeat (first | (with_reducible first | exact HB.out | apply below_alloc | apply pw_below_drewN | apply below_drew1) | exact HB.out)⟩
  · rw [if_neg c4] at H
    have c4b0 : (t209 == 0) = false := beq_eq_false_iff_ne.mpr c4
    have c4b1 : (t209 != 0) = true := bne_iff_ne.mpr c4
    simp only [Option.some.injEq, Prod.mk.injEq] at H
    obtain ⟨rfl, rfl⟩ := H
    go_enter Try.func41, Try.ntmps41
    go_wp2_with (first | ((with_reducible refine gate_callee (f := 66) rfl ?_); refine goesL_ (some 8) rfl rfl Try.func66 (by kernel_rfl) rfl #[.slice A0 l0.length c0] rfl (by (try simp only [List.map_toArray, List.map_cons, List.map_nil]); first | done | rfl | (simp only [List.length_drop, List.length_take]; rfl)) ?_; (with_reducible refine (verditerref08_Validate.calls k _ _ l0 t209 _ ?side1 ?side2 A3.out).mono ?_); (case side1 => repeat (first | exact HR0.out | (with_reducible refine Kd.C_alloc ?_ _) | (with_reducible refine Kd.C_drewN ?_ _) | (with_reducible refine Kd.C_drew ?_))); (case side2 => exact HC0.out); rintro e w' ⟨rfl, ⟨nd, rfl⟩⟩; refine ⟨_, rfl, ?_⟩))
    go_ret2
    exact ⟨_, by first | rfl | (simp [errW_none, errW_some] <;> rfl) | (simp [*, errW_none, errW_some] <;> rfl), by first | exact Kd.R_nil _ _ _ _ _ | exact Kd.N_nil _ _ _ _ _ | exact Kd.V_nil _ _ _ _ _ | exact Kd.Q_nil _ _ _ _ _ | exact Kd.S_nil _ _ _ _ _, by repeat (first | (with_reducible first | exact HB.out | apply below_alloc | apply pw_below_drewN | apply below_drew1) | exact HB.out)⟩

end Go.Proofs.Ythlbjdiicmojfaa.P

/-! Part Eqs. -/
namespace Go.Proofs.Ythlbjdiicmojfaa.P
open Go.RowKit Go.Proofs.YthlbjdiicmojfaaW.PrintWords Go.Proofs.YthlbjdiicmojfaaW.PrintLast Go.Proofs.YthlbjdiicmojfaaW.PrintMore
set_option linter.unusedVariables false

theorem long_eq (l : List S43) : verditerlaw08_Long.f l = some (decide ((l.length : Int) > 100)) := rfl
theorem secretAt_ok {c : List Int} {x : Int} (hc : curveErr c = 0) (hx : num x = true) : secret_At.f c x = some (atI c x, 0) := by
  obtain ⟨h1, h2, h3⟩ := curveErr_iff.1 hc
  rw [secret_At.f, secret_isCurve.f, Option.bind_some, if_pos hc, isNumber_eq, Option.bind_some, if_pos hx, secret_curve_at.f, if_pos (by rw [hx, List.all_eq_true.2 h3, decide_eq_true (show c.length ≤ 12 by omega)]; rfl)]
  rfl
theorem curveErr_interp {p : List (Int × Int)} (h1 : 1 ≤ p.length) (h2 : p.length ≤ 6) : curveErr (interp p) = 0 :=
  curveErr_iff.2 ⟨by rw [interp_len]; exact h1, by rw [interp_len]; exact h2, interp_nums p⟩

/-! ### Curve, Secret -/
def curveR (l : List S43) : List Int × Int := if valid l = 0 then (if l.length = 0 then ([], 4) else if 6 < l.length then ([], 3) else (interp (pts l), 0)) else ([], valid l)
def secretR (l : List S43) : Int × Int := if (curveR l).2 = 0 then ((curveR l).1.getD 0 0, 0) else (0, (curveR l).2)
theorem curveR_ok {l : List S43} (h : (curveR l).2 = 0) : valid l = 0 ∧ 1 ≤ l.length ∧ l.length ≤ 6 ∧ (curveR l).1 = interp (pts l) := by
  unfold curveR at h ⊢
  by_cases hv : valid l = 0
  · rw [if_pos hv] at h ⊢
    by_cases h0 : l.length = 0
    · rw [if_pos h0] at h; cases h
    · rw [if_neg h0] at h ⊢
      by_cases h6 : 6 < l.length
      · rw [if_pos h6] at h; cases h
      · rw [if_neg h6]
        exact ⟨hv, by omega, by omega, rfl⟩
  · rw [if_neg hv] at h
    exact absurd h hv
theorem curveR_eq {l : List S43} (hv : valid l = 0) (h1 : 1 ≤ l.length) (h6 : l.length ≤ 6) : curveR l = (interp (pts l), 0) := by
  unfold curveR
  rw [if_pos hv, if_neg (by omega), if_neg (by omega)]
theorem curve_eq (l : List S43) : secret_Curve.f l = some (curveR l) := by
  rw [secret_Curve.f, secret_Validate.f, Option.bind_some]
  unfold curveR
  by_cases hv : valid l = 0
  · rw [if_pos hv, if_pos hv, secret_some.f]
    by_cases h0 : l.length = 0
    · rw [if_pos (by omega), if_pos h0]; rfl
    · rw [if_neg (by omega), if_neg h0]
      by_cases h6 : 6 < l.length
      · rw [if_pos (by omega), if_pos h6]; rfl
      · rw [if_neg (by omega), if_neg h6, Option.bind_some, if_pos rfl, secret_of.f, if_pos hv]; rfl
  · rw [if_neg hv, if_neg hv]
theorem rcurve_eq (l : List S43) (k : Nat) (hk : 7000 ≤ k) : verditerref08_Curve.f k l = some (curveR l) := by
  rw [verditerref08_Curve.f, rval_eq l k (by omega), Option.bind_some]
  unfold curveR
  by_cases hv : valid l = 0
  · rw [if_pos hv, if_pos hv]
    by_cases h0 : l.length = 0
    · rw [if_pos (by omega), if_pos h0]
    · rw [if_neg (by omega), if_neg h0]
      by_cases h6 : 6 < l.length
      · rw [if_pos (by omega), if_pos h6]
      · rw [if_neg (by omega), if_neg h6, through_eq l (by omega) (good_pts hv) k hk]; rfl
  · rw [if_neg hv, if_neg hv]
theorem secret_eq (l : List S43) : secret_Secret.f l = some (secretR l) := by
  rw [secret_Secret.f, curve_eq, Option.bind_some]
  unfold secretR
  by_cases h : (curveR l).2 = 0
  · obtain ⟨_, h1, _, he⟩ := curveR_ok h
    rw [if_pos h, if_pos h, if_pos (by rw [he, interp_len, pts_length]; omega)]; rfl
  · rw [if_neg h, if_neg h]
theorem rsecret_eq (l : List S43) (k : Nat) (hk : 7000 ≤ k) : verditerref08_Secret.f k l = some (secretR l) := by
  rw [verditerref08_Secret.f, rcurve_eq l k hk, Option.bind_some]
  unfold secretR
  by_cases h : (curveR l).2 = 0
  · obtain ⟨_, h1, _, he⟩ := curveR_ok h
    rw [if_pos h, if_pos h, if_pos (by rw [he, interp_len, pts_length]; omega)]; rfl
  · rw [if_neg h, if_neg h]

/-! ### Complete -/
theorem good_secret {l : List S43} {n : Int} (hv : valid l = 0) (hn : num n = true) : good ((0, n) :: pts l) := by
  have hg := good_pts hv
  obtain ⟨_, hok, _⟩ := valid_iff.1 hv
  refine ⟨fun q hq => ?_, ?_⟩
  · rcases List.mem_cons.1 hq with rfl | hq
    · exact ⟨rfl, hn⟩
    · exact hg.1 q hq
  · rw [List.map_cons, List.nodup_cons]
    refine ⟨fun hm => ?_, hg.2⟩
    obtain ⟨q, hq, e⟩ := List.mem_map.1 hm
    obtain ⟨p, hp, rfl⟩ := List.mem_map.1 hq
    have := okP_iff.1 (hok p hp)
    simp only at e
    omega
theorem rcomplete_eq (l : List S43) (n : Int) (k : Nat) (hk : 7000 ≤ k) : verditerref08_Complete.f k l n = secret_Complete.f l n := by
  rw [verditerref08_Complete.f, secret_Complete.f, rval_eq l k (by omega), Option.bind_some]
  by_cases hv : valid l = 0
  · rw [if_pos hv, if_pos hv, risNumber_eq, Option.bind_some]
    cases hn : num n with
    | false => rfl
    | true =>
      rw [if_pos rfl, if_pos rfl]
      by_cases h6 : 6 ≤ l.length
      · rw [if_pos (by omega), if_pos h6]
      · have e : pts ([⟨0, n⟩] ++ l) = (0, n) :: pts l := rfl
        rw [if_neg (by omega), if_neg h6, Option.bind_some, if_pos (by simp; omega), through_eq _ (by simp; omega) (by rw [e]; exact good_secret hv hn) k hk, e]; rfl
  · rw [if_neg hv, if_neg hv]
theorem map_pts_fst (l : List S43) : (pts l).map Prod.fst = l.map S43.f0 := by unfold pts; rw [List.map_map]; rfl
theorem valid_num {l : List S43} (hv : valid l = 0) {p : S43} (hp : p ∈ l) : num p.f0 = true ∧ num p.f1 = true := (good_pts hv).1 (p.f0, p.f1) (mem_pts hp)
end Go.Proofs.Ythlbjdiicmojfaa.P

/-! Part PF50. -/
-- Written for this claim by wip/print_more.py (a session's program that runs the kit's printer with hand-proved functions beside). Lean checks it.
namespace Go.Proofs.Ythlbjdiicmojfaa.P
open Go.RowKit Go.Proofs.YthlbjdiicmojfaaW.PrintWords Go.Proofs.YthlbjdiicmojfaaW.PrintLast Go.Proofs.YthlbjdiicmojfaaW.PrintMore
attribute [local go_sem] max2_int min2_int max_two min_two max_three min_three max_four min_four   -- for this text's walks alone
set_option linter.unusedVariables false
set_option linter.unusedSimpArgs false

/-! ### verditerref08_Share: function 50 -/
def verditerref08_Share.l0 : Nat → List Int → Int → List (S43) → Int → Option ((List (S43)) × Int)
  | 0, _, _, _, _ => none
  | k + 1, x0, x1, x7, x8 => if x8 ≤ x1 then ((verditerref08_at.f k x0 x8).bind fun t300 => (if x7.length < 8796093022208 then (verditerref08_Share.l0 k x0 x1 (x7 ++ [(⟨x8, t300⟩ : S43)]) (wrap64 (x8 + 1))) else (none))) else (some (x7, 0))
def verditerref08_Share.f (k : Nat) (l0 : List Int) (a1 : Int) : Option ((List (S43)) × Int) := (verditerref08_curved.f k l0).bind fun t298 => (if t298 = 0 then ((verditerref08_within.f a1 1 12).bind fun t299 => (if t299 = true then (verditerref08_Share.l0 k l0 a1 ([] : List (S43)) 1) else (some (([] : List (S43)), 1)))) else (some (([] : List (S43)), t298)))
theorem verditerref08_Share.mono_l : ∀ k, (∀ y0 y1 y2 y3, LeO (verditerref08_Share.l0 k y0 y1 y2 y3) (verditerref08_Share.l0 (k + 1) y0 y1 y2 y3))
  | 0 => fun _ _ _ _ r h => by simp [verditerref08_Share.l0] at h
  | k + 1 => by
    have ih0 := verditerref08_Share.mono_l k
    · intro y0 y1 y2 y3
      unfold verditerref08_Share.l0
      repeat' first
      | (with_reducible exact ih0 _ _ _ _)
      | (with_reducible exact verditerref08_at.mono _ _ _)
      | (with_reducible exact verditerref08_curved.mono _ _)
      | (with_reducible exact LeO.refl _)
      | (with_reducible exact LeO.none _)
      | (with_reducible refine LeO.ite ?_ ?_)
      | (with_reducible refine LeO.bind ?_ (fun _ => ?_))
      | exact ih0 _ _ _ _
      | exact verditerref08_at.mono _ _ _
      | exact verditerref08_curved.mono _ _
      | exact LeO.none _
      | refine LeO.ite ?_ ?_
      | refine LeO.bind ?_ (fun _ => ?_)
theorem verditerref08_Share.mono : ∀ a0 a1 k, LeO (verditerref08_Share.f k a0 a1) (verditerref08_Share.f (k + 1) a0 a1) := by
  intro a0 a1 k
  have ih0 := verditerref08_Share.mono_l k
  unfold verditerref08_Share.f
  repeat' first
      | (with_reducible exact ih0 _ _ _ _)
      | (with_reducible exact verditerref08_at.mono _ _ _)
      | (with_reducible exact verditerref08_curved.mono _ _)
      | (with_reducible exact LeO.refl _)
      | (with_reducible exact LeO.none _)
      | (with_reducible refine LeO.ite ?_ ?_)
      | (with_reducible refine LeO.bind ?_ (fun _ => ?_))
      | exact ih0 _ _ _ _
      | exact verditerref08_at.mono _ _ _
      | exact verditerref08_curved.mono _ _
      | exact LeO.none _
      | refine LeO.ite ?_ ?_
      | refine LeO.bind ?_ (fun _ => ?_)
set_option maxHeartbeats 8000000 in
set_option maxRecDepth 100000 in
theorem verditerref08_Share.calls (k : Nat) (A0 : Option Addr) (c0 : Nat) (l0 : List Int) (a1 : Int) (r1 : List (S43)) (r2 : Int) (w : World) (hr0 : Kd.C (Kd.int .i64) w A0 l0.length l0) (hc0 : l0.length ≤ c0) (h : verditerref08_Share.f k l0 a1 = some (r1, r2)) :
    Calls Try.prog 50 #[.slice A0 l0.length c0, .int .i64 a1] w fun e w' => ∃ v0_ : Value, e = .returned (.tuple #[v0_, .int .i64 r2]) ∧ Kd.R k43 43 w' w.heap.size (fun _ => True) v0_ r1 ∧ Below w.heap.size w w' := by
  have hu43 := Try.underlying43
  have HR0 := Aside0.mk hr0
  have HC0 := Aside0.mk hc0
  clear hr0 hc0
  have HB := Aside0.mk (Below.refl w.heap.size w)
  have H : ((verditerref08_curved.f k l0).bind fun t298 => (if t298 = 0 then ((verditerref08_within.f a1 1 12).bind fun t299 => (if t299 = true then (verditerref08_Share.l0 k l0 a1 ([] : List (S43)) 1) else (some (([] : List (S43)), 1)))) else (some (([] : List (S43)), t298)))) = some (r1, r2) := h
  clear h
  replace H := Option.bind_eq_some_iff.mp H
  obtain ⟨t298, A30, H⟩ := H
  replace H : (if t298 = 0 then ((verditerref08_within.f a1 1 12).bind fun t299 => (if t299 = true then (verditerref08_Share.l0 k l0 a1 ([] : List (S43)) 1) else (some (([] : List (S43)), 1)))) else (some (([] : List (S43)), t298))) = some (r1, r2) := H
  have A3 := Aside0.mk A30
  clear A30
  by_cases c4 : t298 = 0
  · rw [if_pos c4] at H
    have c4b0 : (t298 == 0) = true := beq_iff_eq.mpr c4
    have c4b1 : (t298 != 0) = false := bne_eq_false_iff_eq.mpr c4
    clear c4
    replace H := Option.bind_eq_some_iff.mp H
    obtain ⟨t299, A50, H⟩ := H
    replace H : (if t299 = true then (verditerref08_Share.l0 k l0 a1 ([] : List (S43)) 1) else (some (([] : List (S43)), 1))) = some (r1, r2) := H
    have A5 := Aside0.mk A50
    clear A50
    by_cases c6 : t299 = true
    · subst c6
      have H1 : (verditerref08_Share.l0 k l0 a1 ([] : List (S43)) 1) = some (r1, r2) := by rw [if_pos rfl] at H; exact H
      clear H
      have H := H1
      clear H1
      have H' := Aside0.mk H
      clear H
      go_enter Try.func50, Try.ntmps50
      go_wp2_with (first | ((with_reducible refine gate_callee (f := 81) rfl ?_); refine goesL_ (some 10) rfl rfl Try.func81 (by kernel_rfl) rfl #[.slice A0 l0.length c0] rfl (by (try simp only [List.map_toArray, List.map_cons, List.map_nil]); first | done | rfl | (simp only [List.length_drop, List.length_take]; rfl)) ?_; (with_reducible refine (verditerref08_curved.calls k _ _ l0 t298 _ ?side1 ?side2 A3.out).mono ?_); (case side1 => repeat (first | exact HR0.out | (with_reducible refine Kd.C_alloc ?_ _) | (with_reducible refine Kd.C_drewN ?_ _) | (with_reducible refine Kd.C_drew ?_))); (case side2 => exact HC0.out); rintro e w' ⟨rfl, ⟨nd, rfl⟩⟩; refine ⟨_, rfl, ?_⟩) | ((with_reducible refine gate_callee (f := 83) rfl ?_); refine goesL_ (some 15) rfl rfl Try.func83 (by kernel_rfl) rfl #[.int .i64 a1, .int .i64 1, .int .i64 12] rfl (by (try simp only [List.map_toArray, List.map_cons, List.map_nil]); first | done | rfl | (simp only [List.length_drop, List.length_take]; rfl)) ?_; (with_reducible refine (verditerref08_within.calls a1 1 12 true _ A5.out).mono ?_); rintro e w' ⟨rfl, ⟨nd, rfl⟩⟩; refine ⟨_, rfl, ?_⟩))
      go_loopg [7, 8] k (fun kq v7 v8 w' => ∃ (x7_1 : List (S43)) (x8_1 : Int), v8 = .int .i64 x8_1 ∧ Aside0 (verditerref08_Share.l0 kq l0 a1 x7_1 x8_1 = some (r1, r2)) ∧ Aside0 (kq ≤ k) ∧ Aside0 (Kd.R k43 43 w' w.heap.size (fun _ => True) v7 x7_1) ∧ Aside0 (Below w.heap.size w w'))
      case atStart => exact ⟨(([] : List (S43))), (1), (by first | rfl | (simp; done) | (simp [*]; done)), H', ⟨Nat.le_refl _⟩, ⟨by first | exact Kd.R_nil _ _ _ _ _ | exact Kd.N_nil _ _ _ _ _ | exact Kd.V_nil _ _ _ _ _ | exact Kd.Q_nil _ _ _ _ _ | exact Kd.S_nil _ _ _ _ _⟩, ⟨by repeat (first | (with_reducible first | exact HB.out | apply below_alloc | apply pw_below_drewN | apply below_drew1) | exact HB.out)⟩⟩
      case round =>
        clear H'
        try clear p2
        try clear c4
        try clear c4b0
        try clear c4b1
        try clear c5
        try clear c6
        obtain ⟨x7_1, x8_1, rfl, HA, HK1, HO_7, HB⟩ := hrel
        cases gk with
        | zero => exact absurd HA.out (by simp [verditerref08_Share.l0])
        | succ k1 =>
          have H := HA.out
          clear HA
          simp only [verditerref08_Share.l0] at H
          by_cases c7 : x8_1 ≤ a1
          · rw [if_pos c7] at H
            have c7b0 : decide (x8_1 ≤ a1) = true := decide_eq_true c7
            clear c7
            replace H := Option.bind_eq_some_iff.mp H
            obtain ⟨t300, A80, H⟩ := H
            replace H : (if x7_1.length < 8796093022208 then (verditerref08_Share.l0 k1 l0 a1 (x7_1 ++ [(⟨x8_1, t300⟩ : S43)]) (wrap64 (x8_1 + 1))) else (none)) = some (r1, r2) := H
            have A8 := Aside0.mk A80
            clear A80
            by_cases c9 : x7_1.length < 8796093022208
            · rw [if_pos c9] at H
              have LMc9 := Aside0.mk c9
              clear c9
              obtain ⟨y301, hy301⟩ : ∃ y_ : List (S43), y_ = (x7_1 ++ [(⟨x8_1, t300⟩ : S43)]) := ⟨_, rfl⟩
              replace H : (verditerref08_Share.l0 k1 l0 a1 y301 (wrap64 (x8_1 + 1))) = some (r1, r2) := by first | (rw [hy301]; with_reducible exact H) | (have H2_ := (Option.bind_some _ _).symm.trans H; rw [hy301]; with_reducible exact H2_) | (have H2_ := (Option.bind_some _ _).symm.trans H; with_reducible exact H2_) | with_reducible exact H | (rw [hy301]; exact H) | exact H
              have Ny301 := Aside0.mk hy301
              clear hy301
              have H' := Aside0.mk H
              clear H
              go_wp2_with (first | ((with_reducible refine gate_callee (f := 82) rfl ?_); refine goesL_ (some 26) rfl rfl Try.func82 (by kernel_rfl) rfl #[.slice A0 l0.length c0, .int .i64 x8_1] rfl (by (try simp only [List.map_toArray, List.map_cons, List.map_nil]); first | done | rfl | (simp only [List.length_drop, List.length_take]; rfl)) ?_; (with_reducible refine (verditerref08_at.calls k1 _ _ l0 x8_1 t300 _ ?side1 ?side2 A8.out).mono ?_); (case side1 => repeat (first | exact (Kd.C_below HR0.out HB.out) | (with_reducible refine Kd.C_alloc ?_ _) | (with_reducible refine Kd.C_drewN ?_ _) | (with_reducible refine Kd.C_drew ?_))); (case side2 => exact HC0.out); rintro e w' ⟨rfl, ⟨nd, rfl⟩⟩; refine ⟨_, rfl, ?_⟩) | ((with_reducible refine gate_builtin (b := .append) (xs := #[.tmp 22, .tmp 28]) rfl ?_); at_builtin; refine Kd.R_append k43 (w0 := w) w.heap.size rfl (.tmp 22) (.tmp 28) 22 43 (.agg #[(.int .i64 0), (.int .i64 0)]) 16 rfl Try.underlying22 info43 rfl (by decide) (by omega) u7 x7_1 (⟨x8_1, t300⟩ : S43) [.int .i64 x8_1, .int .i64 t300] (fun _ => True) (fun _ => False) rfl rfl ?aP (fun _ hk => hk.elim) ?aF ?aO ?aB ?aS ?aL ?_; (case aP => exact k43_mkM _ _ _ (⟨x8_1, t300⟩ : S43)); (case aB => exact (by repeat (first | (with_reducible first | exact HB.out | apply below_alloc | apply pw_below_drewN | apply below_drew1) | exact HB.out))); (case aF => exact (fun _ _ => trivial)); (case aO => exact (by (with_reducible repeat (first | apply Kd.R_alloc | apply Kd.R_drewN | apply Kd.R_drew)); exact HO_7.out)); (case aS => exact (below_size (by repeat (first | (with_reducible first | exact HB.out | apply below_alloc | apply pw_below_drewN | apply below_drew1) | exact HB.out)))); (case aL => have := LMc9.out; omega); intro v302 w10 ho hb hg hat; rw [← Ny301.out] at ho; have n0_ := Aside0.mk (hb); have n1_ := Aside0.mk (ho); clear HB; clear HO_7; have HB := n0_; have HO303 := n1_; clear n0_ n1_; clear ho hb hg hat))
              go_roundg k1
              case measure => have := HK1.out; omega
              case rel => exact ⟨(y301), (wrap64 (x8_1 + 1)), (by first | rfl | (simp; done) | (simp [*]; done)), H', ⟨by have := HK1.out; omega⟩, ⟨by (with_reducible repeat (first | apply Kd.R_alloc | apply Kd.R_drewN | apply Kd.R_drew)); exact HO303.out⟩, ⟨by repeat (first | (with_reducible first | exact HB.out | apply below_alloc | apply pw_below_drewN | apply below_drew1) | exact HB.out)⟩⟩
            · rw [if_neg c9] at H
              exact absurd H (by simp)
          · rw [if_neg c7] at H
            have c7b0 : decide (x8_1 ≤ a1) = false := decide_eq_false c7
            clear c7
            simp only [Option.some.injEq, Prod.mk.injEq] at H
            obtain ⟨rfl, rfl⟩ := H
            go_wp2
            go_ret2
            exact ⟨_, by first | rfl | (simp [errW_none, errW_some] <;> rfl) | (simp [*, errW_none, errW_some] <;> rfl), by (with_reducible repeat (first | apply Kd.R_alloc | apply Kd.R_drewN | apply Kd.R_drew)); exact HO_7.out, by repeat (first | (with_reducible first | exact HB.out | apply below_alloc | apply pw_below_drewN | apply below_drew1) | exact HB.out)⟩
    · replace c6 := Bool.eq_false_iff.mpr c6
      subst c6
      have H1 : (some (([] : List (S43)), 1)) = some (r1, r2) := by rw [if_neg (show ¬ (false = true) by decide)] at H; exact H
      clear H
      have H := H1
      clear H1
      simp only [Option.some.injEq, Prod.mk.injEq] at H
      obtain ⟨rfl, rfl⟩ := H
      go_enter Try.func50, Try.ntmps50
      go_wp2_with (first | ((with_reducible refine gate_callee (f := 81) rfl ?_); refine goesL_ (some 10) rfl rfl Try.func81 (by kernel_rfl) rfl #[.slice A0 l0.length c0] rfl (by (try simp only [List.map_toArray, List.map_cons, List.map_nil]); first | done | rfl | (simp only [List.length_drop, List.length_take]; rfl)) ?_; (with_reducible refine (verditerref08_curved.calls k _ _ l0 t298 _ ?side1 ?side2 A3.out).mono ?_); (case side1 => repeat (first | exact HR0.out | (with_reducible refine Kd.C_alloc ?_ _) | (with_reducible refine Kd.C_drewN ?_ _) | (with_reducible refine Kd.C_drew ?_))); (case side2 => exact HC0.out); rintro e w' ⟨rfl, ⟨nd, rfl⟩⟩; refine ⟨_, rfl, ?_⟩) | ((with_reducible refine gate_callee (f := 83) rfl ?_); refine goesL_ (some 15) rfl rfl Try.func83 (by kernel_rfl) rfl #[.int .i64 a1, .int .i64 1, .int .i64 12] rfl (by (try simp only [List.map_toArray, List.map_cons, List.map_nil]); first | done | rfl | (simp only [List.length_drop, List.length_take]; rfl)) ?_; (with_reducible refine (verditerref08_within.calls a1 1 12 false _ A5.out).mono ?_); rintro e w' ⟨rfl, ⟨nd, rfl⟩⟩; refine ⟨_, rfl, ?_⟩))
      go_ret2
      exact ⟨_, by first | rfl | (simp [errW_none, errW_some] <;> rfl) | (simp [*, errW_none, errW_some] <;> rfl), by first | exact Kd.R_nil _ _ _ _ _ | exact Kd.N_nil _ _ _ _ _ | exact Kd.V_nil _ _ _ _ _ | exact Kd.Q_nil _ _ _ _ _ | exact Kd.S_nil _ _ _ _ _, by repeat (first | (with_reducible first | exact HB.out | apply below_alloc | apply pw_below_drewN | apply below_drew1) | exact HB.out)⟩
  · rw [if_neg c4] at H
    have c4b0 : (t298 == 0) = false := beq_eq_false_iff_ne.mpr c4
    have c4b1 : (t298 != 0) = true := bne_iff_ne.mpr c4
    simp only [Option.some.injEq, Prod.mk.injEq] at H
    obtain ⟨rfl, rfl⟩ := H
    go_enter Try.func50, Try.ntmps50
    go_wp2_with (first | ((with_reducible refine gate_callee (f := 81) rfl ?_); refine goesL_ (some 10) rfl rfl Try.func81 (by kernel_rfl) rfl #[.slice A0 l0.length c0] rfl (by (try simp only [List.map_toArray, List.map_cons, List.map_nil]); first | done | rfl | (simp only [List.length_drop, List.length_take]; rfl)) ?_; (with_reducible refine (verditerref08_curved.calls k _ _ l0 t298 _ ?side1 ?side2 A3.out).mono ?_); (case side1 => repeat (first | exact HR0.out | (with_reducible refine Kd.C_alloc ?_ _) | (with_reducible refine Kd.C_drewN ?_ _) | (with_reducible refine Kd.C_drew ?_))); (case side2 => exact HC0.out); rintro e w' ⟨rfl, ⟨nd, rfl⟩⟩; refine ⟨_, rfl, ?_⟩))
    go_ret2
    exact ⟨_, by first | rfl | (simp [errW_none, errW_some] <;> rfl) | (simp [*, errW_none, errW_some] <;> rfl), by first | exact Kd.R_nil _ _ _ _ _ | exact Kd.N_nil _ _ _ _ _ | exact Kd.V_nil _ _ _ _ _ | exact Kd.Q_nil _ _ _ _ _ | exact Kd.S_nil _ _ _ _ _, by repeat (first | (with_reducible first | exact HB.out | apply below_alloc | apply pw_below_drewN | apply below_drew1) | exact HB.out)⟩

end Go.Proofs.Ythlbjdiicmojfaa.P

/-! Part PF54. -/
-- Written for this claim by wip/print_more.py (a session's program that runs the kit's printer with hand-proved functions beside). Lean checks it.
namespace Go.Proofs.Ythlbjdiicmojfaa.P
open Go.RowKit Go.Proofs.YthlbjdiicmojfaaW.PrintWords Go.Proofs.YthlbjdiicmojfaaW.PrintLast Go.Proofs.YthlbjdiicmojfaaW.PrintMore
attribute [local go_sem] max2_int min2_int max_two min_two max_three min_three max_four min_four   -- for this text's walks alone
set_option linter.unusedVariables false
set_option linter.unusedSimpArgs false

/-! ### verditerref08_LieOn: function 54 -/
def verditerref08_LieOn.f (k : Nat) (l0 : List (S43)) (a1 : Int) : Option (Bool × Int) := (verditerref08_needed.f k l0 a1).bind fun t334 => (if t334 = 0 then ((verditerref08_lie.f k l0 a1).bind fun t335 => (some (t335, 0))) else (some (false, t334)))
theorem verditerref08_LieOn.mono : ∀ a0 a1 k, LeO (verditerref08_LieOn.f k a0 a1) (verditerref08_LieOn.f (k + 1) a0 a1) := by
  intro a0 a1 k
  unfold verditerref08_LieOn.f
  repeat' first
      | (with_reducible exact verditerref08_lie.mono _ _ _)
      | (with_reducible exact verditerref08_needed.mono _ _ _)
      | (with_reducible exact LeO.refl _)
      | (with_reducible exact LeO.none _)
      | (with_reducible refine LeO.ite ?_ ?_)
      | (with_reducible refine LeO.bind ?_ (fun _ => ?_))
      | exact verditerref08_lie.mono _ _ _
      | exact verditerref08_needed.mono _ _ _
      | exact LeO.none _
      | refine LeO.ite ?_ ?_
      | refine LeO.bind ?_ (fun _ => ?_)
set_option maxHeartbeats 8000000 in
set_option maxRecDepth 100000 in
theorem verditerref08_LieOn.calls (k : Nat) (A0 : Option Addr) (c0 : Nat) (l0 : List (S43)) (a1 : Int) (r1 : Bool) (r2 : Int) (w : World) (hr0 : Kd.C k43 w A0 l0.length l0) (hc0 : l0.length ≤ c0) (h : verditerref08_LieOn.f k l0 a1 = some (r1, r2)) :
    Calls Try.prog 54 #[.slice A0 l0.length c0, .int .i64 a1] w fun e w' => e = .returned (.tuple #[.bool r1, .int .i64 r2]) ∧ Below w.heap.size w w' := by
  have HR0 := Aside0.mk hr0
  have HC0 := Aside0.mk hc0
  clear hr0 hc0
  have HB := Aside0.mk (Below.refl w.heap.size w)
  have H : ((verditerref08_needed.f k l0 a1).bind fun t334 => (if t334 = 0 then ((verditerref08_lie.f k l0 a1).bind fun t335 => (some (t335, 0))) else (some (false, t334)))) = some (r1, r2) := h
  clear h
  replace H := Option.bind_eq_some_iff.mp H
  obtain ⟨t334, A30, H⟩ := H
  replace H : (if t334 = 0 then ((verditerref08_lie.f k l0 a1).bind fun t335 => (some (t335, 0))) else (some (false, t334))) = some (r1, r2) := H
  have A3 := Aside0.mk A30
  clear A30
  by_cases c4 : t334 = 0
  · rw [if_pos c4] at H
    have c4b0 : (t334 == 0) = true := beq_iff_eq.mpr c4
    have c4b1 : (t334 != 0) = false := bne_eq_false_iff_eq.mpr c4
    clear c4
    replace H := Option.bind_eq_some_iff.mp H
    obtain ⟨t335, A50, H⟩ := H
    replace H : (some (t335, 0)) = some (r1, r2) := H
    have A5 := Aside0.mk A50
    clear A50
    simp only [Option.some.injEq, Prod.mk.injEq] at H
    obtain ⟨rfl, rfl⟩ := H
    go_enter Try.func54, Try.ntmps54
    go_wp2_with (first | ((with_reducible refine gate_callee (f := 91) rfl ?_); refine goesL_ (some 9) rfl rfl Try.func91 (by kernel_rfl) rfl #[.slice A0 l0.length c0, .int .i64 a1] rfl (by (try simp only [List.map_toArray, List.map_cons, List.map_nil]); first | done | rfl | (simp only [List.length_drop, List.length_take]; rfl)) ?_; (with_reducible refine (verditerref08_needed.calls k _ _ l0 a1 t334 _ ?side1 ?side2 A3.out).mono ?_); (case side1 => repeat (first | exact HR0.out | (with_reducible refine Kd.C_alloc ?_ _) | (with_reducible refine Kd.C_drewN ?_ _) | (with_reducible refine Kd.C_drew ?_))); (case side2 => exact HC0.out); rintro e w' ⟨rfl, ⟨nd, rfl⟩⟩; refine ⟨_, rfl, ?_⟩) | ((with_reducible refine gate_callee (f := 92) rfl ?_); refine goesL_ (some 15) rfl rfl Try.func92 (by kernel_rfl) rfl #[.slice A0 l0.length c0, .int .i64 a1] rfl (by (try simp only [List.map_toArray, List.map_cons, List.map_nil]); first | done | rfl | (simp only [List.length_drop, List.length_take]; rfl)) ?_; (with_reducible refine (verditerref08_lie.calls k _ _ l0 a1 t335 _ ?side1 ?side2 A5.out).mono ?_); (case side1 => repeat (first | exact HR0.out | (with_reducible refine Kd.C_alloc ?_ _) | (with_reducible refine Kd.C_drewN ?_ _) | (with_reducible refine Kd.C_drew ?_))); (case side2 => exact HC0.out); rintro e w6 ⟨rfl, hb⟩; refine ⟨_, rfl, ?_⟩; have n0_ := Aside0.mk (below_step (by repeat (first | (with_reducible first | exact HB.out | apply below_alloc | apply pw_below_drewN | apply below_drew1) | exact HB.out)) hb); clear HB; have HB := n0_; clear n0_; (try clear hb); (try clear hb2); (try clear hk); (try clear hi)))
    go_ret2
    exact ⟨by first | rfl | (simp [errW_none, errW_some] <;> rfl) | (simp [*, errW_none, errW_some] <;> rfl), by repeat (first | (with_reducible first | exact HB.out | apply below_alloc | apply pw_below_drewN | apply below_drew1) | exact HB.out)⟩
  · rw [if_neg c4] at H
    have c4b0 : (t334 == 0) = false := beq_eq_false_iff_ne.mpr c4
    have c4b1 : (t334 != 0) = true := bne_iff_ne.mpr c4
    simp only [Option.some.injEq, Prod.mk.injEq] at H
    obtain ⟨rfl, rfl⟩ := H
    go_enter Try.func54, Try.ntmps54
    go_wp2_with (first | ((with_reducible refine gate_callee (f := 91) rfl ?_); refine goesL_ (some 9) rfl rfl Try.func91 (by kernel_rfl) rfl #[.slice A0 l0.length c0, .int .i64 a1] rfl (by (try simp only [List.map_toArray, List.map_cons, List.map_nil]); first | done | rfl | (simp only [List.length_drop, List.length_take]; rfl)) ?_; (with_reducible refine (verditerref08_needed.calls k _ _ l0 a1 t334 _ ?side1 ?side2 A3.out).mono ?_); (case side1 => repeat (first | exact HR0.out | (with_reducible refine Kd.C_alloc ?_ _) | (with_reducible refine Kd.C_drewN ?_ _) | (with_reducible refine Kd.C_drew ?_))); (case side2 => exact HC0.out); rintro e w' ⟨rfl, ⟨nd, rfl⟩⟩; refine ⟨_, rfl, ?_⟩))
    go_ret2
    exact ⟨by first | rfl | (simp [errW_none, errW_some] <;> rfl) | (simp [*, errW_none, errW_some] <;> rfl), by repeat (first | (with_reducible first | exact HB.out | apply below_alloc | apply pw_below_drewN | apply below_drew1) | exact HB.out)⟩

end Go.Proofs.Ythlbjdiicmojfaa.P

/-! Part Eqs2. -/
namespace Go.Proofs.Ythlbjdiicmojfaa.P
open Go.RowKit Go.Proofs.YthlbjdiicmojfaaW.PrintWords Go.Proofs.YthlbjdiicmojfaaW.PrintLast Go.Proofs.YthlbjdiicmojfaaW.PrintMore
set_option linter.unusedVariables false

/-! ### What lies on a curve -/
def neededR (l : List S43) (n : Int) : Int := if valid l = 0 then (if 1 ≤ n ∧ n ≤ 6 then 0 else 1) else valid l
theorem neededR_ok {l : List S43} {n : Int} (h : neededR l n = 0) : valid l = 0 ∧ 1 ≤ n ∧ n ≤ 6 := by
  unfold neededR at h
  by_cases hv : valid l = 0
  · rw [if_pos hv] at h
    by_cases hn : 1 ≤ n ∧ n ≤ 6
    · exact ⟨hv, hn⟩
    · rw [if_neg hn] at h; cases h
  · rw [if_neg hv] at h
    exact absurd h hv
theorem neededR_eq {l : List S43} {n : Int} (hv : valid l = 0) (h1 : 1 ≤ n) (h6 : n ≤ 6) : neededR l n = 0 := by
  unfold neededR; rw [if_pos hv, if_pos ⟨h1, h6⟩]
theorem swithin_eq (a lo hi : Int) : secret_within.f a lo hi = some (decide (lo ≤ a) && decide (a ≤ hi)) := by
  unfold secret_within.f
  split
  · rename_i h; rw [decide_eq_true (show lo ≤ a from h)]; rfl
  · rename_i h; rw [decide_eq_false (show ¬ lo ≤ a from h)]; rfl
theorem within_if {α : Type} (a lo hi : Int) (x y : α) : (if (decide (lo ≤ a) && decide (a ≤ hi)) = true then x else y) = (if lo ≤ a ∧ a ≤ hi then x else y) := by
  by_cases h : lo ≤ a ∧ a ≤ hi
  · rw [if_pos h, if_pos (by rw [decide_eq_true h.1, decide_eq_true h.2]; rfl)]
  · rw [if_neg h, if_neg]
    intro e
    rw [Bool.and_eq_true, decide_eq_true_iff, decide_eq_true_iff] at e
    exact h e
theorem needed_eq (l : List S43) (n : Int) : secret_needed.f l n = some (neededR l n) := by
  rw [secret_needed.f, secret_Validate.f, Option.bind_some]
  unfold neededR
  by_cases hv : valid l = 0
  · rw [if_pos hv, if_pos hv, swithin_eq, Option.bind_some, within_if]
    split <;> rfl
  · rw [if_neg hv, if_neg hv]
theorem rneeded_eq (l : List S43) (n : Int) (k : Nat) (hk : 300 ≤ k) : verditerref08_needed.f k l n = some (neededR l n) := by
  rw [verditerref08_needed.f, rval_eq l k hk, Option.bind_some]
  unfold neededR
  by_cases hv : valid l = 0
  · rw [if_pos hv, if_pos hv, rwithin_eq, Option.bind_some, within_if]
    split <;> rfl
  · rw [if_neg hv, if_neg hv]
theorem valid_sub {l m : List S43} (h : valid l = 0) (hs : m.Sublist l) : valid m = 0 := by
  obtain ⟨h1, h2, h3⟩ := valid_iff.1 h
  exact valid_iff.2 ⟨Nat.le_trans hs.length_le h1, fun p hp => h2 p (hs.subset hp), List.Nodup.sublist (hs.map S43.f0) h3⟩
theorem lie_loop (l : List S43) (c : List Int) (hv : valid l = 0) (hc : ∀ n ∈ c, num n = true) (hcl : c.length ≤ 12) : ∀ (d i k : Nat), i + d = l.length → d + 100 < k → verditerref08_lie.l0 k l c (i : Int) = some ((l.drop i).all fun p => atI c p.f0 == p.f1) := by
  obtain ⟨hlen, _, _⟩ := valid_iff.1 hv
  intro d
  induction d with
  | zero =>
    intro i k hi hk
    obtain ⟨k, rfl⟩ : ∃ j, k = j + 1 := ⟨k - 1, by omega⟩
    rw [verditerref08_lie.l0, if_neg (by omega), List.drop_of_length_le (by omega)]; rfl
  | succ d ih =>
    intro i k hi hk
    obtain ⟨k, rfl⟩ : ∃ j, k = j + 1 := ⟨k - 1, by omega⟩
    have hil : i < l.length := by omega
    rw [verditerref08_lie.l0, if_pos (by omega), if_pos (by omega), rdT_get l i hil, rat_eq c _ hc (valid_num hv (List.getElem_mem hil)).1 (by omega) k (by omega), Option.bind_some, List.drop_eq_getElem_cons hil, List.all_cons]
    by_cases e : atI c l[i].f0 = l[i].f1
    · rw [if_pos e, wrap_succ i (by omega), ih (i + 1) k (by omega) (by omega), beq_iff_eq.2 e]; rfl
    · rw [if_neg e, beq_eq_false_iff_ne.2 e]; rfl
theorem all_take {l : List S43} {n : Nat} (hv : valid l = 0) : ((l.take n).all fun p => atI (interp (pts (l.take n))) p.f0 == p.f1) = true := by
  rw [List.all_eq_true]
  intro p hp
  exact beq_iff_eq.2 (interp_at (good_pts (valid_sub hv (List.take_sublist n l))) (mem_pts hp))
theorem rlie_eq (l : List S43) (n : Int) (hv : valid l = 0) (h1 : 1 ≤ n) (h6 : n ≤ 6) (k : Nat) (hk : 7000 ≤ k) : verditerref08_lie.f k l n = some (lies l n.toNat) := by
  obtain ⟨hlen, _, _⟩ := valid_iff.1 hv
  rw [verditerref08_lie.f]
  unfold lies
  by_cases hln : (l.length : Int) ≤ n
  · rw [if_pos hln, decide_eq_true (show l.length ≤ n.toNat by omega)]; rfl
  · rw [if_neg hln, if_pos (by omega), if_pos (by omega), decide_eq_false (show ¬ l.length ≤ n.toNat by omega), Bool.false_or]
    have hvt := valid_sub hv (List.take_sublist n.toNat l)
    have htl : (l.take n.toNat).length = n.toNat := by rw [List.length_take]; omega
    rw [through_eq _ (by omega) (good_pts hvt) k hk, Option.bind_some]
    have := lie_loop l (interp (pts (l.take n.toNat))) hv (interp_nums _) (by rw [interp_len, pts_length]; omega) (l.length - n.toNat) n.toNat k (by omega) (by omega)
    rw [show ((n.toNat : Nat) : Int) = n by omega] at this
    rw [this]
    have h := all_take (n := n.toNat) hv
    have e : (l.all fun p => atI (interp (pts (l.take n.toNat))) p.f0 == p.f1) = (((l.take n.toNat) ++ (l.drop n.toNat)).all fun p => atI (interp (pts (l.take n.toNat))) p.f0 == p.f1) := by rw [List.take_append_drop]
    rw [e, List.all_append, h, Bool.true_and]
def lieOnR (l : List S43) (n : Int) : Bool × Int := if neededR l n = 0 then (lies l n.toNat, 0) else (false, neededR l n)
theorem lieOn_eq' (l : List S43) (n : Int) : secret_LieOn.f l n = some (lieOnR l n) := by
  rw [secret_LieOn.f, needed_eq, Option.bind_some]
  unfold lieOnR
  by_cases h : neededR l n = 0
  · obtain ⟨hv, h1, h6⟩ := neededR_ok h
    rw [if_pos h, if_pos h, secret_lieOn.f, if_pos ⟨hv, h1, h6⟩]; rfl
  · rw [if_neg h, if_neg h]
theorem rlieOn_eq (l : List S43) (n : Int) (k : Nat) (hk : 7000 ≤ k) : verditerref08_LieOn.f k l n = some (lieOnR l n) := by
  rw [verditerref08_LieOn.f, rneeded_eq l n k (by omega), Option.bind_some]
  unfold lieOnR
  by_cases h : neededR l n = 0
  · obtain ⟨hv, h1, h6⟩ := neededR_ok h
    rw [if_pos h, if_pos h, rlie_eq l n hv h1 h6 k hk]; rfl
  · rw [if_neg h, if_neg h]

/-! ### Shares -/
def shares (c : List Int) (n : Nat) : List S43 := (List.range n).map fun i => ⟨((i + 1 : Nat) : Int), atI c ((i + 1 : Nat) : Int)⟩
def shareR (c : List Int) (n : Int) : List S43 × Int := if curveErr c = 0 then (if 1 ≤ n ∧ n ≤ 12 then (shares c n.toNat, 0) else ([], 1)) else ([], curveErr c)
theorem shares_succ (c : List Int) (n : Nat) : shares c (n + 1) = shares c n ++ [⟨((n + 1 : Nat) : Int), atI c ((n + 1 : Nat) : Int)⟩] := by
  unfold shares; rw [List.range_succ, List.map_append]; rfl
theorem shares_length (c : List Int) (n : Nat) : (shares c n).length = n := by simp [shares]
theorem share_loop (c : List Int) (n : Nat) (hc : curveErr c = 0) (hn : n ≤ 12) : ∀ (d i k : Nat), i + d = n → d + 100 < k → secret_Share.l0 k c (n : Int) (shares c i) ((i + 1 : Nat) : Int) = some (shares c n, 0) := by
  obtain ⟨h1, h2, h3⟩ := curveErr_iff.1 hc
  intro d
  induction d with
  | zero =>
    intro i k hi hk
    obtain ⟨k, rfl⟩ : ∃ j, k = j + 1 := ⟨k - 1, by omega⟩
    rw [secret_Share.l0, if_neg (by omega), show i = n by omega]
  | succ d ih =>
    intro i k hi hk
    obtain ⟨k, rfl⟩ : ∃ j, k = j + 1 := ⟨k - 1, by omega⟩
    have hx : num ((i + 1 : Nat) : Int) = true := num_iff.2 (by omega)
    rw [secret_Share.l0, if_pos (by omega), secret_curve_at.f, if_pos (by rw [hx, List.all_eq_true.2 h3, decide_eq_true (show c.length ≤ 12 by omega)]; rfl), Option.bind_some, if_pos (by rw [shares_length]; omega), ← shares_succ, wrap_succ (i + 1) (by omega)]
    exact ih (i + 1) k (by omega) (by omega)
theorem share_eq (c : List Int) (n : Int) (k : Nat) (hk : 200 ≤ k) : secret_Share.f k c n = some (shareR c n) := by
  rw [secret_Share.f, secret_isCurve.f, Option.bind_some]
  unfold shareR
  by_cases hc : curveErr c = 0
  · rw [if_pos hc, if_pos hc, swithin_eq, Option.bind_some, within_if]
    by_cases hn : 1 ≤ n ∧ n ≤ 12
    · rw [if_pos hn, if_pos hn]
      have := share_loop c n.toNat hc (by omega) n.toNat 0 k (by omega) (by omega)
      rw [show ((n.toNat : Nat) : Int) = n by omega] at this
      exact this
    · rw [if_neg hn, if_neg hn]
  · rw [if_neg hc, if_neg hc]
theorem rshare_loop (c : List Int) (n : Nat) (hc : curveErr c = 0) (hn : n ≤ 12) : ∀ (d i k : Nat), i + d = n → d + 100 < k → verditerref08_Share.l0 k c (n : Int) (shares c i) ((i + 1 : Nat) : Int) = some (shares c n, 0) := by
  obtain ⟨h1, h2, h3⟩ := curveErr_iff.1 hc
  intro d
  induction d with
  | zero =>
    intro i k hi hk
    obtain ⟨k, rfl⟩ : ∃ j, k = j + 1 := ⟨k - 1, by omega⟩
    rw [verditerref08_Share.l0, if_neg (by omega), show i = n by omega]
  | succ d ih =>
    intro i k hi hk
    obtain ⟨k, rfl⟩ : ∃ j, k = j + 1 := ⟨k - 1, by omega⟩
    have hx : num ((i + 1 : Nat) : Int) = true := num_iff.2 (by omega)
    rw [verditerref08_Share.l0, if_pos (by omega), rat_eq c _ h3 hx (by omega) k (by omega), Option.bind_some, if_pos (by rw [shares_length]; omega), ← shares_succ, wrap_succ (i + 1) (by omega)]
    exact ih (i + 1) k (by omega) (by omega)
theorem rshare_eq (c : List Int) (n : Int) (hl : c.length ≤ 100) (k : Nat) (hk : 200 ≤ k) : verditerref08_Share.f k c n = some (shareR c n) := by
  rw [verditerref08_Share.f, rcurved_eq c (by omega) k (by omega), Option.bind_some]
  unfold shareR
  by_cases hc : curveErr c = 0
  · rw [if_pos hc, if_pos hc, rwithin_eq, Option.bind_some, within_if]
    by_cases hn : 1 ≤ n ∧ n ≤ 12
    · rw [if_pos hn, if_pos hn]
      have := rshare_loop c n.toNat hc (by omega) n.toNat 0 k (by omega) (by omega)
      rw [show ((n.toNat : Nat) : Int) = n by omega] at this
      exact this
    · rw [if_neg hn, if_neg hn]
  · rw [if_neg hc, if_neg hc]
theorem mem_shares {c : List Int} {n : Nat} {p : S43} (h : p ∈ shares c n) : 1 ≤ p.f0 ∧ p.f0 ≤ n ∧ p.f1 = atI c p.f0 := by
  obtain ⟨i, hi, rfl⟩ := List.mem_map.1 h
  have := List.mem_range.1 hi
  exact ⟨by simp only; omega, by simp only; omega, rfl⟩
theorem valid_shares (c : List Int) {n : Nat} (hn : n ≤ 12) : valid (shares c n) = 0 := by
  refine valid_iff.2 ⟨by rw [shares_length]; exact hn, fun p hp => ?_, ?_⟩
  · obtain ⟨h1, h2, h3⟩ := mem_shares hp
    have := num_iff.1 (num_atI c p.f0)
    exact okP_iff.2 (by rw [h3]; omega)
  · unfold shares
    rw [List.map_map]
    refine List.Pairwise.map _ (fun a b (h : a ≠ b) => ?_) List.nodup_range
    show ((a + 1 : Nat) : Int) ≠ ((b + 1 : Nat) : Int)
    omega
/-- Parts of one curve lie on the curve through the first of them. -/
theorem interp_of_curve {l : List S43} {c : List Int} (hv : valid l = 0) (hc : ∀ n ∈ c, num n = true) (hl : l.length = c.length) (h : ∀ p ∈ l, p.f1 = atI c p.f0) : interp (pts l) = c := by
  symm
  refine interp_uniq (good_pts hv) (by rw [pts_length]; omega) hc fun q hq => ?_
  obtain ⟨p, hp, rfl⟩ := List.mem_map.1 hq
  exact (h p hp).symm
theorem lies_of_curve {l : List S43} {c : List Int} {n : Nat} (hv : valid l = 0) (hc : ∀ n ∈ c, num n = true) (hn : c.length = n) (h : ∀ p ∈ l, p.f1 = atI c p.f0) : lies l n = true := by
  unfold lies
  by_cases hl : l.length ≤ n
  · rw [decide_eq_true hl]; rfl
  · rw [decide_eq_false hl, Bool.false_or, List.all_eq_true]
    intro p hp
    rw [interp_of_curve (valid_sub hv (List.take_sublist n l)) hc (by rw [List.length_take]; omega) (fun p hp => h p (List.mem_of_mem_take hp))]
    exact beq_iff_eq.2 (h p hp).symm
end Go.Proofs.Ythlbjdiicmojfaa.P

/-! Part PF61. -/
-- Written for this claim by wip/print_more.py (a session's program that runs the kit's printer with hand-proved functions beside). Lean checks it.
namespace Go.Proofs.Ythlbjdiicmojfaa.P
open Go.RowKit Go.Proofs.YthlbjdiicmojfaaW.PrintWords Go.Proofs.YthlbjdiicmojfaaW.PrintLast Go.Proofs.YthlbjdiicmojfaaW.PrintMore
attribute [local go_sem] max2_int min2_int max_two min_two max_three min_three max_four min_four   -- for this text's walks alone
set_option linter.unusedVariables false
set_option linter.unusedSimpArgs false

/-! ### verditerref08_Without: function 61 -/
def verditerref08_Without.l0 : Nat → List (S43) → Int → Int → Option ((List (S43)) × Int)
  | 0, _, _, _ => none
  | k + 1, x0, x1, x7 => if x7 < (x0.length : Int) then (if 0 ≤ x7 then (if ((rd_T43 x0 x7).f0) = x1 then ((verditerref08_without.f x0 x7).bind fun t455 => (some (t455, 0))) else (verditerref08_Without.l0 k x0 x1 (wrap64 (x7 + 1)))) else (none)) else (some (([] : List (S43)), 4))
def verditerref08_Without.f (k : Nat) (l0 : List (S43)) (a1 : Int) : Option ((List (S43)) × Int) := (verditerref08_Validate.f k l0).bind fun t452 => (if t452 = 0 then ((verditerref08_within.f a1 1 250).bind fun t453 => (if t453 = true then (verditerref08_Without.l0 k l0 a1 0) else (some (([] : List (S43)), 1)))) else (some (([] : List (S43)), t452)))
theorem verditerref08_Without.mono_l : ∀ k, (∀ y0 y1 y2, LeO (verditerref08_Without.l0 k y0 y1 y2) (verditerref08_Without.l0 (k + 1) y0 y1 y2))
  | 0 => fun _ _ _ r h => by simp [verditerref08_Without.l0] at h
  | k + 1 => by
    have ih0 := verditerref08_Without.mono_l k
    · intro y0 y1 y2
      unfold verditerref08_Without.l0
      repeat' first
      | (with_reducible exact ih0 _ _ _)
      | (with_reducible exact verditerref08_Validate.mono _ _)
      | (with_reducible exact LeO.refl _)
      | (with_reducible exact LeO.none _)
      | (with_reducible refine LeO.ite ?_ ?_)
      | (with_reducible refine LeO.bind ?_ (fun _ => ?_))
      | exact ih0 _ _ _
      | exact verditerref08_Validate.mono _ _
      | exact LeO.none _
      | refine LeO.ite ?_ ?_
      | refine LeO.bind ?_ (fun _ => ?_)
theorem verditerref08_Without.mono : ∀ a0 a1 k, LeO (verditerref08_Without.f k a0 a1) (verditerref08_Without.f (k + 1) a0 a1) := by
  intro a0 a1 k
  have ih0 := verditerref08_Without.mono_l k
  unfold verditerref08_Without.f
  repeat' first
      | (with_reducible exact ih0 _ _ _)
      | (with_reducible exact verditerref08_Validate.mono _ _)
      | (with_reducible exact LeO.refl _)
      | (with_reducible exact LeO.none _)
      | (with_reducible refine LeO.ite ?_ ?_)
      | (with_reducible refine LeO.bind ?_ (fun _ => ?_))
      | exact ih0 _ _ _
      | exact verditerref08_Validate.mono _ _
      | exact LeO.none _
      | refine LeO.ite ?_ ?_
      | refine LeO.bind ?_ (fun _ => ?_)
set_option maxHeartbeats 8000000 in
set_option maxRecDepth 100000 in
theorem verditerref08_Without.calls (k : Nat) (A0 : Option Addr) (c0 : Nat) (l0 : List (S43)) (a1 : Int) (r1 : List (S43)) (r2 : Int) (w : World) (hr0 : Kd.C k43 w A0 l0.length l0) (hc0 : l0.length ≤ c0) (h : verditerref08_Without.f k l0 a1 = some (r1, r2)) :
    Calls Try.prog 61 #[.slice A0 l0.length c0, .int .i64 a1] w fun e w' => ∃ v0_ : Value, e = .returned (.tuple #[v0_, .int .i64 r2]) ∧ Kd.R k43 43 w' w.heap.size (fun _ => True) v0_ r1 ∧ Below w.heap.size w w' := by
  have HR0 := Aside0.mk hr0
  have HC0 := Aside0.mk hc0
  clear hr0 hc0
  have HB := Aside0.mk (Below.refl w.heap.size w)
  have H : ((verditerref08_Validate.f k l0).bind fun t452 => (if t452 = 0 then ((verditerref08_within.f a1 1 250).bind fun t453 => (if t453 = true then (verditerref08_Without.l0 k l0 a1 0) else (some (([] : List (S43)), 1)))) else (some (([] : List (S43)), t452)))) = some (r1, r2) := h
  clear h
  replace H := Option.bind_eq_some_iff.mp H
  obtain ⟨t452, A30, H⟩ := H
  replace H : (if t452 = 0 then ((verditerref08_within.f a1 1 250).bind fun t453 => (if t453 = true then (verditerref08_Without.l0 k l0 a1 0) else (some (([] : List (S43)), 1)))) else (some (([] : List (S43)), t452))) = some (r1, r2) := H
  have A3 := Aside0.mk A30
  clear A30
  by_cases c4 : t452 = 0
  · rw [if_pos c4] at H
    have c4b0 : (t452 == 0) = true := beq_iff_eq.mpr c4
    have c4b1 : (t452 != 0) = false := bne_eq_false_iff_eq.mpr c4
    clear c4
    replace H := Option.bind_eq_some_iff.mp H
    obtain ⟨t453, A50, H⟩ := H
    replace H : (if t453 = true then (verditerref08_Without.l0 k l0 a1 0) else (some (([] : List (S43)), 1))) = some (r1, r2) := H
    have A5 := Aside0.mk A50
    clear A50
    by_cases c6 : t453 = true
    · subst c6
      have H1 : (verditerref08_Without.l0 k l0 a1 0) = some (r1, r2) := by rw [if_pos rfl] at H; exact H
      clear H
      have H := H1
      clear H1
      have H' := Aside0.mk H
      clear H
      go_enter Try.func61, Try.ntmps61
      go_wp2_with (first | ((with_reducible refine gate_callee (f := 66) rfl ?_); refine goesL_ (some 9) rfl rfl Try.func66 (by kernel_rfl) rfl #[.slice A0 l0.length c0] rfl (by (try simp only [List.map_toArray, List.map_cons, List.map_nil]); first | done | rfl | (simp only [List.length_drop, List.length_take]; rfl)) ?_; (with_reducible refine (verditerref08_Validate.calls k _ _ l0 t452 _ ?side1 ?side2 A3.out).mono ?_); (case side1 => repeat (first | exact HR0.out | (with_reducible refine Kd.C_alloc ?_ _) | (with_reducible refine Kd.C_drewN ?_ _) | (with_reducible refine Kd.C_drew ?_))); (case side2 => exact HC0.out); rintro e w' ⟨rfl, ⟨nd, rfl⟩⟩; refine ⟨_, rfl, ?_⟩) | ((with_reducible refine gate_callee (f := 83) rfl ?_); refine goesL_ (some 14) rfl rfl Try.func83 (by kernel_rfl) rfl #[.int .i64 a1, .int .i64 1, .int .i64 250] rfl (by (try simp only [List.map_toArray, List.map_cons, List.map_nil]); first | done | rfl | (simp only [List.length_drop, List.length_take]; rfl)) ?_; (with_reducible refine (verditerref08_within.calls a1 1 250 true _ A5.out).mono ?_); rintro e w' ⟨rfl, ⟨nd, rfl⟩⟩; refine ⟨_, rfl, ?_⟩))
      go_loopg [7] k (fun kq v7 w' => ∃ (x7_1 : Int), v7 = .int .i64 x7_1 ∧ Aside0 (verditerref08_Without.l0 kq l0 a1 x7_1 = some (r1, r2)) ∧ Aside0 (kq ≤ k) ∧ Aside0 (Below w.heap.size w w'))
      case atStart => exact ⟨(0), (by first | rfl | (simp; done) | (simp [*]; done)), H', ⟨Nat.le_refl _⟩, ⟨by repeat (first | (with_reducible first | exact HB.out | apply below_alloc | apply pw_below_drewN | apply below_drew1) | exact HB.out)⟩⟩
      case round =>
        clear H'
        try clear p2
        try clear c4
        try clear c4b0
        try clear c4b1
        try clear c6
        obtain ⟨x7_1, rfl, HA, HK1, HB⟩ := hrel
        cases gk with
        | zero => exact absurd HA.out (by simp [verditerref08_Without.l0])
        | succ k1 =>
          have H := HA.out
          clear HA
          simp only [verditerref08_Without.l0] at H
          by_cases c7 : x7_1 < (l0.length : Int)
          · rw [if_pos c7] at H
            have c7b0 : decide (x7_1 < (l0.length : Int)) = true := decide_eq_true c7
            clear c7
            by_cases c8 : 0 ≤ x7_1
            · rw [if_pos c8] at H
              have c8b0 : decide (0 ≤ x7_1) = true := decide_eq_true c8
              clear c8
              by_cases c9 : ((rd_T43 l0 x7_1).f0) = a1
              · rw [if_pos c9] at H
                have c9b0 : (((rd_T43 l0 x7_1).f0) == a1) = true := beq_iff_eq.mpr c9
                have c9b1 : (((rd_T43 l0 x7_1).f0) != a1) = false := bne_eq_false_iff_eq.mpr c9
                clear c9
                replace H := Option.bind_eq_some_iff.mp H
                obtain ⟨t455, A100, H⟩ := H
                replace H : (some (t455, 0)) = some (r1, r2) := H
                have A10 := Aside0.mk A100
                clear A100
                simp only [Option.some.injEq, Prod.mk.injEq] at H
                obtain ⟨rfl, rfl⟩ := H
                have p454 : 0 ≤ (x7_1 : Int) := of_decide_eq_true (by first | (with_reducible assumption) | assumption)
                have q454 : x7_1 < (l0.length : Int) := of_decide_eq_true (by first | (with_reducible assumption) | assumption)
                obtain ⟨ad454, e454, hx454_0, hx454_1⟩ := at_T43 HR0.out x7_1 p454 q454
                cases e454
                replace hx454_0 := (HB.out.cell (World.block_lt_of_cell? w _ hx454_0)).trans hx454_0
                replace hx454_1 := (HB.out.cell (World.block_lt_of_cell? w _ hx454_1)).trans hx454_1
                replace p454 := eq_true p454
                replace q454 := eq_true q454
                go_wp2_with (first | ((with_reducible refine gate_callee (f := 97) rfl ?_); refine goesL_ (some 31) rfl rfl Try.func97 (by kernel_rfl) rfl #[.slice (some ad454) l0.length c0, .int .i64 x7_1] rfl (by (try simp only [List.map_toArray, List.map_cons, List.map_nil]); first | done | rfl | (simp only [List.length_drop, List.length_take]; rfl)) ?_; (with_reducible refine (verditerref08_without.calls _ _ l0 x7_1 t455 _ ?side1 ?side2 A10.out).mono ?_); (case side1 => repeat (first | exact (Kd.C_below HR0.out HB.out) | (with_reducible refine Kd.C_alloc ?_ _) | (with_reducible refine Kd.C_drewN ?_ _) | (with_reducible refine Kd.C_drew ?_))); (case side2 => exact HC0.out); rintro e w11 ⟨v456, rfl, ho0, hb⟩; refine ⟨_, rfl, ?_⟩; have n0_ := Aside0.mk (Kd.R_lower ho0 (below_size (by repeat (first | (with_reducible first | exact HB.out | apply below_alloc | apply pw_below_drewN | apply below_drew1) | exact HB.out)))); have n1_ := Aside0.mk (below_step (by repeat (first | (with_reducible first | exact HB.out | apply below_alloc | apply pw_below_drewN | apply below_drew1) | exact HB.out)) hb); clear HB; have HO457 := n0_; have HB := n1_; clear n0_ n1_; (try clear hb); (try clear hb2); (try clear hk); (try clear hi); (try clear ho0)))
                go_ret2
                exact ⟨_, by first | rfl | (simp [errW_none, errW_some] <;> rfl) | (simp [*, errW_none, errW_some] <;> rfl), by (with_reducible repeat (first | apply Kd.R_alloc | apply Kd.R_drewN | apply Kd.R_drew)); exact HO457.out, by repeat (first | (with_reducible first | exact HB.out | apply below_alloc | apply pw_below_drewN | apply below_drew1) | exact HB.out)⟩
              · rw [if_neg c9] at H
                have c9b0 : (((rd_T43 l0 x7_1).f0) == a1) = false := beq_eq_false_iff_ne.mpr c9
                have c9b1 : (((rd_T43 l0 x7_1).f0) != a1) = true := bne_iff_ne.mpr c9
                have H' := Aside0.mk H
                clear H
                have p454 : 0 ≤ (x7_1 : Int) := of_decide_eq_true (by first | (with_reducible assumption) | assumption)
                have q454 : x7_1 < (l0.length : Int) := of_decide_eq_true (by first | (with_reducible assumption) | assumption)
                obtain ⟨ad454, e454, hx454_0, hx454_1⟩ := at_T43 HR0.out x7_1 p454 q454
                cases e454
                replace hx454_0 := (HB.out.cell (World.block_lt_of_cell? w _ hx454_0)).trans hx454_0
                replace hx454_1 := (HB.out.cell (World.block_lt_of_cell? w _ hx454_1)).trans hx454_1
                replace p454 := eq_true p454
                replace q454 := eq_true q454
                go_wp2
                go_roundg k1
                case measure => have := HK1.out; omega
                case rel => exact ⟨(wrap64 (x7_1 + 1)), (by first | rfl | (simp; done) | (simp [*]; done)), H', ⟨by have := HK1.out; omega⟩, ⟨by repeat (first | (with_reducible first | exact HB.out | apply below_alloc | apply pw_below_drewN | apply below_drew1) | exact HB.out)⟩⟩
            · rw [if_neg c8] at H
              exact absurd H (by simp)
          · rw [if_neg c7] at H
            have c7b0 : decide (x7_1 < (l0.length : Int)) = false := decide_eq_false c7
            clear c7
            simp only [Option.some.injEq, Prod.mk.injEq] at H
            obtain ⟨rfl, rfl⟩ := H
            go_wp2
            go_ret2
            exact ⟨_, by first | rfl | (simp [errW_none, errW_some] <;> rfl) | (simp [*, errW_none, errW_some] <;> rfl), by first | exact Kd.R_nil _ _ _ _ _ | exact Kd.N_nil _ _ _ _ _ | exact Kd.V_nil _ _ _ _ _ | exact Kd.Q_nil _ _ _ _ _ | exact Kd.S_nil _ _ _ _ _, by repeat (first | (with_reducible first | exact HB.out | apply below_alloc | apply pw_below_drewN | apply below_drew1) | exact HB.out)⟩
    · replace c6 := Bool.eq_false_iff.mpr c6
      subst c6
      have H1 : (some (([] : List (S43)), 1)) = some (r1, r2) := by rw [if_neg (show ¬ (false = true) by decide)] at H; exact H
      clear H
      have H := H1
      clear H1
      simp only [Option.some.injEq, Prod.mk.injEq] at H
      obtain ⟨rfl, rfl⟩ := H
      go_enter Try.func61, Try.ntmps61
      go_wp2_with (first | ((with_reducible refine gate_callee (f := 66) rfl ?_); refine goesL_ (some 9) rfl rfl Try.func66 (by kernel_rfl) rfl #[.slice A0 l0.length c0] rfl (by (try simp only [List.map_toArray, List.map_cons, List.map_nil]); first | done | rfl | (simp only [List.length_drop, List.length_take]; rfl)) ?_; (with_reducible refine (verditerref08_Validate.calls k _ _ l0 t452 _ ?side1 ?side2 A3.out).mono ?_); (case side1 => repeat (first | exact HR0.out | (with_reducible refine Kd.C_alloc ?_ _) | (with_reducible refine Kd.C_drewN ?_ _) | (with_reducible refine Kd.C_drew ?_))); (case side2 => exact HC0.out); rintro e w' ⟨rfl, ⟨nd, rfl⟩⟩; refine ⟨_, rfl, ?_⟩) | ((with_reducible refine gate_callee (f := 83) rfl ?_); refine goesL_ (some 14) rfl rfl Try.func83 (by kernel_rfl) rfl #[.int .i64 a1, .int .i64 1, .int .i64 250] rfl (by (try simp only [List.map_toArray, List.map_cons, List.map_nil]); first | done | rfl | (simp only [List.length_drop, List.length_take]; rfl)) ?_; (with_reducible refine (verditerref08_within.calls a1 1 250 false _ A5.out).mono ?_); rintro e w' ⟨rfl, ⟨nd, rfl⟩⟩; refine ⟨_, rfl, ?_⟩))
      go_ret2
      exact ⟨_, by first | rfl | (simp [errW_none, errW_some] <;> rfl) | (simp [*, errW_none, errW_some] <;> rfl), by first | exact Kd.R_nil _ _ _ _ _ | exact Kd.N_nil _ _ _ _ _ | exact Kd.V_nil _ _ _ _ _ | exact Kd.Q_nil _ _ _ _ _ | exact Kd.S_nil _ _ _ _ _, by repeat (first | (with_reducible first | exact HB.out | apply below_alloc | apply pw_below_drewN | apply below_drew1) | exact HB.out)⟩
  · rw [if_neg c4] at H
    have c4b0 : (t452 == 0) = false := beq_eq_false_iff_ne.mpr c4
    have c4b1 : (t452 != 0) = true := bne_iff_ne.mpr c4
    simp only [Option.some.injEq, Prod.mk.injEq] at H
    obtain ⟨rfl, rfl⟩ := H
    go_enter Try.func61, Try.ntmps61
    go_wp2_with (first | ((with_reducible refine gate_callee (f := 66) rfl ?_); refine goesL_ (some 9) rfl rfl Try.func66 (by kernel_rfl) rfl #[.slice A0 l0.length c0] rfl (by (try simp only [List.map_toArray, List.map_cons, List.map_nil]); first | done | rfl | (simp only [List.length_drop, List.length_take]; rfl)) ?_; (with_reducible refine (verditerref08_Validate.calls k _ _ l0 t452 _ ?side1 ?side2 A3.out).mono ?_); (case side1 => repeat (first | exact HR0.out | (with_reducible refine Kd.C_alloc ?_ _) | (with_reducible refine Kd.C_drewN ?_ _) | (with_reducible refine Kd.C_drew ?_))); (case side2 => exact HC0.out); rintro e w' ⟨rfl, ⟨nd, rfl⟩⟩; refine ⟨_, rfl, ?_⟩))
    go_ret2
    exact ⟨_, by first | rfl | (simp [errW_none, errW_some] <;> rfl) | (simp [*, errW_none, errW_some] <;> rfl), by first | exact Kd.R_nil _ _ _ _ _ | exact Kd.N_nil _ _ _ _ _ | exact Kd.V_nil _ _ _ _ _ | exact Kd.Q_nil _ _ _ _ _ | exact Kd.S_nil _ _ _ _ _, by repeat (first | (with_reducible first | exact HB.out | apply below_alloc | apply pw_below_drewN | apply below_drew1) | exact HB.out)⟩

end Go.Proofs.Ythlbjdiicmojfaa.P

/-! Part Rwo. -/
namespace Go.Proofs.Ythlbjdiicmojfaa.P
open Go.RowKit Go.Proofs.YthlbjdiicmojfaaW.PrintWords Go.Proofs.YthlbjdiicmojfaaW.PrintLast Go.Proofs.YthlbjdiicmojfaaW.PrintMore
set_option linter.unusedVariables false
/-! ### Without one -/
theorem rwo_eq (l : List S43) (i : Nat) (hi : i < l.length) (hl : l.length ≤ 1000) : verditerref08_without.f l (i : Int) = some (l.eraseIdx i) := by
  rw [verditerref08_without.f, Option.bind_some, if_pos (by omega), if_pos (by omega), Option.bind_some, Int.toNat_natCast, if_pos (by simp; omega), Option.bind_some, wrap_succ i (by omega), if_pos (by omega), if_pos (by omega), Int.toNat_natCast, Option.bind_some, if_pos (by simp; omega),
    List.eraseIdx_eq_take_drop_succ]
  rfl
theorem rwithout_loop (l : List S43) (x : Int) (hl : l.length ≤ 12) : ∀ (d i k : Nat), i + d = l.length → d < k → (∀ j (h : j < l.length), j < i → l[j].f0 ≠ x) →
    verditerref08_Without.l0 k l x (i : Int) = if l.findIdx (fun p => p.f0 == x) < l.length then some (l.eraseIdx (l.findIdx fun p => p.f0 == x), 0) else some ([], 4) := by
  intro d
  induction d with
  | zero =>
    intro i k hi hk hno
    obtain ⟨k, rfl⟩ : ∃ j, k = j + 1 := ⟨k - 1, by omega⟩
    rw [verditerref08_Without.l0, if_neg (by omega), if_neg]
    intro h
    have := List.findIdx_getElem (w := h)
    exact hno _ h (by omega) (beq_iff_eq.1 this)
  | succ d ih =>
    intro i k hi hk hno
    obtain ⟨k, rfl⟩ : ∃ j, k = j + 1 := ⟨k - 1, by omega⟩
    have hil : i < l.length := by omega
    rw [verditerref08_Without.l0, if_pos (by omega), if_pos (by omega), rdT_get l i hil]
    by_cases e : l[i].f0 = x
    · have hf : l.findIdx (fun p => p.f0 == x) = i := by
        rw [List.findIdx_eq hil]
        exact ⟨beq_iff_eq.2 e, fun j hj => beq_eq_false_iff_ne.2 (hno j (by omega) hj)⟩
      rw [if_pos e, rwo_eq l i hil (by omega), hf, if_pos hil]; rfl
    · rw [if_neg e, wrap_succ i (by omega)]
      refine ih (i + 1) k (by omega) (by omega) fun j h hj => ?_
      rcases Nat.eq_or_lt_of_le (Nat.le_of_lt_succ hj) with rfl | hlt
      · exact e
      · exact hno j h hlt
theorem rwithout_eq (l : List S43) (x : Int) (k : Nat) (hk : 300 ≤ k) : verditerref08_Without.f k l x = secret_Without.f l x := by
  rw [verditerref08_Without.f, secret_Without.f, rval_eq l k hk, Option.bind_some]
  by_cases hv : valid l = 0
  · have hl := (valid_iff.1 hv).1
    rw [if_pos hv, if_pos hv, rwithin_eq, Option.bind_some]
    by_cases hx : 1 ≤ x ∧ x ≤ 250
    · rw [if_pos (by rw [decide_eq_true hx.1, decide_eq_true hx.2]; rfl), if_pos hx]
      exact rwithout_loop l x hl l.length 0 k (by omega) (by omega) (fun j _ h => absurd h (Nat.not_lt_zero j))
    · rw [if_neg, if_neg hx]
      intro e
      rw [Bool.and_eq_true, decide_eq_true_iff, decide_eq_true_iff] at e
      exact hx e
  · rw [if_neg hv, if_neg hv]
theorem swithout_some (l : List S43) (x : Int) (hl : l.length ≤ 1000) : ∃ q, secret_Without.f l x = some q ∧ q.1.length ≤ 1000 := by
  rw [secret_Without.f]
  split
  · split
    · split
      · exact ⟨_, rfl, Nat.le_trans (List.eraseIdx_sublist l _).length_le hl⟩
      · exact ⟨_, rfl, by simp⟩
    · exact ⟨_, rfl, by simp⟩
  · exact ⟨_, rfl, by simp⟩
end Go.Proofs.Ythlbjdiicmojfaa.P

/-! Part PF73. -/
-- Written for this claim by wip/print_more.py (a session's program that runs the kit's printer with hand-proved functions beside). Lean checks it.
namespace Go.Proofs.Ythlbjdiicmojfaa.P
open Go.RowKit Go.Proofs.YthlbjdiicmojfaaW.PrintWords Go.Proofs.YthlbjdiicmojfaaW.PrintLast Go.Proofs.YthlbjdiicmojfaaW.PrintMore
attribute [local go_sem] max2_int min2_int max_two min_two max_three min_three max_four min_four   -- for this text's walks alone
set_option linter.unusedVariables false
set_option linter.unusedSimpArgs false

/-! ### secret_Wrong: function 73 -/
def secret_Wrong.f (k : Nat) (l0 : List (S43)) (a1 : Int) : Option (Int × Bool × Int) := (secret_more.f l0 a1).bind fun t680 => (if t680 = 0 then ((secret_wrong.f k l0 a1).bind fun bt681 => (some (bt681.1, bt681.2, 0))) else (some (0, false, t680)))
theorem secret_Wrong.mono : ∀ a0 a1 k, LeO (secret_Wrong.f k a0 a1) (secret_Wrong.f (k + 1) a0 a1) := by
  intro a0 a1 k
  unfold secret_Wrong.f
  repeat' first
      | (with_reducible exact secret_wrong.mono _ _ _)
      | (with_reducible exact LeO.refl _)
      | (with_reducible exact LeO.none _)
      | (with_reducible refine LeO.ite ?_ ?_)
      | (with_reducible refine LeO.bind ?_ (fun _ => ?_))
      | exact secret_wrong.mono _ _ _
      | exact LeO.none _
      | refine LeO.ite ?_ ?_
      | refine LeO.bind ?_ (fun _ => ?_)
set_option maxHeartbeats 8000000 in
set_option maxRecDepth 100000 in
theorem secret_Wrong.calls (k : Nat) (A0 : Option Addr) (c0 : Nat) (l0 : List (S43)) (a1 : Int) (r1 : Int) (r2 : Bool) (r3 : Int) (w : World) (hr0 : Kd.C k43 w A0 l0.length l0) (hc0 : l0.length ≤ c0) (h : secret_Wrong.f k l0 a1 = some (r1, r2, r3)) :
    Calls Try.prog 73 #[.slice A0 l0.length c0, .int .i64 a1] w fun e w' => e = .returned (.tuple #[.int .i64 r1, .bool r2, .int .i64 r3]) ∧ Below w.heap.size w w' := by
  have HR0 := Aside0.mk hr0
  have HC0 := Aside0.mk hc0
  clear hr0 hc0
  have HB := Aside0.mk (Below.refl w.heap.size w)
  have H : ((secret_more.f l0 a1).bind fun t680 => (if t680 = 0 then ((secret_wrong.f k l0 a1).bind fun bt681 => (some (bt681.1, bt681.2, 0))) else (some (0, false, t680)))) = some (r1, r2, r3) := h
  clear h
  replace H := Option.bind_eq_some_iff.mp H
  obtain ⟨t680, A30, H⟩ := H
  replace H : (if t680 = 0 then ((secret_wrong.f k l0 a1).bind fun bt681 => (some (bt681.1, bt681.2, 0))) else (some (0, false, t680))) = some (r1, r2, r3) := H
  have A3 := Aside0.mk A30
  clear A30
  by_cases c4 : t680 = 0
  · rw [if_pos c4] at H
    have c4b0 : (t680 == 0) = true := beq_iff_eq.mpr c4
    have c4b1 : (t680 != 0) = false := bne_eq_false_iff_eq.mpr c4
    clear c4
    replace H := Option.bind_eq_some_iff.mp H
    obtain ⟨⟨t681, t682⟩, A50, H⟩ := H
    replace H : (some (t681, t682, 0)) = some (r1, r2, r3) := H
    have A5 := Aside0.mk A50
    clear A50
    simp only [Option.some.injEq, Prod.mk.injEq] at H
    obtain ⟨rfl, rfl, rfl⟩ := H
    go_enter Try.func73, Try.ntmps73
    go_wp2_with (first | ((with_reducible refine gate_callee (f := 105) rfl ?_); refine goesL_ (some 12) rfl rfl Try.func105 (by kernel_rfl) rfl #[.slice A0 l0.length c0, .int .i64 a1] rfl (by (try simp only [List.map_toArray, List.map_cons, List.map_nil]); first | done | rfl | (simp only [List.length_drop, List.length_take]; rfl)) ?_; (with_reducible refine (secret_more.calls _ _ l0 a1 t680 _ ?side1 ?side2 A3.out).mono ?_); (case side1 => repeat (first | exact HR0.out | (with_reducible refine Kd.C_alloc ?_ _) | (with_reducible refine Kd.C_drewN ?_ _) | (with_reducible refine Kd.C_drew ?_))); (case side2 => exact HC0.out); rintro e w6 ⟨rfl, hb⟩; refine ⟨_, rfl, ?_⟩; have n0_ := Aside0.mk (below_step (by repeat (first | (with_reducible first | exact HB.out | apply below_alloc | apply pw_below_drewN | apply below_drew1) | exact HB.out)) hb); clear HB; have HB := n0_; clear n0_; (try clear hb); (try clear hb2); (try clear hk); (try clear hi)) | ((with_reducible refine gate_callee (f := 106) rfl ?_); refine goesL_ (some 19) rfl rfl Try.func106 (by kernel_rfl) rfl #[.slice A0 l0.length c0, .int .i64 a1] rfl (by (try simp only [List.map_toArray, List.map_cons, List.map_nil]); first | done | rfl | (simp only [List.length_drop, List.length_take]; rfl)) ?_; (with_reducible refine (secret_wrong.calls k _ _ l0 a1 t681 t682 _ ?side1 ?side2 A5.out).mono ?_); (case side1 => repeat (first | exact (Kd.C_below HR0.out HB.out) | (with_reducible refine Kd.C_alloc ?_ _) | (with_reducible refine Kd.C_drewN ?_ _) | (with_reducible refine Kd.C_drew ?_))); (case side2 => exact HC0.out); rintro e w7 ⟨rfl, hb⟩; refine ⟨_, rfl, ?_⟩; have n0_ := Aside0.mk (below_step (by repeat (first | (with_reducible first | exact HB.out | apply below_alloc | apply pw_below_drewN | apply below_drew1) | exact HB.out)) hb); clear HB; have HB := n0_; clear n0_; (try clear hb); (try clear hb2); (try clear hk); (try clear hi)))
    go_ret3
    exact ⟨by first | rfl | (simp [errW_none, errW_some] <;> rfl) | (simp [*, errW_none, errW_some] <;> rfl), by repeat (first | (with_reducible first | exact HB.out | apply below_alloc | apply pw_below_drewN | apply below_drew1) | exact HB.out)⟩
  · rw [if_neg c4] at H
    have c4b0 : (t680 == 0) = false := beq_eq_false_iff_ne.mpr c4
    have c4b1 : (t680 != 0) = true := bne_iff_ne.mpr c4
    simp only [Option.some.injEq, Prod.mk.injEq] at H
    obtain ⟨rfl, rfl, rfl⟩ := H
    go_enter Try.func73, Try.ntmps73
    go_wp2_with (first | ((with_reducible refine gate_callee (f := 105) rfl ?_); refine goesL_ (some 12) rfl rfl Try.func105 (by kernel_rfl) rfl #[.slice A0 l0.length c0, .int .i64 a1] rfl (by (try simp only [List.map_toArray, List.map_cons, List.map_nil]); first | done | rfl | (simp only [List.length_drop, List.length_take]; rfl)) ?_; (with_reducible refine (secret_more.calls _ _ l0 a1 t680 _ ?side1 ?side2 A3.out).mono ?_); (case side1 => repeat (first | exact HR0.out | (with_reducible refine Kd.C_alloc ?_ _) | (with_reducible refine Kd.C_drewN ?_ _) | (with_reducible refine Kd.C_drew ?_))); (case side2 => exact HC0.out); rintro e w8 ⟨rfl, hb⟩; refine ⟨_, rfl, ?_⟩; have n0_ := Aside0.mk (below_step (by repeat (first | (with_reducible first | exact HB.out | apply below_alloc | apply pw_below_drewN | apply below_drew1) | exact HB.out)) hb); clear HB; have HB := n0_; clear n0_; (try clear hb); (try clear hb2); (try clear hk); (try clear hi)))
    go_ret3
    exact ⟨by first | rfl | (simp [errW_none, errW_some] <;> rfl) | (simp [*, errW_none, errW_some] <;> rfl), by repeat (first | (with_reducible first | exact HB.out | apply below_alloc | apply pw_below_drewN | apply below_drew1) | exact HB.out)⟩

end Go.Proofs.Ythlbjdiicmojfaa.P

/-! Part Eqs5. -/
namespace Go.Proofs.Ythlbjdiicmojfaa.P
open Go.RowKit Go.Proofs.YthlbjdiicmojfaaW.PrintWords Go.Proofs.YthlbjdiicmojfaaW.PrintLast Go.Proofs.YthlbjdiicmojfaaW.PrintMore
set_option linter.unusedVariables false

/-! ### Which part is false -/
/-- The places below i without which the others lie on a curve. -/
def cands (l : List S43) (n i : Nat) : List Nat := (List.range i).filter fun j => lies (l.eraseIdx j) n
def candR (F : List Nat) : Int × Bool := if F.length = 1 then (((F.getD 0 0 : Nat) : Int), true) else (0, false)
def wrongR (l : List S43) (n : Int) : Int × Bool × Int :=
  if neededR l n = 0 then (if (l.length : Int) < n + 2 then (0, false, 9) else if lies l n.toNat = true then (0, false, 0) else ((candR (cands l n.toNat l.length)).1, (candR (cands l n.toNat l.length)).2, 0)) else (0, false, neededR l n)
theorem cands_succ (l : List S43) (n i : Nat) : cands l n (i + 1) = cands l n i ++ (if lies (l.eraseIdx i) n = true then [i] else []) := by
  unfold cands
  rw [List.range_succ, List.filter_append]
  congr 1
  by_cases h : lies (l.eraseIdx i) n = true
  · rw [if_pos h]; simp [h]
  · rw [if_neg h]; simp [h]
theorem cands_length (l : List S43) (n i : Nat) : (cands l n i).length ≤ i := by
  unfold cands
  have := List.length_filter_le (fun j => lies (l.eraseIdx j) n) (List.range i)
  rw [List.length_range] at this
  exact this
theorem candR_one {F : List Nat} (h : (candR F).2 = true) : ∃ a, F = [a] ∧ (candR F).1 = (a : Int) := by
  unfold candR at h ⊢
  by_cases h1 : F.length = 1
  · obtain ⟨a, rfl⟩ := List.length_eq_one_iff.1 h1
    exact ⟨a, rfl, rfl⟩
  · rw [if_neg h1] at h; cases h
theorem getLastD_snoc (F : List Nat) (a d : Nat) : (F ++ [a]).getLastD d = a := by
  simp [List.getLastD_eq_getLast?]
theorem valid_erase {l : List S43} (hv : valid l = 0) (i : Nat) : valid (l.eraseIdx i) = 0 := valid_sub hv (List.eraseIdx_sublist l i)
theorem swrong_loop (l : List S43) (n : Int) (hv : valid l = 0) (h1 : 1 ≤ n) (h6 : n ≤ 6) : ∀ (d i k : Nat), i + d = l.length → d < k →
    secret_wrong.l0 k l n ((cands l n.toNat i).map Int.ofNat) (l.length : Int) (i : Int) = some (candR (cands l n.toNat l.length)) := by
  obtain ⟨hlen, _, _⟩ := valid_iff.1 hv
  intro d
  induction d with
  | zero =>
    intro i k hi hk
    obtain ⟨k, rfl⟩ : ∃ j, k = j + 1 := ⟨k - 1, by omega⟩
    rw [secret_wrong.l0, if_neg (by omega), show i = l.length by omega, List.length_map]
    unfold candR
    by_cases h : (cands l n.toNat l.length).length = 1
    · obtain ⟨a, ha⟩ := List.length_eq_one_iff.1 h
      rw [ha]; rfl
    · rw [if_neg (by omega), if_neg h]
  | succ d ih =>
    intro i k hi hk
    obtain ⟨k, rfl⟩ : ∃ j, k = j + 1 := ⟨k - 1, by omega⟩
    have hil : i < l.length := by omega
    have ih' := ih (i + 1) k (by omega) (by omega)
    rw [cands_succ, List.map_append] at ih'
    have hcl := cands_length l n.toNat i
    rw [secret_wrong.l0, if_pos (by omega), secret_without.f, if_pos ⟨hlen, by omega, by omega⟩, Option.bind_some, Int.toNat_natCast, secret_lieOn.f, if_pos ⟨valid_erase hv i, h1, h6⟩, Option.bind_some]
    by_cases h : lies (l.eraseIdx i) n.toNat = true
    · rw [if_pos h] at ih'
      rw [if_pos h, if_pos (by rw [List.length_map]; omega), wrap_succ i (by omega)]
      exact ih'
    · rw [if_neg h] at ih'
      rw [if_neg h, wrap_succ i (by omega)]
      rw [List.map_nil, List.append_nil] at ih'
      exact ih'
theorem swrong_eq (l : List S43) (n : Int) (hv : valid l = 0) (h1 : 1 ≤ n) (h6 : n ≤ 6) (k : Nat) (hk : 100 ≤ k) : secret_wrong.f k l n = some (if lies l n.toNat = true then (0, false) else candR (cands l n.toNat l.length)) := by
  obtain ⟨hlen, _, _⟩ := valid_iff.1 hv
  rw [secret_wrong.f, secret_lieOn.f, if_pos ⟨hv, h1, h6⟩, Option.bind_some]
  by_cases h : lies l n.toNat = true
  · rw [if_pos h, if_pos h]
  · rw [if_neg h, if_neg h]
    exact swrong_loop l n hv h1 h6 l.length 0 k (by omega) (by omega)
def moreR (l : List S43) (n : Int) : Int := if neededR l n = 0 then (if (l.length : Int) < n + 2 then 9 else 0) else neededR l n
theorem more_eq (l : List S43) (n : Int) : secret_more.f l n = some (moreR l n) := by
  rw [secret_more.f, needed_eq, Option.bind_some]
  unfold moreR
  by_cases h : neededR l n = 0
  · obtain ⟨hv, h1, h6⟩ := neededR_ok h
    rw [if_pos h, if_pos h, wrap_id (a := n + 2) (by omega) (by omega)]
    split <;> rfl
  · rw [if_neg h, if_neg h]
theorem sWrong_eq (l : List S43) (n : Int) (k : Nat) (hk : 100 ≤ k) : secret_Wrong.f k l n = some (wrongR l n) := by
  rw [secret_Wrong.f, more_eq, Option.bind_some]
  unfold wrongR moreR
  by_cases h : neededR l n = 0
  · obtain ⟨hv, h1, h6⟩ := neededR_ok h
    rw [if_pos h, if_pos h]
    by_cases hs : (l.length : Int) < n + 2
    · rw [if_pos hs, if_pos hs, if_neg (by decide)]
    · rw [if_neg hs, if_neg hs, if_pos rfl, swrong_eq l n hv h1 h6 k hk, Option.bind_some]
      by_cases hl : lies l n.toNat = true
      · rw [if_pos hl, if_pos hl]
      · rw [if_neg hl, if_neg hl]
  · rw [if_neg h, if_neg h, if_neg h]
theorem rwrong_loop (l : List S43) (n : Int) (hv : valid l = 0) (h1 : 1 ≤ n) (h6 : n ≤ 6) : ∀ (d i k : Nat), i + d = l.length → 7000 + d < k →
    verditerref08_Wrong.l0 k l n (((cands l n.toNat i).getLastD 0 : Nat) : Int) (((cands l n.toNat i).length : Nat) : Int) (i : Int) = some ((candR (cands l n.toNat l.length)).1, (candR (cands l n.toNat l.length)).2, 0) := by
  obtain ⟨hlen, _, _⟩ := valid_iff.1 hv
  intro d
  induction d with
  | zero =>
    intro i k hi hk
    obtain ⟨k, rfl⟩ : ∃ j, k = j + 1 := ⟨k - 1, by omega⟩
    rw [verditerref08_Wrong.l0, if_neg (by omega), show i = l.length by omega]
    unfold candR
    by_cases h : (cands l n.toNat l.length).length = 1
    · obtain ⟨a, ha⟩ := List.length_eq_one_iff.1 h
      rw [ha]; rfl
    · rw [if_neg (by omega), if_neg h]
  | succ d ih =>
    intro i k hi hk
    obtain ⟨k, rfl⟩ : ∃ j, k = j + 1 := ⟨k - 1, by omega⟩
    have hil : i < l.length := by omega
    have ih' := ih (i + 1) k (by omega) (by omega)
    have hcl := cands_length l n.toNat i
    rw [cands_succ] at ih'
    rw [verditerref08_Wrong.l0, if_pos (by omega), rwo_eq l i hil (by omega), Option.bind_some, rlie_eq _ n (valid_erase hv i) h1 h6 k (by omega), Option.bind_some]
    by_cases h : lies (l.eraseIdx i) n.toNat = true
    · rw [if_pos h] at ih'
      rw [if_pos h, wrap_succ i (by omega), wrap_succ _ (by omega)]
      rw [List.length_append, getLastD_snoc] at ih'
      exact ih'
    · rw [if_neg h, List.append_nil] at ih'
      rw [if_neg h, wrap_succ i (by omega)]
      exact ih'
theorem rWrong_eq (l : List S43) (n : Int) (k : Nat) (hk : 8000 ≤ k) : verditerref08_Wrong.f k l n = some (wrongR l n) := by
  rw [verditerref08_Wrong.f, rneeded_eq l n k (by omega), Option.bind_some]
  unfold wrongR
  by_cases h : neededR l n = 0
  · obtain ⟨hv, h1, h6⟩ := neededR_ok h
    obtain ⟨hlen, _, _⟩ := valid_iff.1 hv
    rw [if_pos h, if_pos h, wrap_id (a := n + 2) (by omega) (by omega)]
    by_cases hs : (l.length : Int) < n + 2
    · rw [if_pos hs, if_pos hs]
    · rw [if_neg hs, if_neg hs, rlie_eq l n hv h1 h6 k (by omega), Option.bind_some]
      by_cases hl : lies l n.toNat = true
      · rw [if_pos hl, if_pos hl]
      · rw [if_neg hl, if_neg hl]
        exact rwrong_loop l n hv h1 h6 l.length 0 k (by omega) (by omega)
  · rw [if_neg h, if_neg h]
theorem wrongR_true {l : List S43} {n : Int} (h : (wrongR l n).2.1 = true) : neededR l n = 0 ∧ n + 2 ≤ (l.length : Int) ∧ lies l n.toNat = false ∧ ∃ a, a < l.length ∧ cands l n.toNat l.length = [a] ∧ wrongR l n = ((a : Int), true, 0) ∧ lies (l.eraseIdx a) n.toNat = true := by
  unfold wrongR at h
  by_cases hn : neededR l n = 0
  · rw [if_pos hn] at h
    by_cases hs : (l.length : Int) < n + 2
    · rw [if_pos hs] at h; cases h
    · rw [if_neg hs] at h
      by_cases hl : lies l n.toNat = true
      · rw [if_pos hl] at h; cases h
      · rw [if_neg hl] at h
        obtain ⟨a, ha, he⟩ := candR_one h
        have hm : a ∈ cands l n.toNat l.length := by rw [ha]; simp
        unfold cands at hm
        rw [List.mem_filter, List.mem_range] at hm
        refine ⟨hn, by omega, Bool.eq_false_iff.2 hl, a, hm.1, ha, ?_, hm.2⟩
        unfold wrongR
        have h' : (candR (cands l n.toNat l.length)).2 = true := h
        rw [if_pos hn, if_neg hs, if_neg hl, he, h']
  · rw [if_neg hn] at h; cases h
end Go.Proofs.Ythlbjdiicmojfaa.P
