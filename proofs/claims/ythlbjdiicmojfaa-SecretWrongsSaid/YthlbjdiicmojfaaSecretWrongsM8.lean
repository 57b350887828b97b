/- Parts of the proof of the law SecretWrongs: walks of functions that it reaches, and plain facts about numbers, lists and curves; without a condition. -/
import Derived.Test.YthlbjdiicmojfaaSecretWrongsM1
import Derived.Test.YthlbjdiicmojfaaSecretWrongsM7
import Derived.Test.YthlbjdiicmojfaaSecretWrongsM6
import Derived.Test.YthlbjdiicmojfaaSecretWrongsM4
/-! Part PF50. -/
-- Written for this claim by wip/print_more.py (a session's program that runs the kit's printer with hand-proved functions beside). Lean checks it.
namespace Go.Proofs.Ythlbjdiicmojfaa.P
open Go.RowKit Go.Proofs.YthlbjdiicmojfaaW.PrintWords Go.Proofs.YthlbjdiicmojfaaW.PrintLast Go.Proofs.YthlbjdiicmojfaaW.PrintMore
attribute [local go_sem] max2_int min2_int max_two min_two max_three min_three max_four min_four   -- for this text's walks alone
set_option linter.unusedVariables false
set_option linter.unusedSimpArgs false

/-! ### verditerref08_Share: function 50 -/
def verditerref08_Share.l0 : Nat → List Int → Int → List (S43) → Int → Option ((List (S43)) × Int)
  | 0, _, _, _, _ => none
  | k + 1, x0, x1, x7, x8 => if x8 ≤ x1 then ((verditerref08_at.f k x0 x8).bind fun t300 => (if x7.length < 8796093022208 then (verditerref08_Share.l0 k x0 x1 (x7 ++ [(⟨x8, t300⟩ : S43)]) (wrap64 (x8 + 1))) else (none))) else (some (x7, 0))
def verditerref08_Share.f (k : Nat) (l0 : List Int) (a1 : Int) : Option ((List (S43)) × Int) := (verditerref08_curved.f k l0).bind fun t298 => (if t298 = 0 then ((verditerref08_within.f a1 1 12).bind fun t299 => (if t299 = true then (verditerref08_Share.l0 k l0 a1 ([] : List (S43)) 1) else (some (([] : List (S43)), 1)))) else (some (([] : List (S43)), t298)))
theorem verditerref08_Share.mono_l : ∀ k, (∀ y0 y1 y2 y3, LeO (verditerref08_Share.l0 k y0 y1 y2 y3) (verditerref08_Share.l0 (k + 1) y0 y1 y2 y3))
  | 0 => fun _ _ _ _ r h => by simp [verditerref08_Share.l0] at h
  | k + 1 => by
    have ih0 := verditerref08_Share.mono_l k
    · intro y0 y1 y2 y3
      unfold verditerref08_Share.l0
      repeat' first
      | (with_reducible exact ih0 _ _ _ _)
      | (with_reducible exact verditerref08_at.mono _ _ _)
      | (with_reducible exact verditerref08_curved.mono _ _)
      | (with_reducible exact LeO.refl _)
      | (with_reducible exact LeO.none _)
      | (with_reducible refine LeO.ite ?_ ?_)
      | (with_reducible refine LeO.bind ?_ (fun _ => ?_))
      | exact ih0 _ _ _ _
      | exact verditerref08_at.mono _ _ _
      | exact verditerref08_curved.mono _ _
      | exact LeO.none _
      | refine LeO.ite ?_ ?_
      | refine LeO.bind ?_ (fun _ => ?_)
theorem verditerref08_Share.mono : ∀ a0 a1 k, LeO (verditerref08_Share.f k a0 a1) (verditerref08_Share.f (k + 1) a0 a1) := by
  intro a0 a1 k
  have ih0 := verditerref08_Share.mono_l k
  unfold verditerref08_Share.f
  repeat' first
      | (with_reducible exact ih0 _ _ _ _)
      | (with_reducible exact verditerref08_at.mono _ _ _)
      | (with_reducible exact verditerref08_curved.mono _ _)
      | (with_reducible exact LeO.refl _)
      | (with_reducible exact LeO.none _)
      | (with_reducible refine LeO.ite ?_ ?_)
      | (with_reducible refine LeO.bind ?_ (fun _ => ?_))
      | exact ih0 _ _ _ _
      | exact verditerref08_at.mono _ _ _
      | exact verditerref08_curved.mono _ _
      | exact LeO.none _
      | refine LeO.ite ?_ ?_
      | refine LeO.bind ?_ (fun _ => ?_)
set_option maxHeartbeats 8000000 in
set_option maxRecDepth 100000 in
theorem verditerref08_Share.calls (k : Nat) (A0 : Option Addr) (c0 : Nat) (l0 : List Int) (a1 : Int) (r1 : List (S43)) (r2 : Int) (w : World) (hr0 : Kd.C (Kd.int .i64) w A0 l0.length l0) (hc0 : l0.length ≤ c0) (h : verditerref08_Share.f k l0 a1 = some (r1, r2)) :
    Calls Try.prog 50 #[.slice A0 l0.length c0, .int .i64 a1] w fun e w' => ∃ v0_ : Value, e = .returned (.tuple #[v0_, .int .i64 r2]) ∧ Kd.R k43 43 w' w.heap.size (fun _ => True) v0_ r1 ∧ Below w.heap.size w w' := by
  have hu43 := Try.underlying43
  have HR0 := Aside0.mk hr0
  have HC0 := Aside0.mk hc0
  clear hr0 hc0
  have HB := Aside0.mk (Below.refl w.heap.size w)
  have H : ((verditerref08_curved.f k l0).bind fun t298 => (if t298 = 0 then ((verditerref08_within.f a1 1 12).bind fun t299 => (if t299 = true then (verditerref08_Share.l0 k l0 a1 ([] : List (S43)) 1) else (some (([] : List (S43)), 1)))) else (some (([] : List (S43)), t298)))) = some (r1, r2) := h
  clear h
  replace H := Option.bind_eq_some_iff.mp H
  obtain ⟨t298, A30, H⟩ := H
  replace H : (if t298 = 0 then ((verditerref08_within.f a1 1 12).bind fun t299 => (if t299 = true then (verditerref08_Share.l0 k l0 a1 ([] : List (S43)) 1) else (some (([] : List (S43)), 1)))) else (some (([] : List (S43)), t298))) = some (r1, r2) := H
  have A3 := Aside0.mk A30
  clear A30
  by_cases c4 : t298 = 0
  · rw [if_pos c4] at H
    have c4b0 : (t298 == 0) = true := beq_iff_eq.mpr c4
    have c4b1 : (t298 != 0) = false := bne_eq_false_iff_eq.mpr c4
    clear c4
    replace H := Option.bind_eq_some_iff.mp H
    obtain ⟨t299, A50, H⟩ := H
    replace H : (if t299 = true then (verditerref08_Share.l0 k l0 a1 ([] : List (S43)) 1) else (some (([] : List (S43)), 1))) = some (r1, r2) := H
    have A5 := Aside0.mk A50
    clear A50
    by_cases c6 : t299 = true
    · subst c6
      have H1 : (verditerref08_Share.l0 k l0 a1 ([] : List (S43)) 1) = some (r1, r2) := by rw [if_pos rfl] at H; exact H
      clear H
      have H := H1
      clear H1
      have H' := Aside0.mk H
      clear H
      go_enter Try.func50, Try.ntmps50
      go_wp2_with (first | ((with_reducible refine gate_callee (f := 81) rfl ?_); refine goesL_ (some 10) rfl rfl Try.func81 (by kernel_rfl) rfl #[.slice A0 l0.length c0] rfl (by (try simp only [List.map_toArray, List.map_cons, List.map_nil]); first | done | rfl | (simp only [List.length_drop, List.length_take]; rfl)) ?_; (with_reducible refine (verditerref08_curved.calls k _ _ l0 t298 _ ?side1 ?side2 A3.out).mono ?_); (case side1 => repeat (first | exact HR0.out | (with_reducible refine Kd.C_alloc ?_ _) | (with_reducible refine Kd.C_drewN ?_ _) | (with_reducible refine Kd.C_drew ?_))); (case side2 => exact HC0.out); rintro e w' ⟨rfl, ⟨nd, rfl⟩⟩; refine ⟨_, rfl, ?_⟩) | ((with_reducible refine gate_callee (f := 83) rfl ?_); refine goesL_ (some 15) rfl rfl Try.func83 (by kernel_rfl) rfl #[.int .i64 a1, .int .i64 1, .int .i64 12] rfl (by (try simp only [List.map_toArray, List.map_cons, List.map_nil]); first | done | rfl | (simp only [List.length_drop, List.length_take]; rfl)) ?_; (with_reducible refine (verditerref08_within.calls a1 1 12 true _ A5.out).mono ?_); rintro e w' ⟨rfl, ⟨nd, rfl⟩⟩; refine ⟨_, rfl, ?_⟩))
      go_loopg [7, 8] k (fun kq v7 v8 w' => ∃ (x7_1 : List (S43)) (x8_1 : Int), v8 = .int .i64 x8_1 ∧ Aside0 (verditerref08_Share.l0 kq l0 a1 x7_1 x8_1 = some (r1, r2)) ∧ Aside0 (kq ≤ k) ∧ Aside0 (Kd.R k43 43 w' w.heap.size (fun _ => True) v7 x7_1) ∧ Aside0 (Below w.heap.size w w'))
      case atStart => exact ⟨(([] : List (S43))), (1), (by first | rfl | (simp; done) | (simp [*]; done)), H', ⟨Nat.le_refl _⟩, ⟨by first | exact Kd.R_nil _ _ _ _ _ | exact Kd.N_nil _ _ _ _ _ | exact Kd.V_nil _ _ _ _ _ | exact Kd.Q_nil _ _ _ _ _ | exact Kd.S_nil _ _ _ _ _⟩, ⟨by repeat (first | (with_reducible first | exact HB.out | apply below_alloc | apply pw_below_drewN | apply below_drew1) | exact HB.out)⟩⟩
      case round =>
        clear H'
        try clear p2
        try clear c4
        try clear c4b0
        try clear c4b1
        try clear c5
        try clear c6
        obtain ⟨x7_1, x8_1, rfl, HA, HK1, HO_7, HB⟩ := hrel
        cases gk with
        | zero => exact absurd HA.out (by simp [verditerref08_Share.l0])
        | succ k1 =>
          have H := HA.out
          clear HA
          simp only [verditerref08_Share.l0] at H
          by_cases c7 : x8_1 ≤ a1
          · rw [if_pos c7] at H
            have c7b0 : decide (x8_1 ≤ a1) = true := decide_eq_true c7
            clear c7
            replace H := Option.bind_eq_some_iff.mp H
            obtain ⟨t300, A80, H⟩ := H
            replace H : (if x7_1.length < 8796093022208 then (verditerref08_Share.l0 k1 l0 a1 (x7_1 ++ [(⟨x8_1, t300⟩ : S43)]) (wrap64 (x8_1 + 1))) else (none)) = some (r1, r2) := H
            have A8 := Aside0.mk A80
            clear A80
            by_cases c9 : x7_1.length < 8796093022208
            · rw [if_pos c9] at H
              have LMc9 := Aside0.mk c9
              clear c9
              obtain ⟨y301, hy301⟩ : ∃ y_ : List (S43), y_ = (x7_1 ++ [(⟨x8_1, t300⟩ : S43)]) := ⟨_, rfl⟩
              replace H : (verditerref08_Share.l0 k1 l0 a1 y301 (wrap64 (x8_1 + 1))) = some (r1, r2) := by first | (rw [hy301]; with_reducible exact H) | (have H2_ := (Option.bind_some _ _).symm.trans H; rw [hy301]; with_reducible exact H2_) | (have H2_ := (Option.bind_some _ _).symm.trans H; with_reducible exact H2_) | with_reducible exact H | (rw [hy301]; exact H) | exact H
              have Ny301 := Aside0.mk hy301
              clear hy301
              have H' := Aside0.mk H
              clear H
              go_wp2_with (first | ((with_reducible refine gate_callee (f := 82) rfl ?_); refine goesL_ (some 26) rfl rfl Try.func82 (by kernel_rfl) rfl #[.slice A0 l0.length c0, .int .i64 x8_1] rfl (by (try simp only [List.map_toArray, List.map_cons, List.map_nil]); first | done | rfl | (simp only [List.length_drop, List.length_take]; rfl)) ?_; (with_reducible refine (verditerref08_at.calls k1 _ _ l0 x8_1 t300 _ ?side1 ?side2 A8.out).mono ?_); (case side1 => repeat (first | exact (Kd.C_below HR0.out HB.out) | (with_reducible refine Kd.C_alloc ?_ _) | (with_reducible refine Kd.C_drewN ?_ _) | (with_reducible refine Kd.C_drew ?_))); (case side2 => exact HC0.out); rintro e w' ⟨rfl, ⟨nd, rfl⟩⟩; refine ⟨_, rfl, ?_⟩) | ((with_reducible refine gate_builtin (b := .append) (xs := #[.tmp 22, .tmp 28]) rfl ?_); at_builtin; refine Kd.R_append k43 (w0 := w) w.heap.size rfl (.tmp 22) (.tmp 28) 22 43 (.agg #[(.int .i64 0), (.int .i64 0)]) 16 rfl Try.underlying22 info43 rfl (by decide) (by omega) u7 x7_1 (⟨x8_1, t300⟩ : S43) [.int .i64 x8_1, .int .i64 t300] (fun _ => True) (fun _ => False) rfl rfl ?aP (fun _ hk => hk.elim) ?aF ?aO ?aB ?aS ?aL ?_; (case aP => exact k43_mkM _ _ _ (⟨x8_1, t300⟩ : S43)); (case aB => exact (by repeat (first | (with_reducible first | exact HB.out | apply below_alloc | apply pw_below_drewN | apply below_drew1) | exact HB.out))); (case aF => exact (fun _ _ => trivial)); (case aO => exact (by (with_reducible repeat (first | apply Kd.R_alloc | apply Kd.R_drewN | apply Kd.R_drew)); exact HO_7.out)); (case aS => exact (below_size (by repeat (first | (with_reducible first | exact HB.out | apply below_alloc | apply pw_below_drewN | apply below_drew1) | exact HB.out)))); (case aL => have := LMc9.out; omega); intro v302 w10 ho hb hg hat; rw [← Ny301.out] at ho; have n0_ := Aside0.mk (hb); have n1_ := Aside0.mk (ho); clear HB; clear HO_7; have HB := n0_; have HO303 := n1_; clear n0_ n1_; clear ho hb hg hat))
              go_roundg k1
              case measure => have := HK1.out; omega
              case rel => exact ⟨(y301), (wrap64 (x8_1 + 1)), (by first | rfl | (simp; done) | (simp [*]; done)), H', ⟨by have := HK1.out; omega⟩, ⟨by (with_reducible repeat (first | apply Kd.R_alloc | apply Kd.R_drewN | apply Kd.R_drew)); exact HO303.out⟩, ⟨by repeat (first | (with_reducible first | exact HB.out | apply below_alloc | apply pw_below_drewN | apply below_drew1) | exact HB.out)⟩⟩
            · rw [if_neg c9] at H
              exact absurd H (by simp)
          · rw [if_neg c7] at H
            have c7b0 : decide (x8_1 ≤ a1) = false := decide_eq_false c7
            clear c7
            simp only [Option.some.injEq, Prod.mk.injEq] at H
            obtain ⟨rfl, rfl⟩ := H
            go_wp2
            go_ret2
            exact ⟨_, by first | rfl | (simp [errW_none, errW_some] <;> rfl) | (simp [*, errW_none, errW_some] <;> rfl), by (with_reducible repeat (first | apply Kd.R_alloc | apply Kd.R_drewN | apply Kd.R_drew)); exact HO_7.out, by repeat (first | (with_reducible first | exact HB.out | apply below_alloc | apply pw_below_drewN | apply below_drew1) | exact HB.out)⟩
    · replace c6 := Bool.eq_false_iff.mpr c6
      subst c6
      have H1 : (some (([] : List (S43)), 1)) = some (r1, r2) := by rw [if_neg (show ¬ (false = true) by decide)] at H; exact H
      clear H
      have H := H1
      clear H1
      simp only [Option.some.injEq, Prod.mk.injEq] at H
      obtain ⟨rfl, rfl⟩ := H
      go_enter Try.func50, Try.ntmps50
      go_wp2_with (first | ((with_reducible refine gate_callee (f := 81) rfl ?_); refine goesL_ (some 10) rfl rfl Try.func81 (by kernel_rfl) rfl #[.slice A0 l0.length c0] rfl (by (try simp only [List.map_toArray, List.map_cons, List.map_nil]); first | done | rfl | (simp only [List.length_drop, List.length_take]; rfl)) ?_; (with_reducible refine (verditerref08_curved.calls k _ _ l0 t298 _ ?side1 ?side2 A3.out).mono ?_); (case side1 => repeat (first | exact HR0.out | (with_reducible refine Kd.C_alloc ?_ _) | (with_reducible refine Kd.C_drewN ?_ _) | (with_reducible refine Kd.C_drew ?_))); (case side2 => exact HC0.out); rintro e w' ⟨rfl, ⟨nd, rfl⟩⟩; refine ⟨_, rfl, ?_⟩) | ((with_reducible refine gate_callee (f := 83) rfl ?_); refine goesL_ (some 15) rfl rfl Try.func83 (by kernel_rfl) rfl #[.int .i64 a1, .int .i64 1, .int .i64 12] rfl (by (try simp only [List.map_toArray, List.map_cons, List.map_nil]); first | done | rfl | (simp only [List.length_drop, List.length_take]; rfl)) ?_; (with_reducible refine (verditerref08_within.calls a1 1 12 false _ A5.out).mono ?_); rintro e w' ⟨rfl, ⟨nd, rfl⟩⟩; refine ⟨_, rfl, ?_⟩))
      go_ret2
      exact ⟨_, by first | rfl | (simp [errW_none, errW_some] <;> rfl) | (simp [*, errW_none, errW_some] <;> rfl), by first | exact Kd.R_nil _ _ _ _ _ | exact Kd.N_nil _ _ _ _ _ | exact Kd.V_nil _ _ _ _ _ | exact Kd.Q_nil _ _ _ _ _ | exact Kd.S_nil _ _ _ _ _, by repeat (first | (with_reducible first | exact HB.out | apply below_alloc | apply pw_below_drewN | apply below_drew1) | exact HB.out)⟩
  · rw [if_neg c4] at H
    have c4b0 : (t298 == 0) = false := beq_eq_false_iff_ne.mpr c4
    have c4b1 : (t298 != 0) = true := bne_iff_ne.mpr c4
    simp only [Option.some.injEq, Prod.mk.injEq] at H
    obtain ⟨rfl, rfl⟩ := H
    go_enter Try.func50, Try.ntmps50
    go_wp2_with (first | ((with_reducible refine gate_callee (f := 81) rfl ?_); refine goesL_ (some 10) rfl rfl Try.func81 (by kernel_rfl) rfl #[.slice A0 l0.length c0] rfl (by (try simp only [List.map_toArray, List.map_cons, List.map_nil]); first | done | rfl | (simp only [List.length_drop, List.length_take]; rfl)) ?_; (with_reducible refine (verditerref08_curved.calls k _ _ l0 t298 _ ?side1 ?side2 A3.out).mono ?_); (case side1 => repeat (first | exact HR0.out | (with_reducible refine Kd.C_alloc ?_ _) | (with_reducible refine Kd.C_drewN ?_ _) | (with_reducible refine Kd.C_drew ?_))); (case side2 => exact HC0.out); rintro e w' ⟨rfl, ⟨nd, rfl⟩⟩; refine ⟨_, rfl, ?_⟩))
    go_ret2
    exact ⟨_, by first | rfl | (simp [errW_none, errW_some] <;> rfl) | (simp [*, errW_none, errW_some] <;> rfl), by first | exact Kd.R_nil _ _ _ _ _ | exact Kd.N_nil _ _ _ _ _ | exact Kd.V_nil _ _ _ _ _ | exact Kd.Q_nil _ _ _ _ _ | exact Kd.S_nil _ _ _ _ _, by repeat (first | (with_reducible first | exact HB.out | apply below_alloc | apply pw_below_drewN | apply below_drew1) | exact HB.out)⟩

end Go.Proofs.Ythlbjdiicmojfaa.P

/-! Part PF54. -/
-- Written for this claim by wip/print_more.py (a session's program that runs the kit's printer with hand-proved functions beside). Lean checks it.
namespace Go.Proofs.Ythlbjdiicmojfaa.P
open Go.RowKit Go.Proofs.YthlbjdiicmojfaaW.PrintWords Go.Proofs.YthlbjdiicmojfaaW.PrintLast Go.Proofs.YthlbjdiicmojfaaW.PrintMore
attribute [local go_sem] max2_int min2_int max_two min_two max_three min_three max_four min_four   -- for this text's walks alone
set_option linter.unusedVariables false
set_option linter.unusedSimpArgs false

/-! ### verditerref08_LieOn: function 54 -/
def verditerref08_LieOn.f (k : Nat) (l0 : List (S43)) (a1 : Int) : Option (Bool × Int) := (verditerref08_needed.f k l0 a1).bind fun t334 => (if t334 = 0 then ((verditerref08_lie.f k l0 a1).bind fun t335 => (some (t335, 0))) else (some (false, t334)))
theorem verditerref08_LieOn.mono : ∀ a0 a1 k, LeO (verditerref08_LieOn.f k a0 a1) (verditerref08_LieOn.f (k + 1) a0 a1) := by
  intro a0 a1 k
  unfold verditerref08_LieOn.f
  repeat' first
      | (with_reducible exact verditerref08_lie.mono _ _ _)
      | (with_reducible exact verditerref08_needed.mono _ _ _)
      | (with_reducible exact LeO.refl _)
      | (with_reducible exact LeO.none _)
      | (with_reducible refine LeO.ite ?_ ?_)
      | (with_reducible refine LeO.bind ?_ (fun _ => ?_))
      | exact verditerref08_lie.mono _ _ _
      | exact verditerref08_needed.mono _ _ _
      | exact LeO.none _
      | refine LeO.ite ?_ ?_
      | refine LeO.bind ?_ (fun _ => ?_)
set_option maxHeartbeats 8000000 in
set_option maxRecDepth 100000 in
theorem verditerref08_LieOn.calls (k : Nat) (A0 : Option Addr) (c0 : Nat) (l0 : List (S43)) (a1 : Int) (r1 : Bool) (r2 : Int) (w : World) (hr0 : Kd.C k43 w A0 l0.length l0) (hc0 : l0.length ≤ c0) (h : verditerref08_LieOn.f k l0 a1 = some (r1, r2)) :
    Calls Try.prog 54 #[.slice A0 l0.length c0, .int .i64 a1] w fun e w' => e = .returned (.tuple #[.bool r1, .int .i64 r2]) ∧ Below w.heap.size w w' := by
  have HR0 := Aside0.mk hr0
  have HC0 := Aside0.mk hc0
  clear hr0 hc0
  have HB := Aside0.mk (Below.refl w.heap.size w)
  have H : ((verditerref08_needed.f k l0 a1).bind fun t334 => (if t334 = 0 then ((verditerref08_lie.f k l0 a1).bind fun t335 => (some (t335, 0))) else (some (false, t334)))) = some (r1, r2) := h
  clear h
  replace H := Option.bind_eq_some_iff.mp H
  obtain ⟨t334, A30, H⟩ := H
  replace H : (if t334 = 0 then ((verditerref08_lie.f k l0 a1).bind fun t335 => (some (t335, 0))) else (some (false, t334))) = some (r1, r2) := H
  have A3 := Aside0.mk A30
  clear A30
  by_cases c4 : t334 = 0
  · rw [if_pos c4] at H
    have c4b0 : (t334 == 0) = true := beq_iff_eq.mpr c4
    have c4b1 : (t334 != 0) = false := bne_eq_false_iff_eq.mpr c4
    clear c4
    replace H := Option.bind_eq_some_iff.mp H
    obtain ⟨t335, A50, H⟩ := H
    replace H : (some (t335, 0)) = some (r1, r2) := H
    have A5 := Aside0.mk A50
    clear A50
    simp only [Option.some.injEq, Prod.mk.injEq] at H
    obtain ⟨rfl, rfl⟩ := H
    go_enter Try.func54, Try.ntmps54
    go_wp2_with (first | ((with_reducible refine gate_callee (f := 91) rfl ?_); refine goesL_ (some 9) rfl rfl Try.func91 (by kernel_rfl) rfl #[.slice A0 l0.length c0, .int .i64 a1] rfl (by (try simp only [List.map_toArray, List.map_cons, List.map_nil]); first | done | rfl | (simp only [List.length_drop, List.length_take]; rfl)) ?_; (with_reducible refine (verditerref08_needed.calls k _ _ l0 a1 t334 _ ?side1 ?side2 A3.out).mono ?_); (case side1 => repeat (first | exact HR0.out | (with_reducible refine Kd.C_alloc ?_ _) | (with_reducible refine Kd.C_drewN ?_ _) | (with_reducible refine Kd.C_drew ?_))); (case side2 => exact HC0.out); rintro e w' ⟨rfl, ⟨nd, rfl⟩⟩; refine ⟨_, rfl, ?_⟩) | ((with_reducible refine gate_callee (f := 92) rfl ?_); refine goesL_ (some 15) rfl rfl Try.func92 (by kernel_rfl) rfl #[.slice A0 l0.length c0, .int .i64 a1] rfl (by (try simp only [List.map_toArray, List.map_cons, List.map_nil]); first | done | rfl | (simp only [List.length_drop, List.length_take]; rfl)) ?_; (with_reducible refine (verditerref08_lie.calls k _ _ l0 a1 t335 _ ?side1 ?side2 A5.out).mono ?_); (case side1 => repeat (first | exact HR0.out | (with_reducible refine Kd.C_alloc ?_ _) | (with_reducible refine Kd.C_drewN ?_ _) | (with_reducible refine Kd.C_drew ?_))); (case side2 => exact HC0.out); rintro e w6 ⟨rfl, hb⟩; refine ⟨_, rfl, ?_⟩; have n0_ := Aside0.mk (below_step (by repeat (first | (with_reducible first | exact HB.out | apply below_alloc | apply pw_below_drewN | apply below_drew1) | exact HB.out)) hb); clear HB; have HB := n0_; clear n0_; (try clear hb); (try clear hb2); (try clear hk); (try clear hi)))
    go_ret2
    exact ⟨by first | rfl | (simp [errW_none, errW_some] <;> rfl) | (simp [*, errW_none, errW_some] <;> rfl), by repeat (first | (with_reducible first | exact HB.out | apply below_alloc | apply pw_below_drewN | apply below_drew1) | exact HB.out)⟩
  · rw [if_neg c4] at H
    have c4b0 : (t334 == 0) = false := beq_eq_false_iff_ne.mpr c4
    have c4b1 : (t334 != 0) = true := bne_iff_ne.mpr c4
    simp only [Option.some.injEq, Prod.mk.injEq] at H
    obtain ⟨rfl, rfl⟩ := H
    go_enter Try.func54, Try.ntmps54
    go_wp2_with (first | ((with_reducible refine gate_callee (f := 91) rfl ?_); refine goesL_ (some 9) rfl rfl Try.func91 (by kernel_rfl) rfl #[.slice A0 l0.length c0, .int .i64 a1] rfl (by (try simp only [List.map_toArray, List.map_cons, List.map_nil]); first | done | rfl | (simp only [List.length_drop, List.length_take]; rfl)) ?_; (with_reducible refine (verditerref08_needed.calls k _ _ l0 a1 t334 _ ?side1 ?side2 A3.out).mono ?_); (case side1 => repeat (first | exact HR0.out | (with_reducible refine Kd.C_alloc ?_ _) | (with_reducible refine Kd.C_drewN ?_ _) | (with_reducible refine Kd.C_drew ?_))); (case side2 => exact HC0.out); rintro e w' ⟨rfl, ⟨nd, rfl⟩⟩; refine ⟨_, rfl, ?_⟩))
    go_ret2
    exact ⟨by first | rfl | (simp [errW_none, errW_some] <;> rfl) | (simp [*, errW_none, errW_some] <;> rfl), by repeat (first | (with_reducible first | exact HB.out | apply below_alloc | apply pw_below_drewN | apply below_drew1) | exact HB.out)⟩

end Go.Proofs.Ythlbjdiicmojfaa.P

/-! Part Eqs2. -/
namespace Go.Proofs.Ythlbjdiicmojfaa.P
open Go.RowKit Go.Proofs.YthlbjdiicmojfaaW.PrintWords Go.Proofs.YthlbjdiicmojfaaW.PrintLast Go.Proofs.YthlbjdiicmojfaaW.PrintMore
set_option linter.unusedVariables false

/-! ### What lies on a curve -/
def neededR (l : List S43) (n : Int) : Int := if valid l = 0 then (if 1 ≤ n ∧ n ≤ 6 then 0 else 1) else valid l
theorem neededR_ok {l : List S43} {n : Int} (h : neededR l n = 0) : valid l = 0 ∧ 1 ≤ n ∧ n ≤ 6 := by
  unfold neededR at h
  by_cases hv : valid l = 0
  · rw [if_pos hv] at h
    by_cases hn : 1 ≤ n ∧ n ≤ 6
    · exact ⟨hv, hn⟩
    · rw [if_neg hn] at h; cases h
  · rw [if_neg hv] at h
    exact absurd h hv
theorem neededR_eq {l : List S43} {n : Int} (hv : valid l = 0) (h1 : 1 ≤ n) (h6 : n ≤ 6) : neededR l n = 0 := by
  unfold neededR; rw [if_pos hv, if_pos ⟨h1, h6⟩]
theorem swithin_eq (a lo hi : Int) : secret_within.f a lo hi = some (decide (lo ≤ a) && decide (a ≤ hi)) := by
  unfold secret_within.f
  split
  · rename_i h; rw [decide_eq_true (show lo ≤ a from h)]; rfl
  · rename_i h; rw [decide_eq_false (show ¬ lo ≤ a from h)]; rfl
theorem within_if {α : Type} (a lo hi : Int) (x y : α) : (if (decide (lo ≤ a) && decide (a ≤ hi)) = true then x else y) = (if lo ≤ a ∧ a ≤ hi then x else y) := by
  by_cases h : lo ≤ a ∧ a ≤ hi
  · rw [if_pos h, if_pos (by rw [decide_eq_true h.1, decide_eq_true h.2]; rfl)]
  · rw [if_neg h, if_neg]
    intro e
    rw [Bool.and_eq_true, decide_eq_true_iff, decide_eq_true_iff] at e
    exact h e
theorem needed_eq (l : List S43) (n : Int) : secret_needed.f l n = some (neededR l n) := by
  rw [secret_needed.f, secret_Validate.f, Option.bind_some]
  unfold neededR
  by_cases hv : valid l = 0
  · rw [if_pos hv, if_pos hv, swithin_eq, Option.bind_some, within_if]
    split <;> rfl
  · rw [if_neg hv, if_neg hv]
theorem rneeded_eq (l : List S43) (n : Int) (k : Nat) (hk : 300 ≤ k) : verditerref08_needed.f k l n = some (neededR l n) := by
  rw [verditerref08_needed.f, rval_eq l k hk, Option.bind_some]
  unfold neededR
  by_cases hv : valid l = 0
  · rw [if_pos hv, if_pos hv, rwithin_eq, Option.bind_some, within_if]
    split <;> rfl
  · rw [if_neg hv, if_neg hv]
theorem valid_sub {l m : List S43} (h : valid l = 0) (hs : m.Sublist l) : valid m = 0 := by
  obtain ⟨h1, h2, h3⟩ := valid_iff.1 h
  exact valid_iff.2 ⟨Nat.le_trans hs.length_le h1, fun p hp => h2 p (hs.subset hp), List.Nodup.sublist (hs.map S43.f0) h3⟩
theorem lie_loop (l : List S43) (c : List Int) (hv : valid l = 0) (hc : ∀ n ∈ c, num n = true) (hcl : c.length ≤ 12) : ∀ (d i k : Nat), i + d = l.length → d + 100 < k → verditerref08_lie.l0 k l c (i : Int) = some ((l.drop i).all fun p => atI c p.f0 == p.f1) := by
  obtain ⟨hlen, _, _⟩ := valid_iff.1 hv
  intro d
  induction d with
  | zero =>
    intro i k hi hk
    obtain ⟨k, rfl⟩ : ∃ j, k = j + 1 := ⟨k - 1, by omega⟩
    rw [verditerref08_lie.l0, if_neg (by omega), List.drop_of_length_le (by omega)]; rfl
  | succ d ih =>
    intro i k hi hk
    obtain ⟨k, rfl⟩ : ∃ j, k = j + 1 := ⟨k - 1, by omega⟩
    have hil : i < l.length := by omega
    rw [verditerref08_lie.l0, if_pos (by omega), if_pos (by omega), rdT_get l i hil, rat_eq c _ hc (valid_num hv (List.getElem_mem hil)).1 (by omega) k (by omega), Option.bind_some, List.drop_eq_getElem_cons hil, List.all_cons]
    by_cases e : atI c l[i].f0 = l[i].f1
    · rw [if_pos e, wrap_succ i (by omega), ih (i + 1) k (by omega) (by omega), beq_iff_eq.2 e]; rfl
    · rw [if_neg e, beq_eq_false_iff_ne.2 e]; rfl
theorem all_take {l : List S43} {n : Nat} (hv : valid l = 0) : ((l.take n).all fun p => atI (interp (pts (l.take n))) p.f0 == p.f1) = true := by
  rw [List.all_eq_true]
  intro p hp
  exact beq_iff_eq.2 (interp_at (good_pts (valid_sub hv (List.take_sublist n l))) (mem_pts hp))
theorem rlie_eq (l : List S43) (n : Int) (hv : valid l = 0) (h1 : 1 ≤ n) (h6 : n ≤ 6) (k : Nat) (hk : 7000 ≤ k) : verditerref08_lie.f k l n = some (lies l n.toNat) := by
  obtain ⟨hlen, _, _⟩ := valid_iff.1 hv
  rw [verditerref08_lie.f]
  unfold lies
  by_cases hln : (l.length : Int) ≤ n
  · rw [if_pos hln, decide_eq_true (show l.length ≤ n.toNat by omega)]; rfl
  · rw [if_neg hln, if_pos (by omega), if_pos (by omega), decide_eq_false (show ¬ l.length ≤ n.toNat by omega), Bool.false_or]
    have hvt := valid_sub hv (List.take_sublist n.toNat l)
    have htl : (l.take n.toNat).length = n.toNat := by rw [List.length_take]; omega
    rw [through_eq _ (by omega) (good_pts hvt) k hk, Option.bind_some]
    have := lie_loop l (interp (pts (l.take n.toNat))) hv (interp_nums _) (by rw [interp_len, pts_length]; omega) (l.length - n.toNat) n.toNat k (by omega) (by omega)
    rw [show ((n.toNat : Nat) : Int) = n by omega] at this
    rw [this]
    have h := all_take (n := n.toNat) hv
    have e : (l.all fun p => atI (interp (pts (l.take n.toNat))) p.f0 == p.f1) = (((l.take n.toNat) ++ (l.drop n.toNat)).all fun p => atI (interp (pts (l.take n.toNat))) p.f0 == p.f1) := by rw [List.take_append_drop]
    rw [e, List.all_append, h, Bool.true_and]
def lieOnR (l : List S43) (n : Int) : Bool × Int := if neededR l n = 0 then (lies l n.toNat, 0) else (false, neededR l n)
theorem lieOn_eq' (l : List S43) (n : Int) : secret_LieOn.f l n = some (lieOnR l n) := by
  rw [secret_LieOn.f, needed_eq, Option.bind_some]
  unfold lieOnR
  by_cases h : neededR l n = 0
  · obtain ⟨hv, h1, h6⟩ := neededR_ok h
    rw [if_pos h, if_pos h, secret_lieOn.f, if_pos ⟨hv, h1, h6⟩]; rfl
  · rw [if_neg h, if_neg h]
theorem rlieOn_eq (l : List S43) (n : Int) (k : Nat) (hk : 7000 ≤ k) : verditerref08_LieOn.f k l n = some (lieOnR l n) := by
  rw [verditerref08_LieOn.f, rneeded_eq l n k (by omega), Option.bind_some]
  unfold lieOnR
  by_cases h : neededR l n = 0
  · obtain ⟨hv, h1, h6⟩ := neededR_ok h
    rw [if_pos h, if_pos h, rlie_eq l n hv h1 h6 k hk]; rfl
  · rw [if_neg h, if_neg h]

/-! ### Shares -/
def shares (c : List Int) (n : Nat) : List S43 := (List.range n).map fun i => ⟨((i + 1 : Nat) : Int), atI c ((i + 1 : Nat) : Int)⟩
def shareR (c : List Int) (n : Int) : List S43 × Int := if curveErr c = 0 then (if 1 ≤ n ∧ n ≤ 12 then (shares c n.toNat, 0) else ([], 1)) else ([], curveErr c)
theorem shares_succ (c : List Int) (n : Nat) : shares c (n + 1) = shares c n ++ [⟨((n + 1 : Nat) : Int), atI c ((n + 1 : Nat) : Int)⟩] := by
  unfold shares; rw [List.range_succ, List.map_append]; rfl
theorem shares_length (c : List Int) (n : Nat) : (shares c n).length = n := by simp [shares]
theorem share_loop (c : List Int) (n : Nat) (hc : curveErr c = 0) (hn : n ≤ 12) : ∀ (d i k : Nat), i + d = n → d + 100 < k → secret_Share.l0 k c (n : Int) (shares c i) ((i + 1 : Nat) : Int) = some (shares c n, 0) := by
  obtain ⟨h1, h2, h3⟩ := curveErr_iff.1 hc
  intro d
  induction d with
  | zero =>
    intro i k hi hk
    obtain ⟨k, rfl⟩ : ∃ j, k = j + 1 := ⟨k - 1, by omega⟩
    rw [secret_Share.l0, if_neg (by omega), show i = n by omega]
  | succ d ih =>
    intro i k hi hk
    obtain ⟨k, rfl⟩ : ∃ j, k = j + 1 := ⟨k - 1, by omega⟩
    have hx : num ((i + 1 : Nat) : Int) = true := num_iff.2 (by omega)
    rw [secret_Share.l0, if_pos (by omega), secret_curve_at.f, if_pos (by rw [hx, List.all_eq_true.2 h3, decide_eq_true (show c.length ≤ 12 by omega)]; rfl), Option.bind_some, if_pos (by rw [shares_length]; omega), ← shares_succ, wrap_succ (i + 1) (by omega)]
    exact ih (i + 1) k (by omega) (by omega)
theorem share_eq (c : List Int) (n : Int) (k : Nat) (hk : 200 ≤ k) : secret_Share.f k c n = some (shareR c n) := by
  rw [secret_Share.f, secret_isCurve.f, Option.bind_some]
  unfold shareR
  by_cases hc : curveErr c = 0
  · rw [if_pos hc, if_pos hc, swithin_eq, Option.bind_some, within_if]
    by_cases hn : 1 ≤ n ∧ n ≤ 12
    · rw [if_pos hn, if_pos hn]
      have := share_loop c n.toNat hc (by omega) n.toNat 0 k (by omega) (by omega)
      rw [show ((n.toNat : Nat) : Int) = n by omega] at this
      exact this
    · rw [if_neg hn, if_neg hn]
  · rw [if_neg hc, if_neg hc]
theorem rshare_loop (c : List Int) (n : Nat) (hc : curveErr c = 0) (hn : n ≤ 12) : ∀ (d i k : Nat), i + d = n → d + 100 < k → verditerref08_Share.l0 k c (n : Int) (shares c i) ((i + 1 : Nat) : Int) = some (shares c n, 0) := by
  obtain ⟨h1, h2, h3⟩ := curveErr_iff.1 hc
  intro d
  induction d with
  | zero =>
    intro i k hi hk
    obtain ⟨k, rfl⟩ : ∃ j, k = j + 1 := ⟨k - 1, by omega⟩
    rw [verditerref08_Share.l0, if_neg (by omega), show i = n by omega]
  | succ d ih =>
    intro i k hi hk
    obtain ⟨k, rfl⟩ : ∃ j, k = j + 1 := ⟨k - 1, by omega⟩
    have hx : num ((i + 1 : Nat) : Int) = true := num_iff.2 (by omega)
    rw [verditerref08_Share.l0, if_pos (by omega), rat_eq c _ h3 hx (by omega) k (by omega), Option.bind_some, if_pos (by rw [shares_length]; omega), ← shares_succ, wrap_succ (i + 1) (by omega)]
    exact ih (i + 1) k (by omega) (by omega)
theorem rshare_eq (c : List Int) (n : Int) (hl : c.length ≤ 100) (k : Nat) (hk : 200 ≤ k) : verditerref08_Share.f k c n = some (shareR c n) := by
  rw [verditerref08_Share.f, rcurved_eq c (by omega) k (by omega), Option.bind_some]
  unfold shareR
  by_cases hc : curveErr c = 0
  · rw [if_pos hc, if_pos hc, rwithin_eq, Option.bind_some, within_if]
    by_cases hn : 1 ≤ n ∧ n ≤ 12
    · rw [if_pos hn, if_pos hn]
      have := rshare_loop c n.toNat hc (by omega) n.toNat 0 k (by omega) (by omega)
      rw [show ((n.toNat : Nat) : Int) = n by omega] at this
      exact this
    · rw [if_neg hn, if_neg hn]
  · rw [if_neg hc, if_neg hc]
theorem mem_shares {c : List Int} {n : Nat} {p : S43} (h : p ∈ shares c n) : 1 ≤ p.f0 ∧ p.f0 ≤ n ∧ p.f1 = atI c p.f0 := by
  obtain ⟨i, hi, rfl⟩ := List.mem_map.1 h
  have := List.mem_range.1 hi
  exact ⟨by simp only; omega, by simp only; omega, rfl⟩
theorem valid_shares (c : List Int) {n : Nat} (hn : n ≤ 12) : valid (shares c n) = 0 := by
  refine valid_iff.2 ⟨by rw [shares_length]; exact hn, fun p hp => ?_, ?_⟩
  · obtain ⟨h1, h2, h3⟩ := mem_shares hp
    have := num_iff.1 (num_atI c p.f0)
    exact okP_iff.2 (by rw [h3]; omega)
  · unfold shares
    rw [List.map_map]
    refine List.Pairwise.map _ (fun a b (h : a ≠ b) => ?_) List.nodup_range
    show ((a + 1 : Nat) : Int) ≠ ((b + 1 : Nat) : Int)
    omega
/-- Parts of one curve lie on the curve through the first of them. -/
theorem interp_of_curve {l : List S43} {c : List Int} (hv : valid l = 0) (hc : ∀ n ∈ c, num n = true) (hl : l.length = c.length) (h : ∀ p ∈ l, p.f1 = atI c p.f0) : interp (pts l) = c := by
  symm
  refine interp_uniq (good_pts hv) (by rw [pts_length]; omega) hc fun q hq => ?_
  obtain ⟨p, hp, rfl⟩ := List.mem_map.1 hq
  exact (h p hp).symm
theorem lies_of_curve {l : List S43} {c : List Int} {n : Nat} (hv : valid l = 0) (hc : ∀ n ∈ c, num n = true) (hn : c.length = n) (h : ∀ p ∈ l, p.f1 = atI c p.f0) : lies l n = true := by
  unfold lies
  by_cases hl : l.length ≤ n
  · rw [decide_eq_true hl]; rfl
  · rw [decide_eq_false hl, Bool.false_or, List.all_eq_true]
    intro p hp
    rw [interp_of_curve (valid_sub hv (List.take_sublist n l)) hc (by rw [List.length_take]; omega) (fun p hp => h p (List.mem_of_mem_take hp))]
    exact beq_iff_eq.2 (h p hp).symm
end Go.Proofs.Ythlbjdiicmojfaa.P

/-! Part PF61. -/
-- Written for this claim by wip/print_more.py (a session's program that runs the kit's printer with hand-proved functions beside). Lean checks it.
namespace Go.Proofs.Ythlbjdiicmojfaa.P
open Go.RowKit Go.Proofs.YthlbjdiicmojfaaW.PrintWords Go.Proofs.YthlbjdiicmojfaaW.PrintLast Go.Proofs.YthlbjdiicmojfaaW.PrintMore
attribute [local go_sem] max2_int min2_int max_two min_two max_three min_three max_four min_four   -- for this text's walks alone
set_option linter.unusedVariables false
set_option linter.unusedSimpArgs false

/-! ### verditerref08_Without: function 61 -/
def verditerref08_Without.l0 : Nat → List (S43) → Int → Int → Option ((List (S43)) × Int)
  | 0, _, _, _ => none
  | k + 1, x0, x1, x7 => if x7 < (x0.length : Int) then (if 0 ≤ x7 then (if ((rd_T43 x0 x7).f0) = x1 then ((verditerref08_without.f x0 x7).bind fun t455 => (some (t455, 0))) else (verditerref08_Without.l0 k x0 x1 (wrap64 (x7 + 1)))) else (none)) else (some (([] : List (S43)), 4))
def verditerref08_Without.f (k : Nat) (l0 : List (S43)) (a1 : Int) : Option ((List (S43)) × Int) := (verditerref08_Validate.f k l0).bind fun t452 => (if t452 = 0 then ((verditerref08_within.f a1 1 250).bind fun t453 => (if t453 = true then (verditerref08_Without.l0 k l0 a1 0) else (some (([] : List (S43)), 1)))) else (some (([] : List (S43)), t452)))
theorem verditerref08_Without.mono_l : ∀ k, (∀ y0 y1 y2, LeO (verditerref08_Without.l0 k y0 y1 y2) (verditerref08_Without.l0 (k + 1) y0 y1 y2))
  | 0 => fun _ _ _ r h => by simp [verditerref08_Without.l0] at h
  | k + 1 => by
    have ih0 := verditerref08_Without.mono_l k
    · intro y0 y1 y2
      unfold verditerref08_Without.l0
      repeat' first
      | (with_reducible exact ih0 _ _ _)
      | (with_reducible exact verditerref08_Validate.mono _ _)
      | (with_reducible exact LeO.refl _)
      | (with_reducible exact LeO.none _)
      | (with_reducible refine LeO.ite ?_ ?_)
      | (with_reducible refine LeO.bind ?_ (fun _ => ?_))
      | exact ih0 _ _ _
      | exact verditerref08_Validate.mono _ _
      | exact LeO.none _
      | refine LeO.ite ?_ ?_
      | refine LeO.bind ?_ (fun _ => ?_)
theorem verditerref08_Without.mono : ∀ a0 a1 k, LeO (verditerref08_Without.f k a0 a1) (verditerref08_Without.f (k + 1) a0 a1) := by
  intro a0 a1 k
  have ih0 := verditerref08_Without.mono_l k
  unfold verditerref08_Without.f
  repeat' first
      | (with_reducible exact ih0 _ _ _)
      | (with_reducible exact verditerref08_Validate.mono _ _)
      | (with_reducible exact LeO.refl _)
      | (with_reducible exact LeO.none _)
      | (with_reducible refine LeO.ite ?_ ?_)
      | (with_reducible refine LeO.bind ?_ (fun _ => ?_))
      | exact ih0 _ _ _
      | exact verditerref08_Validate.mono _ _
      | exact LeO.none _
      | refine LeO.ite ?_ ?_
      | refine LeO.bind ?_ (fun _ => ?_)
set_option maxHeartbeats 8000000 in
set_option maxRecDepth 100000 in
theorem verditerref08_Without.calls (k : Nat) (A0 : Option Addr) (c0 : Nat) (l0 : List (S43)) (a1 : Int) (r1 : List (S43)) (r2 : Int) (w : World) (hr0 : Kd.C k43 w A0 l0.length l0) (hc0 : l0.length ≤ c0) (h : verditerref08_Without.f k l0 a1 = some (r1, r2)) :
    Calls Try.prog 61 #[.slice A0 l0.length c0, .int .i64 a1] w fun e w' => ∃ v0_ : Value, e = .returned (.tuple #[v0_, .int .i64 r2]) ∧ Kd.R k43 43 w' w.heap.size (fun _ => True) v0_ r1 ∧ Below w.heap.size w w' := by
  have HR0 := Aside0.mk hr0
  have HC0 := Aside0.mk hc0
  clear hr0 hc0
  have HB := Aside0.mk (Below.refl w.heap.size w)
  have H : ((verditerref08_Validate.f k l0).bind fun t452 => (if t452 = 0 then ((verditerref08_within.f a1 1 250).bind fun t453 => (if t453 = true then (verditerref08_Without.l0 k l0 a1 0) else (some (([] : List (S43)), 1)))) else (some (([] : List (S43)), t452)))) = some (r1, r2) := h
  clear h
  replace H := Option.bind_eq_some_iff.mp H
  obtain ⟨t452, A30, H⟩ := H
  replace H : (if t452 = 0 then ((verditerref08_within.f a1 1 250).bind fun t453 => (if t453 = true then (verditerref08_Without.l0 k l0 a1 0) else (some (([] : List (S43)), 1)))) else (some (([] : List (S43)), t452))) = some (r1, r2) := H
  have A3 := Aside0.mk A30
  clear A30
  by_cases c4 : t452 = 0
  · rw [if_pos c4] at H
    have c4b0 : (t452 == 0) = true := beq_iff_eq.mpr c4
    have c4b1 : (t452 != 0) = false := bne_eq_false_iff_eq.mpr c4
    clear c4
    replace H := Option.bind_eq_some_iff.mp H
    obtain ⟨t453, A50, H⟩ := H
    replace H : (if t453 = true then (verditerref08_Without.l0 k l0 a1 0) else (some (([] : List (S43)), 1))) = some (r1, r2) := H
    have A5 := Aside0.mk A50
    clear A50
    by_cases c6 : t453 = true
    · subst c6
      have H1 : (verditerref08_Without.l0 k l0 a1 0) = some (r1, r2) := by rw [if_pos rfl] at H; exact H
      clear H
      have H := H1
      clear H1
      have H' := Aside0.mk H
      clear H
      go_enter Try.func61, Try.ntmps61
      go_wp2_with (first | ((with_reducible refine gate_callee (f := 66) rfl ?_); refine goesL_ (some 9) rfl rfl Try.func66 (by kernel_rfl) rfl #[.slice A0 l0.length c0] rfl (by (try simp only [List.map_toArray, List.map_cons, List.map_nil]); first | done | rfl | (simp only [List.length_drop, List.length_take]; rfl)) ?_; (with_reducible refine (verditerref08_Validate.calls k _ _ l0 t452 _ ?side1 ?side2 A3.out).mono ?_); (case side1 => repeat (first | exact HR0.out | (with_reducible refine Kd.C_alloc ?_ _) | (with_reducible refine Kd.C_drewN ?_ _) | (with_reducible refine Kd.C_drew ?_))); (case side2 => exact HC0.out); rintro e w' ⟨rfl, ⟨nd, rfl⟩⟩; refine ⟨_, rfl, ?_⟩) | ((with_reducible refine gate_callee (f := 83) rfl ?_); refine goesL_ (some 14) rfl rfl Try.func83 (by kernel_rfl) rfl #[.int .i64 a1, .int .i64 1, .int .i64 250] rfl (by (try simp only [List.map_toArray, List.map_cons, List.map_nil]); first | done | rfl | (simp only [List.length_drop, List.length_take]; rfl)) ?_; (with_reducible refine (verditerref08_within.calls a1 1 250 true _ A5.out).mono ?_); rintro e w' ⟨rfl, ⟨nd, rfl⟩⟩; refine ⟨_, rfl, ?_⟩))
      go_loopg [7] k (fun kq v7 w' => ∃ (x7_1 : Int), v7 = .int .i64 x7_1 ∧ Aside0 (verditerref08_Without.l0 kq l0 a1 x7_1 = some (r1, r2)) ∧ Aside0 (kq ≤ k) ∧ Aside0 (Below w.heap.size w w'))
      case atStart => exact ⟨(0), (by first | rfl | (simp; done) | (simp [*]; done)), H', ⟨Nat.le_refl _⟩, ⟨by repeat (first | (with_reducible first | exact HB.out | apply below_alloc | apply pw_below_drewN | apply below_drew1) | exact HB.out)⟩⟩
      case round =>
        clear H'
        try clear p2
        try clear c4
        try clear c4b0
        try clear c4b1
        try clear c6
        obtain ⟨x7_1, rfl, HA, HK1, HB⟩ := hrel
        cases gk with
        | zero => exact absurd HA.out (by simp [verditerref08_Without.l0])
        | succ k1 =>
          have H := HA.out
          clear HA
          simp only [verditerref08_Without.l0] at H
          by_cases c7 : x7_1 < (l0.length : Int)
          · rw [if_pos c7] at H
            have c7b0 : decide (x7_1 < (l0.length : Int)) = true := decide_eq_true c7
            clear c7
            by_cases c8 : 0 ≤ x7_1
            · rw [if_pos c8] at H
              have c8b0 : decide (0 ≤ x7_1) = true := decide_eq_true c8
              clear c8
              by_cases c9 : ((rd_T43 l0 x7_1).f0) = a1
              · rw [if_pos c9] at H
                have c9b0 : (((rd_T43 l0 x7_1).f0) == a1) = true := beq_iff_eq.mpr c9
                have c9b1 : (((rd_T43 l0 x7_1).f0) != a1) = false := bne_eq_false_iff_eq.mpr c9
                clear c9
                replace H := Option.bind_eq_some_iff.mp H
                obtain ⟨t455, A100, H⟩ := H
                replace H : (some (t455, 0)) = some (r1, r2) := H
                have A10 := Aside0.mk A100
                clear A100
                simp only [Option.some.injEq, Prod.mk.injEq] at H
                obtain ⟨rfl, rfl⟩ := H
                have p454 : 0 ≤ (x7_1 : Int) := of_decide_eq_true (by first | (with_reducible assumption) | assumption)
                have q454 : x7_1 < (l0.length : Int) := of_decide_eq_true (by first | (with_reducible assumption) | assumption)
                obtain ⟨ad454, e454, hx454_0, hx454_1⟩ := at_T43 HR0.out x7_1 p454 q454
                cases e454
                replace hx454_0 := (HB.out.cell (World.block_lt_of_cell? w _ hx454_0)).trans hx454_0
                replace hx454_1 := (HB.out.cell (World.block_lt_of_cell? w _ hx454_1)).trans hx454_1
                replace p454 := eq_true p454
                replace q454 := eq_true q454
                go_wp2_with (first | ((with_reducible refine gate_callee (f := 97) rfl ?_); refine goesL_ (some 31) rfl rfl Try.func97 (by kernel_rfl) rfl #[.slice (some ad454) l0.length c0, .int .i64 x7_1] rfl (by (try simp only [List.map_toArray, List.map_cons, List.map_nil]); first | done | rfl | (simp only [List.length_drop, List.length_take]; rfl)) ?_; (with_reducible refine (verditerref08_without.calls _ _ l0 x7_1 t455 _ ?side1 ?side2 A10.out).mono ?_); (case side1 => repeat (first | exact (Kd.C_below HR0.out HB.out) | (with_reducible refine Kd.C_alloc ?_ _) | (with_reducible refine Kd.C_drewN ?_ _) | (with_reducible refine Kd.C_drew ?_))); (case side2 => exact HC0.out); rintro e w11 ⟨v456, rfl, ho0, hb⟩; refine ⟨_, rfl, ?_⟩; have n0_ := Aside0.mk (Kd.R_lower ho0 (below_size (by repeat (first | (with_reducible first | exact HB.out | apply below_alloc | apply pw_below_drewN | apply below_drew1) | exact HB.out)))); have n1_ := Aside0.mk (below_step (by repeat (first | (with_reducible first | exact HB.out | apply below_alloc | apply pw_below_drewN | apply below_drew1) | exact HB.out)) hb); clear HB; have HO457 := n0_; have HB := n1_; clear n0_ n1_; (try clear hb); (try clear hb2); (try clear hk); (try clear hi); (try clear ho0)))
                go_ret2
                exact ⟨_, by first | rfl | (simp [errW_none, errW_some] <;> rfl) | (simp [*, errW_none, errW_some] <;> rfl), by (with_reducible repeat (first | apply Kd.R_alloc | apply Kd.R_drewN | apply Kd.R_drew)); exact HO457.out, by repeat (first | (with_reducible first | exact HB.out | apply below_alloc | apply pw_below_drewN | apply below_drew1) | exact HB.out)⟩
              · rw [if_neg c9] at H
                have c9b0 : (((rd_T43 l0 x7_1).f0) == a1) = false := beq_eq_false_iff_ne.mpr c9
                have c9b1 : (((rd_T43 l0 x7_1).f0) != a1) = true := bne_iff_ne.mpr c9
                have H' := Aside0.mk H
                clear H
                have p454 : 0 ≤ (x7_1 : Int) := of_decide_eq_true (by first | (with_reducible assumption) | assumption)
                have q454 : x7_1 < (l0.length : Int) := of_decide_eq_true (by first | (with_reducible assumption) | assumption)
                obtain ⟨ad454, e454, hx454_0, hx454_1⟩ := at_T43 HR0.out x7_1 p454 q454
                cases e454
                replace hx454_0 := (HB.out.cell (World.block_lt_of_cell? w _ hx454_0)).trans hx454_0
                replace hx454_1 := (HB.out.cell (World.block_lt_of_cell? w _ hx454_1)).trans hx454_1
                replace p454 := eq_true p454
                replace q454 := eq_true q454
                go_wp2
                go_roundg k1
                case measure => have := HK1.out; omega
                case rel => exact ⟨(wrap64 (x7_1 + 1)), (by first | rfl | (simp; done) | (simp [*]; done)), H', ⟨by have := HK1.out; omega⟩, ⟨by repeat (first | (with_reducible first | exact HB.out | apply below_alloc | apply pw_below_drewN | apply below_drew1) | exact HB.out)⟩⟩
            · rw [if_neg c8] at H
              exact absurd H (by simp)
          · rw [if_neg c7] at H
            have c7b0 : decide (x7_1 < (l0.length : Int)) = false := decide_eq_false c7
            clear c7
            simp only [Option.some.injEq, Prod.mk.injEq] at H
            obtain ⟨rfl, rfl⟩ := H
            go_wp2
            go_ret2
            exact ⟨_, by first | rfl | (simp [errW_none, errW_some] <;> rfl) | (simp [*, errW_none, errW_some] <;> rfl), by first | exact Kd.R_nil _ _ _ _ _ | exact Kd.N_nil _ _ _ _ _ | exact Kd.V_nil _ _ _ _ _ | exact Kd.Q_nil _ _ _ _ _ | exact Kd.S_nil _ _ _ _ _, by repeat (first | (with_reducible first | exact HB.out | apply below_alloc | apply pw_below_drewN | apply below_drew1) | exact HB.out)⟩
    · replace c6 := Bool.eq_false_iff.mpr c6
      subst c6
      have H1 : (some (([] : List (S43)), 1)) = some (r1, r2) := by rw [if_neg (show ¬ (false = true) by decide)] at H; exact H
      clear H
      have H := H1
      clear H1
      simp only [Option.some.injEq, Prod.mk.injEq] at H
      obtain ⟨rfl, rfl⟩ := H
      go_enter Try.func61, Try.ntmps61
      go_wp2_with (first | ((with_reducible refine gate_callee (f := 66) rfl ?_); refine goesL_ (some 9) rfl rfl Try.func66 (by kernel_rfl) rfl #[.slice A0 l0.length c0] rfl (by (try simp only [List.map_toArray, List.map_cons, List.map_nil]); first | done | rfl | (simp only [List.length_drop, List.length_take]; rfl)) ?_; (with_reducible refine (verditerref08_Validate.calls k _ _ l0 t452 _ ?side1 ?side2 A3.out).mono ?_); (case side1 => repeat (first | exact HR0.out | (with_reducible refine Kd.C_alloc ?_ _) | (with_reducible refine Kd.C_drewN ?_ _) | (with_reducible refine Kd.C_drew ?_))); (case side2 => exact HC0.out); rintro e w' ⟨rfl, ⟨nd, rfl⟩⟩; refine ⟨_, rfl, ?_⟩) | ((with_reducible refine gate_callee (f := 83) rfl ?_); refine goesL_ (some 14) rfl rfl Try.func83 (by kernel_rfl) rfl #[.int .i64 a1, .int .i64 1, .int .i64 250] rfl (by (try simp only [List.map_toArray, List.map_cons, List.map_nil]); first | done | rfl | (simp only [List.length_drop, List.length_take]; rfl)) ?_; (with_reducible refine (verditerref08_within.calls a1 1 250 false _ A5.out).mono ?_); rintro e w' ⟨rfl, ⟨nd, rfl⟩⟩; refine ⟨_, rfl, ?_⟩))
      go_ret2
      exact ⟨_, by first | rfl | (simp [errW_none, errW_some] <;> rfl) | (simp [*, errW_none, errW_some] <;> rfl), by first | exact Kd.R_nil _ _ _ _ _ | exact Kd.N_nil _ _ _ _ _ | exact Kd.V_nil _ _ _ _ _ | exact Kd.Q_nil _ _ _ _ _ | exact Kd.S_nil _ _ _ _ _, by repeat (first | (with_reducible first | exact HB.out | apply below_alloc | apply pw_below_drewN | apply below_drew1) | exact HB.out)⟩
  · rw [if_neg c4] at H
    have c4b0 : (t452 == 0) = false := beq_eq_false_iff_ne.mpr c4
    have c4b1 : (t452 != 0) = true := bne_iff_ne.mpr c4
    simp only [Option.some.injEq, Prod.mk.injEq] at H
    obtain ⟨rfl, rfl⟩ := H
    go_enter Try.func61, Try.ntmps61
    go_wp2_with (first | ((with_reducible refine gate_callee (f := 66) rfl ?_); refine goesL_ (some 9) rfl rfl Try.func66 (by kernel_rfl) rfl #[.slice A0 l0.length c0] rfl (by (try simp only [List.map_toArray, List.map_cons, List.map_nil]); first | done | rfl | (simp only [List.length_drop, List.length_take]; rfl)) ?_; (with_reducible refine (verditerref08_Validate.calls k _ _ l0 t452 _ ?side1 ?side2 A3.out).mono ?_); (case side1 => repeat (first | exact HR0.out | (with_reducible refine Kd.C_alloc ?_ _) | (with_reducible refine Kd.C_drewN ?_ _) | (with_reducible refine Kd.C_drew ?_))); (case side2 => exact HC0.out); rintro e w' ⟨rfl, ⟨nd, rfl⟩⟩; refine ⟨_, rfl, ?_⟩))
    go_ret2
    exact ⟨_, by first | rfl | (simp [errW_none, errW_some] <;> rfl) | (simp [*, errW_none, errW_some] <;> rfl), by first | exact Kd.R_nil _ _ _ _ _ | exact Kd.N_nil _ _ _ _ _ | exact Kd.V_nil _ _ _ _ _ | exact Kd.Q_nil _ _ _ _ _ | exact Kd.S_nil _ _ _ _ _, by repeat (first | (with_reducible first | exact HB.out | apply below_alloc | apply pw_below_drewN | apply below_drew1) | exact HB.out)⟩

end Go.Proofs.Ythlbjdiicmojfaa.P

/-! Part Rwo. -/
namespace Go.Proofs.Ythlbjdiicmojfaa.P
open Go.RowKit Go.Proofs.YthlbjdiicmojfaaW.PrintWords Go.Proofs.YthlbjdiicmojfaaW.PrintLast Go.Proofs.YthlbjdiicmojfaaW.PrintMore
set_option linter.unusedVariables false
/-! ### Without one -/
theorem rwo_eq (l : List S43) (i : Nat) (hi : i < l.length) (hl : l.length ≤ 1000) : verditerref08_without.f l (i : Int) = some (l.eraseIdx i) := by
  rw [verditerref08_without.f, Option.bind_some, if_pos (by omega), if_pos (by omega), Option.bind_some, Int.toNat_natCast, if_pos (by simp; omega), Option.bind_some, wrap_succ i (by omega), if_pos (by omega), if_pos (by omega), Int.toNat_natCast, Option.bind_some, if_pos (by simp; omega),
    List.eraseIdx_eq_take_drop_succ]
  rfl
theorem rwithout_loop (l : List S43) (x : Int) (hl : l.length ≤ 12) : ∀ (d i k : Nat), i + d = l.length → d < k → (∀ j (h : j < l.length), j < i → l[j].f0 ≠ x) →
    verditerref08_Without.l0 k l x (i : Int) = if l.findIdx (fun p => p.f0 == x) < l.length then some (l.eraseIdx (l.findIdx fun p => p.f0 == x), 0) else some ([], 4) := by
  intro d
  induction d with
  | zero =>
    intro i k hi hk hno
    obtain ⟨k, rfl⟩ : ∃ j, k = j + 1 := ⟨k - 1, by omega⟩
    rw [verditerref08_Without.l0, if_neg (by omega), if_neg]
    intro h
    have := List.findIdx_getElem (w := h)
    exact hno _ h (by omega) (beq_iff_eq.1 this)
  | succ d ih =>
    intro i k hi hk hno
    obtain ⟨k, rfl⟩ : ∃ j, k = j + 1 := ⟨k - 1, by omega⟩
    have hil : i < l.length := by omega
    rw [verditerref08_Without.l0, if_pos (by omega), if_pos (by omega), rdT_get l i hil]
    by_cases e : l[i].f0 = x
    · have hf : l.findIdx (fun p => p.f0 == x) = i := by
        rw [List.findIdx_eq hil]
        exact ⟨beq_iff_eq.2 e, fun j hj => beq_eq_false_iff_ne.2 (hno j (by omega) hj)⟩
      rw [if_pos e, rwo_eq l i hil (by omega), hf, if_pos hil]; rfl
    · rw [if_neg e, wrap_succ i (by omega)]
      refine ih (i + 1) k (by omega) (by omega) fun j h hj => ?_
      rcases Nat.eq_or_lt_of_le (Nat.le_of_lt_succ hj) with rfl | hlt
      · exact e
      · exact hno j h hlt
theorem rwithout_eq (l : List S43) (x : Int) (k : Nat) (hk : 300 ≤ k) : verditerref08_Without.f k l x = secret_Without.f l x := by
  rw [verditerref08_Without.f, secret_Without.f, rval_eq l k hk, Option.bind_some]
  by_cases hv : valid l = 0
  · have hl := (valid_iff.1 hv).1
    rw [if_pos hv, if_pos hv, rwithin_eq, Option.bind_some]
    by_cases hx : 1 ≤ x ∧ x ≤ 250
    · rw [if_pos (by rw [decide_eq_true hx.1, decide_eq_true hx.2]; rfl), if_pos hx]
      exact rwithout_loop l x hl l.length 0 k (by omega) (by omega) (fun j _ h => absurd h (Nat.not_lt_zero j))
    · rw [if_neg, if_neg hx]
      intro e
      rw [Bool.and_eq_true, decide_eq_true_iff, decide_eq_true_iff] at e
      exact hx e
  · rw [if_neg hv, if_neg hv]
theorem swithout_some (l : List S43) (x : Int) (hl : l.length ≤ 1000) : ∃ q, secret_Without.f l x = some q ∧ q.1.length ≤ 1000 := by
  rw [secret_Without.f]
  split
  · split
    · split
      · exact ⟨_, rfl, Nat.le_trans (List.eraseIdx_sublist l _).length_le hl⟩
      · exact ⟨_, rfl, by simp⟩
    · exact ⟨_, rfl, by simp⟩
  · exact ⟨_, rfl, by simp⟩
end Go.Proofs.Ythlbjdiicmojfaa.P

/-! Part Eqs5. -/
namespace Go.Proofs.Ythlbjdiicmojfaa.P
open Go.RowKit Go.Proofs.YthlbjdiicmojfaaW.PrintWords Go.Proofs.YthlbjdiicmojfaaW.PrintLast Go.Proofs.YthlbjdiicmojfaaW.PrintMore
set_option linter.unusedVariables false

/-! ### Which part is false -/
/-- The places below i without which the others lie on a curve. -/
def cands (l : List S43) (n i : Nat) : List Nat := (List.range i).filter fun j => lies (l.eraseIdx j) n
def candR (F : List Nat) : Int × Bool := if F.length = 1 then (((F.getD 0 0 : Nat) : Int), true) else (0, false)
def wrongR (l : List S43) (n : Int) : Int × Bool × Int :=
  if neededR l n = 0 then (if (l.length : Int) < n + 2 then (0, false, 9) else if lies l n.toNat = true then (0, false, 0) else ((candR (cands l n.toNat l.length)).1, (candR (cands l n.toNat l.length)).2, 0)) else (0, false, neededR l n)
theorem cands_succ (l : List S43) (n i : Nat) : cands l n (i + 1) = cands l n i ++ (if lies (l.eraseIdx i) n = true then [i] else []) := by
  unfold cands
  rw [List.range_succ, List.filter_append]
  congr 1
  by_cases h : lies (l.eraseIdx i) n = true
  · rw [if_pos h]; simp [h]
  · rw [if_neg h]; simp [h]
theorem cands_length (l : List S43) (n i : Nat) : (cands l n i).length ≤ i := by
  unfold cands
  have := List.length_filter_le (fun j => lies (l.eraseIdx j) n) (List.range i)
  rw [List.length_range] at this
  exact this
theorem candR_one {F : List Nat} (h : (candR F).2 = true) : ∃ a, F = [a] ∧ (candR F).1 = (a : Int) := by
  unfold candR at h ⊢
  by_cases h1 : F.length = 1
  · obtain ⟨a, rfl⟩ := List.length_eq_one_iff.1 h1
    exact ⟨a, rfl, rfl⟩
  · rw [if_neg h1] at h; cases h
theorem getLastD_snoc (F : List Nat) (a d : Nat) : (F ++ [a]).getLastD d = a := by
  simp [List.getLastD_eq_getLast?]
theorem valid_erase {l : List S43} (hv : valid l = 0) (i : Nat) : valid (l.eraseIdx i) = 0 := valid_sub hv (List.eraseIdx_sublist l i)
theorem swrong_loop (l : List S43) (n : Int) (hv : valid l = 0) (h1 : 1 ≤ n) (h6 : n ≤ 6) : ∀ (d i k : Nat), i + d = l.length → d < k →
    secret_wrong.l0 k l n ((cands l n.toNat i).map Int.ofNat) (l.length : Int) (i : Int) = some (candR (cands l n.toNat l.length)) := by
  obtain ⟨hlen, _, _⟩ := valid_iff.1 hv
  intro d
  induction d with
  | zero =>
    intro i k hi hk
    obtain ⟨k, rfl⟩ : ∃ j, k = j + 1 := ⟨k - 1, by omega⟩
    rw [secret_wrong.l0, if_neg (by omega), show i = l.length by omega, List.length_map]
    unfold candR
    by_cases h : (cands l n.toNat l.length).length = 1
    · obtain ⟨a, ha⟩ := List.length_eq_one_iff.1 h
      rw [ha]; rfl
    · rw [if_neg (by omega), if_neg h]
  | succ d ih =>
    intro i k hi hk
    obtain ⟨k, rfl⟩ : ∃ j, k = j + 1 := ⟨k - 1, by omega⟩
    have hil : i < l.length := by omega
    have ih' := ih (i + 1) k (by omega) (by omega)
    rw [cands_succ, List.map_append] at ih'
    have hcl := cands_length l n.toNat i
    rw [secret_wrong.l0, if_pos (by omega), secret_without.f, if_pos ⟨hlen, by omega, by omega⟩, Option.bind_some, Int.toNat_natCast, secret_lieOn.f, if_pos ⟨valid_erase hv i, h1, h6⟩, Option.bind_some]
    by_cases h : lies (l.eraseIdx i) n.toNat = true
    · rw [if_pos h] at ih'
      rw [if_pos h, if_pos (by rw [List.length_map]; omega), wrap_succ i (by omega)]
      exact ih'
    · rw [if_neg h] at ih'
      rw [if_neg h, wrap_succ i (by omega)]
      rw [List.map_nil, List.append_nil] at ih'
      exact ih'
theorem swrong_eq (l : List S43) (n : Int) (hv : valid l = 0) (h1 : 1 ≤ n) (h6 : n ≤ 6) (k : Nat) (hk : 100 ≤ k) : secret_wrong.f k l n = some (if lies l n.toNat = true then (0, false) else candR (cands l n.toNat l.length)) := by
  obtain ⟨hlen, _, _⟩ := valid_iff.1 hv
  rw [secret_wrong.f, secret_lieOn.f, if_pos ⟨hv, h1, h6⟩, Option.bind_some]
  by_cases h : lies l n.toNat = true
  · rw [if_pos h, if_pos h]
  · rw [if_neg h, if_neg h]
    exact swrong_loop l n hv h1 h6 l.length 0 k (by omega) (by omega)
def moreR (l : List S43) (n : Int) : Int := if neededR l n = 0 then (if (l.length : Int) < n + 2 then 9 else 0) else neededR l n
theorem more_eq (l : List S43) (n : Int) : secret_more.f l n = some (moreR l n) := by
  rw [secret_more.f, needed_eq, Option.bind_some]
  unfold moreR
  by_cases h : neededR l n = 0
  · obtain ⟨hv, h1, h6⟩ := neededR_ok h
    rw [if_pos h, if_pos h, wrap_id (a := n + 2) (by omega) (by omega)]
    split <;> rfl
  · rw [if_neg h, if_neg h]
theorem sWrong_eq (l : List S43) (n : Int) (k : Nat) (hk : 100 ≤ k) : secret_Wrong.f k l n = some (wrongR l n) := by
  rw [secret_Wrong.f, more_eq, Option.bind_some]
  unfold wrongR moreR
  by_cases h : neededR l n = 0
  · obtain ⟨hv, h1, h6⟩ := neededR_ok h
    rw [if_pos h, if_pos h]
    by_cases hs : (l.length : Int) < n + 2
    · rw [if_pos hs, if_pos hs, if_neg (by decide)]
    · rw [if_neg hs, if_neg hs, if_pos rfl, swrong_eq l n hv h1 h6 k hk, Option.bind_some]
      by_cases hl : lies l n.toNat = true
      · rw [if_pos hl, if_pos hl]
      · rw [if_neg hl, if_neg hl]
  · rw [if_neg h, if_neg h, if_neg h]
theorem rwrong_loop (l : List S43) (n : Int) (hv : valid l = 0) (h1 : 1 ≤ n) (h6 : n ≤ 6) : ∀ (d i k : Nat), i + d = l.length → 7000 + d < k →
    verditerref08_Wrong.l0 k l n (((cands l n.toNat i).getLastD 0 : Nat) : Int) (((cands l n.toNat i).length : Nat) : Int) (i : Int) = some ((candR (cands l n.toNat l.length)).1, (candR (cands l n.toNat l.length)).2, 0) := by
  obtain ⟨hlen, _, _⟩ := valid_iff.1 hv
  intro d
  induction d with
  | zero =>
    intro i k hi hk
    obtain ⟨k, rfl⟩ : ∃ j, k = j + 1 := ⟨k - 1, by omega⟩
    rw [verditerref08_Wrong.l0, if_neg (by omega), show i = l.length by omega]
    unfold candR
    by_cases h : (cands l n.toNat l.length).length = 1
    · obtain ⟨a, ha⟩ := List.length_eq_one_iff.1 h
      rw [ha]; rfl
    · rw [if_neg (by omega), if_neg h]
  | succ d ih =>
    intro i k hi hk
    obtain ⟨k, rfl⟩ : ∃ j, k = j + 1 := ⟨k - 1, by omega⟩
    have hil : i < l.length := by omega
    have ih' := ih (i + 1) k (by omega) (by omega)
    have hcl := cands_length l n.toNat i
    rw [cands_succ] at ih'
    rw [verditerref08_Wrong.l0, if_pos (by omega), rwo_eq l i hil (by omega), Option.bind_some, rlie_eq _ n (valid_erase hv i) h1 h6 k (by omega), Option.bind_some]
    by_cases h : lies (l.eraseIdx i) n.toNat = true
    · rw [if_pos h] at ih'
      rw [if_pos h, wrap_succ i (by omega), wrap_succ _ (by omega)]
      rw [List.length_append, getLastD_snoc] at ih'
      exact ih'
    · rw [if_neg h, List.append_nil] at ih'
      rw [if_neg h, wrap_succ i (by omega)]
      exact ih'
theorem rWrong_eq (l : List S43) (n : Int) (k : Nat) (hk : 8000 ≤ k) : verditerref08_Wrong.f k l n = some (wrongR l n) := by
  rw [verditerref08_Wrong.f, rneeded_eq l n k (by omega), Option.bind_some]
  unfold wrongR
  by_cases h : neededR l n = 0
  · obtain ⟨hv, h1, h6⟩ := neededR_ok h
    obtain ⟨hlen, _, _⟩ := valid_iff.1 hv
    rw [if_pos h, if_pos h, wrap_id (a := n + 2) (by omega) (by omega)]
    by_cases hs : (l.length : Int) < n + 2
    · rw [if_pos hs, if_pos hs]
    · rw [if_neg hs, if_neg hs, rlie_eq l n hv h1 h6 k (by omega), Option.bind_some]
      by_cases hl : lies l n.toNat = true
      · rw [if_pos hl, if_pos hl]
      · rw [if_neg hl, if_neg hl]
        exact rwrong_loop l n hv h1 h6 l.length 0 k (by omega) (by omega)
  · rw [if_neg h, if_neg h]
theorem wrongR_true {l : List S43} {n : Int} (h : (wrongR l n).2.1 = true) : neededR l n = 0 ∧ n + 2 ≤ (l.length : Int) ∧ lies l n.toNat = false ∧ ∃ a, a < l.length ∧ cands l n.toNat l.length = [a] ∧ wrongR l n = ((a : Int), true, 0) ∧ lies (l.eraseIdx a) n.toNat = true := by
  unfold wrongR at h
  by_cases hn : neededR l n = 0
  · rw [if_pos hn] at h
    by_cases hs : (l.length : Int) < n + 2
    · rw [if_pos hs] at h; cases h
    · rw [if_neg hs] at h
      by_cases hl : lies l n.toNat = true
      · rw [if_pos hl] at h; cases h
      · rw [if_neg hl] at h
        obtain ⟨a, ha, he⟩ := candR_one h
        have hm : a ∈ cands l n.toNat l.length := by rw [ha]; simp
        unfold cands at hm
        rw [List.mem_filter, List.mem_range] at hm
        refine ⟨hn, by omega, Bool.eq_false_iff.2 hl, a, hm.1, ha, ?_, hm.2⟩
        unfold wrongR
        have h' : (candR (cands l n.toNat l.length)).2 = true := h
        rw [if_pos hn, if_neg hs, if_neg hl, he, h']
  · rw [if_neg hn] at h; cases h
end Go.Proofs.Ythlbjdiicmojfaa.P

/-! Part PureSecretWrongs. -/
namespace Go.Proofs.Ythlbjdiicmojfaa.P
open Go.RowKit Go.Proofs.YthlbjdiicmojfaaW.PrintWords Go.Proofs.YthlbjdiicmojfaaW.PrintLast Go.Proofs.YthlbjdiicmojfaaW.PrintMore
set_option linter.unusedVariables false
theorem without_at {l : List S43} (hv : valid l = 0) (a : Nat) (ha : a < l.length) : secret_Without.f l l[a].f0 = some (l.eraseIdx a, 0) := by
  obtain ⟨hlen, hok, hnd⟩ := valid_iff.1 hv
  have hx := okP_iff.1 (hok _ (List.getElem_mem ha))
  have hf : l.findIdx (fun p => p.f0 == l[a].f0) = a := by
    rw [List.findIdx_eq ha]
    refine ⟨beq_iff_eq.2 rfl, fun j hj => beq_eq_false_iff_ne.2 fun e => ?_⟩
    rw [List.Nodup, List.pairwise_iff_getElem] at hnd
    exact hnd j a (by simp; omega) (by simpa using ha) hj (by rw [List.getElem_map, List.getElem_map]; exact e)
  rw [secret_Without.f, if_pos hv, if_pos ⟨hx.1, hx.2.1⟩, hf, if_pos ha]
theorem pureSecretWrongs (l0 : List S43) (_h0 : (∀ z ∈ l0, (Lit.int .i64 z.f0).wf = true ∧ (Lit.int .i64 z.f1).wf = true)) (l1 : Int) (_h1 : (Lit.int .i64 l1).wf = true) : ∃ k, verditerlaw08_secretWrongs.f k l0 l1 = some true := by
  refine ⟨10000, ?_⟩
  rw [verditerlaw08_secretWrongs.f, long_eq, Option.bind_some]
  by_cases hl : (l0.length : Int) > 100
  · rw [if_pos (decide_eq_true hl), known_eq _ (by omega)]; rfl
  rw [if_neg (by rw [decide_eq_false hl]; simp), rWrong_eq l0 l1 10000 (by omega), Option.bind_some, sWrong_eq l0 l1 10000 (by omega), Option.bind_some, if_pos rfl, if_neg (by simp), verditerlaw08_secretWrongs.j0, if_neg (by simp)]
  by_cases hi : (wrongR l0 l1).2.1 = true
  · obtain ⟨hn, hlen, _, a, ha, _, he, hlie⟩ := wrongR_true hi
    obtain ⟨hv, h1, h6⟩ := neededR_ok hn
    have hr : lieOnR (l0.eraseIdx a) l1 = (true, 0) := by
      unfold lieOnR
      rw [if_pos (neededR_eq (valid_erase hv a) h1 h6), hlie]
    rw [if_pos hi, he, if_neg (by simp only; omega), verditerlaw08_secretWrongs.j1, if_neg (by simp only [decide_eq_true_eq]; omega), if_pos (by simp only; omega), if_pos (by simp only; omega)]
    simp only
    rw [rdT_get l0 a ha, without_at hv a ha, Option.bind_some, lieOn_eq', hr, Option.bind_some, if_pos rfl, if_pos rfl, if_pos rfl, known_eq _ (by omega)]
    rfl
  · rw [if_neg hi, known_eq _ (by omega)]; rfl
end Go.Proofs.Ythlbjdiicmojfaa.P
