/- Parts of the proof of the law SecretWithout: walks of functions that it reaches, and plain facts about numbers, lists and curves; without a condition. -/
import Derived.Test.YthlbjdiicmojfaaSecretWithoutM1
import Derived.Test.YthlbjdiicmojfaaSecretWithoutM3
import Derived.Deep.RegionLaw
import Derived.Lib.SliceRun
import Derived.Test.YthlbjdiicmojfaaSecretWithoutM2
import Derived.Test.YthlbjdiicmojfaaWSized
import Derived.Deep.SlicePairs
/-! Part PF66. -/
-- Written for this claim by wip/print_more.py (a session's program that runs the kit's printer with hand-proved functions beside). Lean checks it.
namespace Go.Proofs.Ythlbjdiicmojfaa.P
open Go.RowKit Go.Proofs.YthlbjdiicmojfaaW.PrintWords Go.Proofs.YthlbjdiicmojfaaW.PrintLast Go.Proofs.YthlbjdiicmojfaaW.PrintMore
attribute [local go_sem] max2_int min2_int max_two min_two max_three min_three max_four min_four   -- for this text's walks alone
set_option linter.unusedVariables false
set_option linter.unusedSimpArgs false

/-! ### verditerref08_Validate: function 66 -/
mutual
def verditerref08_Validate.l0 : Nat → List (S43) → Int → Option (Int)
  | 0, _, _ => none
  | k + 1, x0, x3 => if x3 < (x0.length : Int) then (if 0 ≤ x3 then ((verditerref08_within.f ((rd_T43 x0 x3).f0) 1 250).bind fun t175 => (if t175 = true then ((verditerref08_isNumber.f ((rd_T43 x0 x3).f1)).bind fun t177 => (if t177 = true then (verditerref08_Validate.l0 k x0 (wrap64 (x3 + 1))) else (some 1))) else (some 1))) else (none)) else (verditerref08_Validate.l1 k x0 0)
def verditerref08_Validate.l1 : Nat → List (S43) → Int → Option (Int)
  | 0, _, _ => none
  | k + 1, x0, x4 => if x4 < (x0.length : Int) then (verditerref08_Validate.l2 k x0 x4 0) else (some 0)
def verditerref08_Validate.l2 : Nat → List (S43) → Int → Int → Option (Int)
  | 0, _, _, _ => none
  | k + 1, x0, x4, x5 => if x5 < x4 then (if 0 ≤ x4 then (if x4 < (x0.length : Int) then (if 0 ≤ x5 then (if x5 < (x0.length : Int) then (if ((rd_T43 x0 x4).f0) = ((rd_T43 x0 x5).f0) then (some 6) else (verditerref08_Validate.l2 k x0 x4 (wrap64 (x5 + 1)))) else (none)) else (none)) else (none)) else (none)) else (verditerref08_Validate.l1 k x0 (wrap64 (x4 + 1)))
end
def verditerref08_Validate.f (k : Nat) (l0 : List (S43)) : Option (Int) := if (l0.length : Int) > 12 then (some 3) else (verditerref08_Validate.l0 k l0 0)
theorem verditerref08_Validate.mono_l : ∀ k, (∀ y0 y1, LeO (verditerref08_Validate.l0 k y0 y1) (verditerref08_Validate.l0 (k + 1) y0 y1)) ∧ (∀ y0 y1, LeO (verditerref08_Validate.l1 k y0 y1) (verditerref08_Validate.l1 (k + 1) y0 y1)) ∧ (∀ y0 y1 y2, LeO (verditerref08_Validate.l2 k y0 y1 y2) (verditerref08_Validate.l2 (k + 1) y0 y1 y2))
  | 0 => ⟨fun _ _ r h => by simp [verditerref08_Validate.l0] at h, fun _ _ r h => by simp [verditerref08_Validate.l1] at h, fun _ _ _ r h => by simp [verditerref08_Validate.l2] at h⟩
  | k + 1 => by
    obtain ⟨ih0, ih1, ih2⟩ := verditerref08_Validate.mono_l k
    refine ⟨?_, ?_, ?_⟩
    · intro y0 y1
      unfold verditerref08_Validate.l0
      repeat' first
      | (with_reducible exact ih0 _ _)
      | (with_reducible exact ih1 _ _)
      | (with_reducible exact ih2 _ _ _)
      | (with_reducible exact LeO.refl _)
      | (with_reducible exact LeO.none _)
      | (with_reducible refine LeO.ite ?_ ?_)
      | (with_reducible refine LeO.bind ?_ (fun _ => ?_))
      | exact ih0 _ _
      | exact ih1 _ _
      | exact ih2 _ _ _
      | exact LeO.none _
      | refine LeO.ite ?_ ?_
      | refine LeO.bind ?_ (fun _ => ?_)
    · intro y0 y1
      unfold verditerref08_Validate.l1
      repeat' first
      | (with_reducible exact ih0 _ _)
      | (with_reducible exact ih1 _ _)
      | (with_reducible exact ih2 _ _ _)
      | (with_reducible exact LeO.refl _)
      | (with_reducible exact LeO.none _)
      | (with_reducible refine LeO.ite ?_ ?_)
      | (with_reducible refine LeO.bind ?_ (fun _ => ?_))
      | exact ih0 _ _
      | exact ih1 _ _
      | exact ih2 _ _ _
      | exact LeO.none _
      | refine LeO.ite ?_ ?_
      | refine LeO.bind ?_ (fun _ => ?_)
    · intro y0 y1 y2
      unfold verditerref08_Validate.l2
      repeat' first
      | (with_reducible exact ih0 _ _)
      | (with_reducible exact ih1 _ _)
      | (with_reducible exact ih2 _ _ _)
      | (with_reducible exact LeO.refl _)
      | (with_reducible exact LeO.none _)
      | (with_reducible refine LeO.ite ?_ ?_)
      | (with_reducible refine LeO.bind ?_ (fun _ => ?_))
      | exact ih0 _ _
      | exact ih1 _ _
      | exact ih2 _ _ _
      | exact LeO.none _
      | refine LeO.ite ?_ ?_
      | refine LeO.bind ?_ (fun _ => ?_)
theorem verditerref08_Validate.mono : ∀ a0 k, LeO (verditerref08_Validate.f k a0) (verditerref08_Validate.f (k + 1) a0) := by
  intro a0 k
  obtain ⟨ih0, ih1, ih2⟩ := verditerref08_Validate.mono_l k
  unfold verditerref08_Validate.f
  repeat' first
      | (with_reducible exact ih0 _ _)
      | (with_reducible exact ih1 _ _)
      | (with_reducible exact ih2 _ _ _)
      | (with_reducible exact LeO.refl _)
      | (with_reducible exact LeO.none _)
      | (with_reducible refine LeO.ite ?_ ?_)
      | (with_reducible refine LeO.bind ?_ (fun _ => ?_))
      | exact ih0 _ _
      | exact ih1 _ _
      | exact ih2 _ _ _
      | exact LeO.none _
      | refine LeO.ite ?_ ?_
      | refine LeO.bind ?_ (fun _ => ?_)
set_option maxHeartbeats 8000000 in
set_option maxRecDepth 100000 in
theorem verditerref08_Validate.calls (k : Nat) (A0 : Option Addr) (c0 : Nat) (l0 : List (S43)) (r : Int) (w : World) (hr0 : Kd.C k43 w A0 l0.length l0) (hc0 : l0.length ≤ c0) (h : verditerref08_Validate.f k l0 = some r) :
    Calls Try.prog 66 #[.slice A0 l0.length c0] w fun e w' => e = .returned (.int .i64 r) ∧ Drawn0 w w' := by
  have HR0 := Aside0.mk hr0
  have HC0 := Aside0.mk hc0
  clear hr0 hc0
  have H : (if (l0.length : Int) > 12 then (some 3) else (verditerref08_Validate.l0 k l0 0)) = some r := h
  clear h
  by_cases c2 : (l0.length : Int) > 12
  · rw [if_pos c2] at H
    have c2b0 : decide (12 < (l0.length : Int)) = true := decide_eq_true c2
    have c2b1 : decide (12 < l0.length) = true := decide_eq_true (by omega)
    clear c2
    obtain rfl := Option.some.inj H
    go_enter Try.func66, Try.ntmps66
    go_wp2
    repeat (go_quiet (fail); try go_wp2)
    go_ret
    exact ⟨by first | rfl | (simp; done) | (simp [*]; done), by repeat (first | exact Drawn0.refl _ | apply Drawn0.step)⟩
  · rw [if_neg c2] at H
    have c2b0 : decide (12 < (l0.length : Int)) = false := decide_eq_false c2
    have c2b1 : decide (12 < l0.length) = false := decide_eq_false (by omega)
    clear c2
    have H' := Aside0.mk H
    clear H
    go_enter Try.func66, Try.ntmps66
    go_wp2
    repeat (go_quiet (fail); try go_wp2)
    go_loopg [3] k (fun kq v3 w' => ∃ (x3_1 : Int), v3 = .int .i64 x3_1 ∧ Aside0 (verditerref08_Validate.l0 kq l0 x3_1 = some r) ∧ Aside0 (kq ≤ k) ∧ Drawn0 w w')
    case atStart => exact ⟨(0), (by first | rfl | (simp; done) | (simp [*]; done)), H', ⟨Nat.le_refl _⟩, by repeat (first | exact Drawn0.refl _ | apply Drawn0.step)⟩
    case round =>
      clear H'
      try clear c2
      try clear c2b0
      try clear c2b1
      try clear p2
      obtain ⟨x3_1, rfl, HA, HK1, ⟨m1, rfl⟩⟩ := hrel
      cases gk with
      | zero => exact absurd HA.out (by simp [verditerref08_Validate.l0])
      | succ k1 =>
        have H := HA.out
        clear HA
        simp only [verditerref08_Validate.l0] at H
        by_cases c3 : x3_1 < (l0.length : Int)
        · rw [if_pos c3] at H
          have c3b0 : decide (x3_1 < (l0.length : Int)) = true := decide_eq_true c3
          clear c3
          by_cases c4 : 0 ≤ x3_1
          · rw [if_pos c4] at H
            have c4b0 : decide (0 ≤ x3_1) = true := decide_eq_true c4
            clear c4
            replace H := Option.bind_eq_some_iff.mp H
            obtain ⟨t175, A50, H⟩ := H
            replace H : (if t175 = true then ((verditerref08_isNumber.f ((rd_T43 l0 x3_1).f1)).bind fun t177 => (if t177 = true then (verditerref08_Validate.l0 k1 l0 (wrap64 (x3_1 + 1))) else (some 1))) else (some 1)) = some r := H
            have A5 := Aside0.mk A50
            clear A50
            by_cases c6 : t175 = true
            · subst c6
              have H1 : ((verditerref08_isNumber.f ((rd_T43 l0 x3_1).f1)).bind fun t177 => (if t177 = true then (verditerref08_Validate.l0 k1 l0 (wrap64 (x3_1 + 1))) else (some 1))) = some r := by rw [if_pos rfl] at H; exact H
              clear H
              have H := H1
              clear H1
              replace H := Option.bind_eq_some_iff.mp H
              obtain ⟨t177, A70, H⟩ := H
              replace H : (if t177 = true then (verditerref08_Validate.l0 k1 l0 (wrap64 (x3_1 + 1))) else (some 1)) = some r := H
              have A7 := Aside0.mk A70
              clear A70
              by_cases c8 : t177 = true
              · subst c8
                have H1 : (verditerref08_Validate.l0 k1 l0 (wrap64 (x3_1 + 1))) = some r := by rw [if_pos rfl] at H; exact H
                clear H
                have H := H1
                clear H1
                have H' := Aside0.mk H
                clear H
                have p174 : 0 ≤ (x3_1 : Int) := of_decide_eq_true (by first | (with_reducible assumption) | assumption)
                have q174 : x3_1 < (l0.length : Int) := of_decide_eq_true (by first | (with_reducible assumption) | assumption)
                obtain ⟨ad174, e174, hx174_0, hx174_1⟩ := at_T43 HR0.out x3_1 p174 q174
                cases e174
                replace p174 := eq_true p174
                replace q174 := eq_true q174
                go_wp2_with (first | (go_at_call 83; (with_reducible refine (verditerref08_within.calls ((rd_T43 l0 x3_1).f0) 1 250 true _ A5.out).mono ?_); rintro e w' ⟨rfl, ⟨nd, rfl⟩⟩; (try first | exact ⟨rfl, _, World.drewN_drewN _ _ _⟩ | exact ⟨rfl, _, Eq.trans (World.drewN_drewN _ _ _) (congrArg (World.drewN _) (Nat.add_assoc _ _ _))⟩); have p176 : 0 ≤ (x3_1 : Int) := of_decide_eq_true (by first | (with_reducible assumption) | assumption); have q176 : x3_1 < (l0.length : Int) := of_decide_eq_true (by first | (with_reducible assumption) | assumption); obtain ⟨ad176, e176, hx176_0, hx176_1⟩ := at_T43 HR0.out x3_1 p176 q176; obtain rfl : ad174 = ad176 := (by injection e176); replace p176 := eq_true p176; replace q176 := eq_true q176) | (go_at_call 75; (with_reducible refine (verditerref08_isNumber.calls ((rd_T43 l0 x3_1).f1) true _ A7.out).mono ?_); rintro e w' ⟨rfl, ⟨nd, rfl⟩⟩; (try first | exact ⟨rfl, _, World.drewN_drewN _ _ _⟩ | exact ⟨rfl, _, Eq.trans (World.drewN_drewN _ _ _) (congrArg (World.drewN _) (Nat.add_assoc _ _ _))⟩)))
                repeat (go_quiet (first | (go_at_call 83; (with_reducible refine (verditerref08_within.calls ((rd_T43 l0 x3_1).f0) 1 250 true _ A5.out).mono ?_); rintro e w' ⟨rfl, ⟨nd, rfl⟩⟩; (try first | exact ⟨rfl, _, World.drewN_drewN _ _ _⟩ | exact ⟨rfl, _, Eq.trans (World.drewN_drewN _ _ _) (congrArg (World.drewN _) (Nat.add_assoc _ _ _))⟩); have p176 : 0 ≤ (x3_1 : Int) := of_decide_eq_true (by first | (with_reducible assumption) | assumption); have q176 : x3_1 < (l0.length : Int) := of_decide_eq_true (by first | (with_reducible assumption) | assumption); obtain ⟨ad176, e176, hx176_0, hx176_1⟩ := at_T43 HR0.out x3_1 p176 q176; obtain rfl : ad174 = ad176 := (by injection e176); replace p176 := eq_true p176; replace q176 := eq_true q176) | (go_at_call 75; (with_reducible refine (verditerref08_isNumber.calls ((rd_T43 l0 x3_1).f1) true _ A7.out).mono ?_); rintro e w' ⟨rfl, ⟨nd, rfl⟩⟩; (try first | exact ⟨rfl, _, World.drewN_drewN _ _ _⟩ | exact ⟨rfl, _, Eq.trans (World.drewN_drewN _ _ _) (congrArg (World.drewN _) (Nat.add_assoc _ _ _))⟩))); try go_wp2_with (first | (go_at_call 83; (with_reducible refine (verditerref08_within.calls ((rd_T43 l0 x3_1).f0) 1 250 true _ A5.out).mono ?_); rintro e w' ⟨rfl, ⟨nd, rfl⟩⟩; (try first | exact ⟨rfl, _, World.drewN_drewN _ _ _⟩ | exact ⟨rfl, _, Eq.trans (World.drewN_drewN _ _ _) (congrArg (World.drewN _) (Nat.add_assoc _ _ _))⟩); have p176 : 0 ≤ (x3_1 : Int) := of_decide_eq_true (by first | (with_reducible assumption) | assumption); have q176 : x3_1 < (l0.length : Int) := of_decide_eq_true (by first | (with_reducible assumption) | assumption); obtain ⟨ad176, e176, hx176_0, hx176_1⟩ := at_T43 HR0.out x3_1 p176 q176; obtain rfl : ad174 = ad176 := (by injection e176); replace p176 := eq_true p176; replace q176 := eq_true q176) | (go_at_call 75; (with_reducible refine (verditerref08_isNumber.calls ((rd_T43 l0 x3_1).f1) true _ A7.out).mono ?_); rintro e w' ⟨rfl, ⟨nd, rfl⟩⟩; (try first | exact ⟨rfl, _, World.drewN_drewN _ _ _⟩ | exact ⟨rfl, _, Eq.trans (World.drewN_drewN _ _ _) (congrArg (World.drewN _) (Nat.add_assoc _ _ _))⟩))))
                go_roundg k1
                case measure => have := HK1.out; omega
                case rel => exact ⟨(wrap64 (x3_1 + 1)), (by first | rfl | (simp; done) | (simp [*]; done)), H', ⟨by have := HK1.out; omega⟩, by repeat (first | exact Drawn0.refl _ | apply Drawn0.step)⟩
              · replace c8 := Bool.eq_false_iff.mpr c8
                subst c8
                have H1 : (some 1) = some r := by rw [if_neg (show ¬ (false = true) by decide)] at H; exact H
                clear H
                have H := H1
                clear H1
                obtain rfl := Option.some.inj H
                have p174 : 0 ≤ (x3_1 : Int) := of_decide_eq_true (by first | (with_reducible assumption) | assumption)
                have q174 : x3_1 < (l0.length : Int) := of_decide_eq_true (by first | (with_reducible assumption) | assumption)
                obtain ⟨ad174, e174, hx174_0, hx174_1⟩ := at_T43 HR0.out x3_1 p174 q174
                cases e174
                replace p174 := eq_true p174
                replace q174 := eq_true q174
                go_wp2_with (first | (go_at_call 83; (with_reducible refine (verditerref08_within.calls ((rd_T43 l0 x3_1).f0) 1 250 true _ A5.out).mono ?_); rintro e w' ⟨rfl, ⟨nd, rfl⟩⟩; (try first | exact ⟨rfl, _, World.drewN_drewN _ _ _⟩ | exact ⟨rfl, _, Eq.trans (World.drewN_drewN _ _ _) (congrArg (World.drewN _) (Nat.add_assoc _ _ _))⟩); have p176 : 0 ≤ (x3_1 : Int) := of_decide_eq_true (by first | (with_reducible assumption) | assumption); have q176 : x3_1 < (l0.length : Int) := of_decide_eq_true (by first | (with_reducible assumption) | assumption); obtain ⟨ad176, e176, hx176_0, hx176_1⟩ := at_T43 HR0.out x3_1 p176 q176; obtain rfl : ad174 = ad176 := (by injection e176); replace p176 := eq_true p176; replace q176 := eq_true q176) | (go_at_call 75; (with_reducible refine (verditerref08_isNumber.calls ((rd_T43 l0 x3_1).f1) false _ A7.out).mono ?_); rintro e w' ⟨rfl, ⟨nd, rfl⟩⟩; (try first | exact ⟨rfl, _, World.drewN_drewN _ _ _⟩ | exact ⟨rfl, _, Eq.trans (World.drewN_drewN _ _ _) (congrArg (World.drewN _) (Nat.add_assoc _ _ _))⟩)))
                repeat (go_quiet (first | (go_at_call 83; (with_reducible refine (verditerref08_within.calls ((rd_T43 l0 x3_1).f0) 1 250 true _ A5.out).mono ?_); rintro e w' ⟨rfl, ⟨nd, rfl⟩⟩; (try first | exact ⟨rfl, _, World.drewN_drewN _ _ _⟩ | exact ⟨rfl, _, Eq.trans (World.drewN_drewN _ _ _) (congrArg (World.drewN _) (Nat.add_assoc _ _ _))⟩); have p176 : 0 ≤ (x3_1 : Int) := of_decide_eq_true (by first | (with_reducible assumption) | assumption); have q176 : x3_1 < (l0.length : Int) := of_decide_eq_true (by first | (with_reducible assumption) | assumption); obtain ⟨ad176, e176, hx176_0, hx176_1⟩ := at_T43 HR0.out x3_1 p176 q176; obtain rfl : ad174 = ad176 := (by injection e176); replace p176 := eq_true p176; replace q176 := eq_true q176) | (go_at_call 75; (with_reducible refine (verditerref08_isNumber.calls ((rd_T43 l0 x3_1).f1) false _ A7.out).mono ?_); rintro e w' ⟨rfl, ⟨nd, rfl⟩⟩; (try first | exact ⟨rfl, _, World.drewN_drewN _ _ _⟩ | exact ⟨rfl, _, Eq.trans (World.drewN_drewN _ _ _) (congrArg (World.drewN _) (Nat.add_assoc _ _ _))⟩))); try go_wp2_with (first | (go_at_call 83; (with_reducible refine (verditerref08_within.calls ((rd_T43 l0 x3_1).f0) 1 250 true _ A5.out).mono ?_); rintro e w' ⟨rfl, ⟨nd, rfl⟩⟩; (try first | exact ⟨rfl, _, World.drewN_drewN _ _ _⟩ | exact ⟨rfl, _, Eq.trans (World.drewN_drewN _ _ _) (congrArg (World.drewN _) (Nat.add_assoc _ _ _))⟩); have p176 : 0 ≤ (x3_1 : Int) := of_decide_eq_true (by first | (with_reducible assumption) | assumption); have q176 : x3_1 < (l0.length : Int) := of_decide_eq_true (by first | (with_reducible assumption) | assumption); obtain ⟨ad176, e176, hx176_0, hx176_1⟩ := at_T43 HR0.out x3_1 p176 q176; obtain rfl : ad174 = ad176 := (by injection e176); replace p176 := eq_true p176; replace q176 := eq_true q176) | (go_at_call 75; (with_reducible refine (verditerref08_isNumber.calls ((rd_T43 l0 x3_1).f1) false _ A7.out).mono ?_); rintro e w' ⟨rfl, ⟨nd, rfl⟩⟩; (try first | exact ⟨rfl, _, World.drewN_drewN _ _ _⟩ | exact ⟨rfl, _, Eq.trans (World.drewN_drewN _ _ _) (congrArg (World.drewN _) (Nat.add_assoc _ _ _))⟩))))
                go_ret
                exact ⟨by first | rfl | (simp; done) | (simp [*]; done), by repeat (first | exact Drawn0.refl _ | apply Drawn0.step)⟩
            · replace c6 := Bool.eq_false_iff.mpr c6
              subst c6
              have H1 : (some 1) = some r := by rw [if_neg (show ¬ (false = true) by decide)] at H; exact H
              clear H
              have H := H1
              clear H1
              obtain rfl := Option.some.inj H
              have p174 : 0 ≤ (x3_1 : Int) := of_decide_eq_true (by first | (with_reducible assumption) | assumption)
              have q174 : x3_1 < (l0.length : Int) := of_decide_eq_true (by first | (with_reducible assumption) | assumption)
              obtain ⟨ad174, e174, hx174_0, hx174_1⟩ := at_T43 HR0.out x3_1 p174 q174
              cases e174
              replace p174 := eq_true p174
              replace q174 := eq_true q174
              go_wp2_with (first | (go_at_call 83; (with_reducible refine (verditerref08_within.calls ((rd_T43 l0 x3_1).f0) 1 250 false _ A5.out).mono ?_); rintro e w' ⟨rfl, ⟨nd, rfl⟩⟩; (try first | exact ⟨rfl, _, World.drewN_drewN _ _ _⟩ | exact ⟨rfl, _, Eq.trans (World.drewN_drewN _ _ _) (congrArg (World.drewN _) (Nat.add_assoc _ _ _))⟩)))
              repeat (go_quiet (first | (go_at_call 83; (with_reducible refine (verditerref08_within.calls ((rd_T43 l0 x3_1).f0) 1 250 false _ A5.out).mono ?_); rintro e w' ⟨rfl, ⟨nd, rfl⟩⟩; (try first | exact ⟨rfl, _, World.drewN_drewN _ _ _⟩ | exact ⟨rfl, _, Eq.trans (World.drewN_drewN _ _ _) (congrArg (World.drewN _) (Nat.add_assoc _ _ _))⟩))); try go_wp2_with (first | (go_at_call 83; (with_reducible refine (verditerref08_within.calls ((rd_T43 l0 x3_1).f0) 1 250 false _ A5.out).mono ?_); rintro e w' ⟨rfl, ⟨nd, rfl⟩⟩; (try first | exact ⟨rfl, _, World.drewN_drewN _ _ _⟩ | exact ⟨rfl, _, Eq.trans (World.drewN_drewN _ _ _) (congrArg (World.drewN _) (Nat.add_assoc _ _ _))⟩))))
              go_ret
              exact ⟨by first | rfl | (simp; done) | (simp [*]; done), by repeat (first | exact Drawn0.refl _ | apply Drawn0.step)⟩
          · rw [if_neg c4] at H
            exact absurd H (by simp)
        · rw [if_neg c3] at H
          have c3b0 : decide (x3_1 < (l0.length : Int)) = false := decide_eq_false c3
          clear c3
          have H' := Aside0.mk H
          clear H
          go_wp2
          repeat (go_quiet (fail); try go_wp2)
          go_loopg [4] k1 (fun kq v4 w' => ∃ (x4_2 : Int), v4 = .int .i64 x4_2 ∧ Aside0 (verditerref08_Validate.l1 kq l0 x4_2 = some r) ∧ Aside0 (kq ≤ k1) ∧ Drawn0 w w')
          case atStart => exact ⟨(0), (by first | rfl | (simp; done) | (simp [*]; done)), H', ⟨Nat.le_refl _⟩, by repeat (first | exact Drawn0.refl _ | apply Drawn0.step)⟩
          case round =>
            clear H'
            try clear p1
            try clear q1
            try clear hx1
            try clear c2
            try clear c2b0
            try clear c2b1
            try clear p2
            try clear c3
            try clear c3b0
            try clear c4
            try clear c4b0
            try clear c6
            try clear p6
            try clear c8
            try clear hx174_0
            try clear hx174_1
            try clear hx176_0
            try clear hx176_1
            try clear p174
            try clear p176
            try clear p2
            try clear q174
            try clear q176
            obtain ⟨x4_2, rfl, HA, HK2, ⟨m2, rfl⟩⟩ := hrel
            cases gk with
            | zero => exact absurd HA.out (by simp [verditerref08_Validate.l1])
            | succ k2 =>
              have H := HA.out
              clear HA
              simp only [verditerref08_Validate.l1] at H
              by_cases c9 : x4_2 < (l0.length : Int)
              · rw [if_pos c9] at H
                have c9b0 : decide (x4_2 < (l0.length : Int)) = true := decide_eq_true c9
                clear c9
                have H' := Aside0.mk H
                clear H
                go_wp2
                repeat (go_quiet (fail); try go_wp2)
                go_loopg [5] k2 (fun kq v5 w' => ∃ (x5_3 : Int), v5 = .int .i64 x5_3 ∧ Aside0 (verditerref08_Validate.l2 kq l0 x4_2 x5_3 = some r) ∧ Aside0 (kq ≤ k2) ∧ Drawn0 w w')
                case atStart => exact ⟨(0), (by first | rfl | (simp; done) | (simp [*]; done)), H', ⟨Nat.le_refl _⟩, by repeat (first | exact Drawn0.refl _ | apply Drawn0.step)⟩
                case round =>
                  clear H'
                  try clear p1
                  try clear q1
                  try clear hx1
                  try clear c2
                  try clear c2b0
                  try clear c2b1
                  try clear p2
                  try clear c3
                  try clear c3b0
                  try clear c4
                  try clear c4b0
                  try clear c6
                  try clear p6
                  try clear c8
                  try clear c9
                  try clear c9b0
                  try clear hx174_0
                  try clear hx174_1
                  try clear hx176_0
                  try clear hx176_1
                  try clear p1
                  try clear p174
                  try clear p176
                  try clear p2
                  try clear p6
                  try clear q1
                  try clear q174
                  try clear q176
                  obtain ⟨x5_3, rfl, HA, HK3, ⟨m3, rfl⟩⟩ := hrel
                  cases gk with
                  | zero => exact absurd HA.out (by simp [verditerref08_Validate.l2])
                  | succ k3 =>
                    have H := HA.out
                    clear HA
                    simp only [verditerref08_Validate.l2] at H
                    by_cases c10 : x5_3 < x4_2
                    · rw [if_pos c10] at H
                      have c10b0 : decide (x5_3 < x4_2) = true := decide_eq_true c10
                      clear c10
                      by_cases c11 : 0 ≤ x4_2
                      · rw [if_pos c11] at H
                        have c11b0 : decide (0 ≤ x4_2) = true := decide_eq_true c11
                        clear c11
                        by_cases c12 : x4_2 < (l0.length : Int)
                        · rw [if_pos c12] at H
                          have c12b0 : decide (x4_2 < (l0.length : Int)) = true := decide_eq_true c12
                          clear c12
                          by_cases c13 : 0 ≤ x5_3
                          · rw [if_pos c13] at H
                            have c13b0 : decide (0 ≤ x5_3) = true := decide_eq_true c13
                            clear c13
                            by_cases c14 : x5_3 < (l0.length : Int)
                            · rw [if_pos c14] at H
                              have c14b0 : decide (x5_3 < (l0.length : Int)) = true := decide_eq_true c14
                              clear c14
                              by_cases c15 : ((rd_T43 l0 x4_2).f0) = ((rd_T43 l0 x5_3).f0)
                              · rw [if_pos c15] at H
                                have c15b0 : (((rd_T43 l0 x4_2).f0) == ((rd_T43 l0 x5_3).f0)) = true := beq_iff_eq.mpr c15
                                have c15b1 : (((rd_T43 l0 x4_2).f0) != ((rd_T43 l0 x5_3).f0)) = false := bne_eq_false_iff_eq.mpr c15
                                clear c15
                                obtain rfl := Option.some.inj H
                                have p178 : 0 ≤ (x4_2 : Int) := of_decide_eq_true (by first | (with_reducible assumption) | assumption)
                                have q178 : x4_2 < (l0.length : Int) := of_decide_eq_true (by first | (with_reducible assumption) | assumption)
                                obtain ⟨ad178, e178, hx178_0, hx178_1⟩ := at_T43 HR0.out x4_2 p178 q178
                                cases e178
                                replace p178 := eq_true p178
                                replace q178 := eq_true q178
                                have p179 : 0 ≤ (x5_3 : Int) := of_decide_eq_true (by first | (with_reducible assumption) | assumption)
                                have q179 : x5_3 < (l0.length : Int) := of_decide_eq_true (by first | (with_reducible assumption) | assumption)
                                obtain ⟨ad179, e179, hx179_0, hx179_1⟩ := at_T43 HR0.out x5_3 p179 q179
                                obtain rfl : ad178 = ad179 := (by injection e179)
                                replace p179 := eq_true p179
                                replace q179 := eq_true q179
                                go_wp2
                                repeat (go_quiet (fail); try go_wp2)
                                go_ret
                                exact ⟨by first | rfl | (simp; done) | (simp [*]; done), by repeat (first | exact Drawn0.refl _ | apply Drawn0.step)⟩
                              · rw [if_neg c15] at H
                                have c15b0 : (((rd_T43 l0 x4_2).f0) == ((rd_T43 l0 x5_3).f0)) = false := beq_eq_false_iff_ne.mpr c15
                                have c15b1 : (((rd_T43 l0 x4_2).f0) != ((rd_T43 l0 x5_3).f0)) = true := bne_iff_ne.mpr c15
                                have H' := Aside0.mk H
                                clear H
                                have p178 : 0 ≤ (x4_2 : Int) := of_decide_eq_true (by first | (with_reducible assumption) | assumption)
                                have q178 : x4_2 < (l0.length : Int) := of_decide_eq_true (by first | (with_reducible assumption) | assumption)
                                obtain ⟨ad178, e178, hx178_0, hx178_1⟩ := at_T43 HR0.out x4_2 p178 q178
                                cases e178
                                replace p178 := eq_true p178
                                replace q178 := eq_true q178
                                have p179 : 0 ≤ (x5_3 : Int) := of_decide_eq_true (by first | (with_reducible assumption) | assumption)
                                have q179 : x5_3 < (l0.length : Int) := of_decide_eq_true (by first | (with_reducible assumption) | assumption)
                                obtain ⟨ad179, e179, hx179_0, hx179_1⟩ := at_T43 HR0.out x5_3 p179 q179
                                obtain rfl : ad178 = ad179 := (by injection e179)
                                replace p179 := eq_true p179
                                replace q179 := eq_true q179
                                go_wp2
                                repeat (go_quiet (fail); try go_wp2)
                                go_roundg k3
                                case measure => have := HK1.out; have := HK2.out; have := HK3.out; omega
                                case rel => exact ⟨(wrap64 (x5_3 + 1)), (by first | rfl | (simp; done) | (simp [*]; done)), H', ⟨by have := HK1.out; have := HK2.out; have := HK3.out; omega⟩, by repeat (first | exact Drawn0.refl _ | apply Drawn0.step)⟩
                            · rw [if_neg c14] at H
                              exact absurd H (by simp)
                          · rw [if_neg c13] at H
                            exact absurd H (by simp)
                        · rw [if_neg c12] at H
                          exact absurd H (by simp)
                      · rw [if_neg c11] at H
                        exact absurd H (by simp)
                    · rw [if_neg c10] at H
                      have c10b0 : decide (x5_3 < x4_2) = false := decide_eq_false c10
                      clear c10
                      have H' := Aside0.mk H
                      clear H
                      go_wp2
                      repeat (go_quiet (fail); try go_wp2)
                      go_roundg k3
                      case measure => have := HK1.out; have := HK2.out; have := HK3.out; omega
                      case rel => exact ⟨(wrap64 (x4_2 + 1)), (by first | rfl | (simp; done) | (simp [*]; done)), H', ⟨by have := HK1.out; have := HK2.out; have := HK3.out; omega⟩, by repeat (first | exact Drawn0.refl _ | apply Drawn0.step)⟩
              · rw [if_neg c9] at H
                have c9b0 : decide (x4_2 < (l0.length : Int)) = false := decide_eq_false c9
                clear c9
                obtain rfl := Option.some.inj H
                go_wp2
                repeat (go_quiet (fail); try go_wp2)
                go_ret
                exact ⟨by first | rfl | (simp; done) | (simp [*]; done), by repeat (first | exact Drawn0.refl _ | apply Drawn0.step)⟩

end Go.Proofs.Ythlbjdiicmojfaa.P

/-! Part PF97. -/
-- Written for this claim by wip/print_more.py (a session's program that runs the kit's printer with hand-proved functions beside). Lean checks it.
namespace Go.Proofs.Ythlbjdiicmojfaa.P
open Go.RowKit Go.Proofs.YthlbjdiicmojfaaW.PrintWords Go.Proofs.YthlbjdiicmojfaaW.PrintLast Go.Proofs.YthlbjdiicmojfaaW.PrintMore
attribute [local go_sem] max2_int min2_int max_two min_two max_three min_three max_four min_four   -- for this text's walks alone
set_option linter.unusedVariables false
set_option linter.unusedSimpArgs false

/-! ### verditerref08_without: function 97 -/
def verditerref08_without.f (l0 : List (S43)) (a1 : Int) : Option ((List (S43))) := (some (([] : List (S43)) : List (S43))).bind fun y435 => (if 0 ≤ a1 then (if a1 ≤ (l0.length : Int) then ((some (l0.take (a1 : Int).toNat : List (S43))).bind fun y438 => (if y435.length + y438.length < 8796093022208 then ((some (y435 ++ y438 : List (S43))).bind fun y442 => (if 0 ≤ (wrap64 (a1 + 1)) then (if (wrap64 (a1 + 1)) ≤ (l0.length : Int) then ((some (l0.drop ((wrap64 (a1 + 1)) : Int).toNat : List (S43))).bind fun y445 => (if y442.length + y445.length < 8796093022208 then (some (y442 ++ y445)) else (none))) else (none)) else (none))) else (none))) else (none)) else (none))
def verditerref08_without.T1 : Bool × List (List Nat × List Nat) := (true, [([], []), ([], []), ([], []), ([1, 2], [1, 2]), ([0, 3], [0, 3]), ([], []), ([], []), ([6], [6]), ([5, 7], [5, 7]), ([4, 8, 4], [4, 8]), ([9, 9, 0, 1, 2, 3, 4, 5, 6, 7, 8, 9], [9])])
def verditerref08_without.B1 : List Nat := [0, 0, 0, 6, 15, 0, 0, 64, 224, 511, 1023]
theorem verditerref08_without.tab1 : rtab .any (opsOf Try.f97 1) = verditerref08_without.T1 := by kernel_rfl
theorem verditerref08_without.bits1 : waitsOk verditerref08_without.T1.2 verditerref08_without.B1 = true := by kernel_rfl
set_option maxHeartbeats 8000000 in
set_option maxRecDepth 100000 in
theorem verditerref08_without.calls (A0 : Option Addr) (c0 : Nat) (l0 : List (S43)) (a1 : Int) (r : List (S43)) (w : World) (hr0 : Kd.C k43 w A0 l0.length l0) (hc0 : l0.length ≤ c0) (h : verditerref08_without.f l0 a1 = some r) :
    Calls Try.prog 97 #[.slice A0 l0.length c0, .int .i64 a1] w fun e w' => ∃ v0_ : Value, e = .returned (v0_) ∧ Kd.R k43 43 w' w.heap.size (fun _ => True) v0_ r ∧ Below w.heap.size w w' := by
  have HR0 := Aside0.mk hr0
  have HC0 := Aside0.mk hc0
  clear hr0 hc0
  have HB := Aside0.mk (Below.refl w.heap.size w)
  have H : ((some (([] : List (S43)) : List (S43))).bind fun y435 => (if 0 ≤ a1 then (if a1 ≤ (l0.length : Int) then ((some (l0.take (a1 : Int).toNat : List (S43))).bind fun y438 => (if y435.length + y438.length < 8796093022208 then ((some (y435 ++ y438 : List (S43))).bind fun y442 => (if 0 ≤ (wrap64 (a1 + 1)) then (if (wrap64 (a1 + 1)) ≤ (l0.length : Int) then ((some (l0.drop ((wrap64 (a1 + 1)) : Int).toNat : List (S43))).bind fun y445 => (if y442.length + y445.length < 8796093022208 then (some (y442 ++ y445)) else (none))) else (none)) else (none))) else (none))) else (none)) else (none))) = some r := h
  clear h
  obtain ⟨y435, hy435⟩ : ∃ y_ : List (S43), y_ = (([] : List (S43))) := ⟨_, rfl⟩
  replace H : (if 0 ≤ a1 then (if a1 ≤ (l0.length : Int) then ((some (l0.take (a1 : Int).toNat : List (S43))).bind fun y438 => (if y435.length + y438.length < 8796093022208 then ((some (y435 ++ y438 : List (S43))).bind fun y442 => (if 0 ≤ (wrap64 (a1 + 1)) then (if (wrap64 (a1 + 1)) ≤ (l0.length : Int) then ((some (l0.drop ((wrap64 (a1 + 1)) : Int).toNat : List (S43))).bind fun y445 => (if y442.length + y445.length < 8796093022208 then (some (y442 ++ y445)) else (none))) else (none)) else (none))) else (none))) else (none)) else (none)) = some r := by first | (rw [hy435]; with_reducible exact H) | (have H2_ := (Option.bind_some _ _).symm.trans H; rw [hy435]; with_reducible exact H2_) | (have H2_ := (Option.bind_some _ _).symm.trans H; with_reducible exact H2_) | with_reducible exact H | (rw [hy435]; exact H) | exact H
  have Ny435 := Aside0.mk hy435
  clear hy435
  by_cases c3 : 0 ≤ a1
  · rw [if_pos c3] at H
    have c3b0 := eq_true c3
    have c3b1 : decide (0 ≤ a1) = true := decide_eq_true c3
    clear c3
    by_cases c4 : a1 ≤ (l0.length : Int)
    · rw [if_pos c4] at H
      have c4b0 := eq_true c4
      have c4b1 : decide (a1 ≤ (l0.length : Int)) = true := decide_eq_true c4
      clear c4
      obtain ⟨y438, hy438⟩ : ∃ y_ : List (S43), y_ = (l0.take (a1 : Int).toNat) := ⟨_, rfl⟩
      replace H : (if y435.length + y438.length < 8796093022208 then ((some (y435 ++ y438 : List (S43))).bind fun y442 => (if 0 ≤ (wrap64 (a1 + 1)) then (if (wrap64 (a1 + 1)) ≤ (l0.length : Int) then ((some (l0.drop ((wrap64 (a1 + 1)) : Int).toNat : List (S43))).bind fun y445 => (if y442.length + y445.length < 8796093022208 then (some (y442 ++ y445)) else (none))) else (none)) else (none))) else (none)) = some r := by first | (rw [hy438]; with_reducible exact H) | (have H2_ := (Option.bind_some _ _).symm.trans H; rw [hy438]; with_reducible exact H2_) | (have H2_ := (Option.bind_some _ _).symm.trans H; with_reducible exact H2_) | with_reducible exact H | (rw [hy438]; exact H) | exact H
      have Ny438 := Aside0.mk hy438
      clear hy438
      by_cases c5 : y435.length + y438.length < 8796093022208
      · rw [if_pos c5] at H
        have LMc5 := Aside0.mk c5
        clear c5
        obtain ⟨y442, hy442⟩ : ∃ y_ : List (S43), y_ = (y435 ++ y438) := ⟨_, rfl⟩
        replace H : (if 0 ≤ (wrap64 (a1 + 1)) then (if (wrap64 (a1 + 1)) ≤ (l0.length : Int) then ((some (l0.drop ((wrap64 (a1 + 1)) : Int).toNat : List (S43))).bind fun y445 => (if y442.length + y445.length < 8796093022208 then (some (y442 ++ y445)) else (none))) else (none)) else (none)) = some r := by first | (rw [hy442]; with_reducible exact H) | (have H2_ := (Option.bind_some _ _).symm.trans H; rw [hy442]; with_reducible exact H2_) | (have H2_ := (Option.bind_some _ _).symm.trans H; with_reducible exact H2_) | with_reducible exact H | (rw [hy442]; exact H) | exact H
        have Ny442 := Aside0.mk hy442
        clear hy442
        obtain ⟨ji6, hji6⟩ : ∃ j_ : Int, (wrap64 (a1 + 1)) = j_ := ⟨_, rfl⟩
        replace H : (if 0 ≤ (ji6) then (if (ji6) ≤ (l0.length : Int) then ((some (l0.drop ((ji6) : Int).toNat : List (S43))).bind fun y445 => (if y442.length + y445.length < 8796093022208 then (some (y442 ++ y445)) else (none))) else (none)) else (none)) = some r := by first | (rw [hji6] at H; exact H) | (simp only [hji6] at H ⊢; exact H)
        have hji6w : (IntKind.i64.wrap (a1 + 1)) = ji6 := (i64_w _).trans hji6
        by_cases c7 : 0 ≤ (ji6)
        · rw [if_pos c7] at H
          have c7b0 := eq_true c7
          have c7b1 : decide (0 ≤ (ji6)) = true := decide_eq_true c7
          clear c7
          by_cases c8 : (ji6) ≤ (l0.length : Int)
          · rw [if_pos c8] at H
            have c8b0 := eq_true c8
            have c8b1 : decide ((ji6) ≤ (l0.length : Int)) = true := decide_eq_true c8
            clear c8
            obtain ⟨y445, hy445⟩ : ∃ y_ : List (S43), y_ = (l0.drop ((ji6) : Int).toNat) := ⟨_, rfl⟩
            replace H : (if y442.length + y445.length < 8796093022208 then (some (y442 ++ y445)) else (none)) = some r := by first | (rw [hy445]; with_reducible exact H) | (have H2_ := (Option.bind_some _ _).symm.trans H; rw [hy445]; with_reducible exact H2_) | (have H2_ := (Option.bind_some _ _).symm.trans H; with_reducible exact H2_) | with_reducible exact H | (rw [hy445]; exact H) | exact H
            have Ny445 := Aside0.mk hy445
            clear hy445
            by_cases c9 : y442.length + y445.length < 8796093022208
            · rw [if_pos c9] at H
              have LMc9 := Aside0.mk c9
              clear c9
              obtain ⟨y449, hy449⟩ : ∃ y_ : List (S43), y_ = (y442 ++ y445) := ⟨_, rfl⟩
              replace H : (some y449) = some r := by first | (rw [hy449]; with_reducible exact H) | (have H2_ := (Option.bind_some _ _).symm.trans H; rw [hy449]; with_reducible exact H2_) | (have H2_ := (Option.bind_some _ _).symm.trans H; with_reducible exact H2_) | with_reducible exact H | (rw [hy449]; exact H) | exact H
              have Ny449 := Aside0.mk hy449
              clear hy449
              obtain rfl := Option.some.inj H
              go_enter Try.func97, Try.ntmps97
              try go_wp2
              have n0_ := Aside0.mk (below_drew1 HB.out)
              clear HB
              have HB := n0_
              clear n0_
              have q11 : (a1 : Int) ≤ ((l0.length : Int) : Int) := of_decide_eq_true (by first | (with_reducible assumption) | assumption)
              obtain ⟨i011, hi011, _, hsz11, _⟩ := info_parts info43
              have hroom11 : l0.length ≤ c0 := HC0.out
              have hC11 : Kd.C k43 _ A0 l0.length l0 := HR0.out
              have hcut11 := cut_to (P := Try.prog) 22 43 .i64 Try.underlying22 hi011 A0 l0.length c0 a1 (of_decide_eq_true (by first | (with_reducible assumption) | assumption)) q11 hroom11
              have hr11 := Kd.C_take (m := (a1 : Int).toNat) hC11 (by omega)
              have hy11 : y438.length = (a1 : Int).toNat := (by rw [Ny438.out, List.length_take]; omega)
              rw [← Ny438.out] at hr11
              rw [← hy11] at hcut11
              have HR441 := Aside0.mk hr11
              have HC441 := Aside0.mk (show y438.length ≤ c0 from by omega)
              clear hr11 hC11 hroom11 hi011 hsz11
              have KY11 := Aside0.mk hy11
              clear hy11
              replace q11 := eq_true q11
              have q12 : ((ji6) : Int) ≤ ((l0.length : Int) : Int) := of_decide_eq_true (by first | (with_reducible assumption) | assumption)
              obtain ⟨i012, hi012, _, hsz12, _⟩ := info_parts info43
              have hroom12 : l0.length ≤ c0 := HC0.out
              have hC12 : Kd.C k43 _ A0 l0.length l0 := HR0.out
              have q012 : (0 : Int) ≤ ((ji6) : Int) := of_decide_eq_true (by first | (with_reducible assumption) | assumption)
              have hcut12 := cut_from (P := Try.prog) 22 43 .i64 Try.underlying22 hi012 2 hsz12 A0 l0.length c0 (ji6) q012 q12
              have hr12 := Kd.C_drop (m := ((ji6) : Int).toNat) (c := c0) hC12 (by omega) hroom12
              obtain ⟨A12, hA12⟩ : ∃ A1, A1 = (if c0 = ((ji6) : Int).toNat then A0 else (A0 : Option Addr).map (·.add (((ji6) : Int).toNat * 2))) := ⟨_, rfl⟩
              obtain ⟨c12, hc12⟩ : ∃ c1, c1 = c0 - ((ji6) : Int).toNat := ⟨_, rfl⟩
              have hy12 : y445.length = l0.length - ((ji6) : Int).toNat := (by rw [Ny445.out, List.length_drop] <;> omega)
              rw [show (l0).drop ((ji6) : Int).toNat = y445 from Ny445.out.symm] at hr12
              replace hr12 : Kd.C k43 _ A12 y445.length y445 := (by rw [hA12]; exact hr12)
              rw [← hy12, ← hA12, ← hc12] at hcut12
              have HR448 := Aside0.mk hr12
              have HC448 := Aside0.mk (show y445.length ≤ c12 from by rw [hy12, hc12]; exact Nat.sub_le_sub_right hroom12 _)
              clear hr12 hC12 hroom12 hi012 hsz12 hc12
              have KY12 := Aside0.mk hy12
              have KA12 := Aside0.mk hA12
              clear hy12 hA12
              replace q12 := eq_true q12
              refine start_ (n := 11) (S := fun w' => True) (ds := []) #[false, false, false, false, false, false, false, false, false, false, false] (by kernel_rfl) rfl rfl trivial (fun hHeld => ?_); refine with_tabW verditerref08_without.tab1 verditerref08_without.bits1 (fun HT_ HW_ => ?_)
              generalize w.drew = w10 at HB HR441 HR448 hHeld ⊢
              refine pure_ (i := 1) (N := some 6) (v := ?_) (a' := ?_) #[false, true, false, false, false, false, false, false, false, false, false] rfl rfl (any_of HT_.out (by kernel_rfl)) (fun _ _ _ h => h) (Or.inl ⟨by rfl, ?_⟩) ?_ ?_
              rotate_left
              · intro w'
                go_simp
                with_reducible rfl
              rotate_left
              · simp only [Act.put, List.setIfInBounds_toArray, List.set_cons_zero, List.set_cons_succ, i64_w, i32_w]
                rfl
              refine pure_ (i := 2) (N := some 7) (v := ?_) (a' := ?_) #[false, true, true, false, false, false, false, false, false, false, false] rfl rfl (any_of HT_.out (by kernel_rfl)) (fun _ _ _ h => h) (Or.inl ⟨by rfl, ?_⟩) ?_ ?_
              rotate_left
              · intro w'
                go_simp
                with_reducible rfl
              rotate_left
              · simp only [Act.put, List.setIfInBounds_toArray, List.set_cons_zero, List.set_cons_succ, i64_w, i32_w]
                rfl
              refine pure_ (i := 3) (N := some 8) (v := ?_) (a' := ?_) #[false, true, true, true, false, false, false, false, false, false, false] rfl rfl (any_of HT_.out (by kernel_rfl)) (fun _ _ _ h => h) (Or.inl ⟨by rfl, ?_⟩) ?_ ?_
              rotate_left
              · intro w'
                go_simp
                with_reducible rfl
              rotate_left
              · simp only [Act.put, List.setIfInBounds_toArray, List.set_cons_zero, List.set_cons_succ, i64_w, i32_w]
                rfl
              refine pure_ (i := 5) (N := some 10) (v := ?_) (a' := ?_) #[false, true, true, true, false, true, false, false, false, false, false] rfl rfl (any_of HT_.out (by kernel_rfl)) (fun _ _ _ h => h) (Or.inl ⟨by rfl, ?_⟩) ?_ ?_
              rotate_left
              · intro w'
                go_simp
                with_reducible rfl
              rotate_left
              · simp only [Act.put, List.setIfInBounds_toArray, List.set_cons_zero, List.set_cons_succ, i64_w, i32_w]
                rfl
              refine pure_ (i := 6) (N := some 11) (v := ?_) (a' := ?_) #[false, true, true, true, false, true, true, false, false, false, false] rfl rfl (any_of HT_.out (by kernel_rfl)) (fun _ _ _ h => h) (Or.inl ⟨by rfl, ?_⟩) ?_ ?_
              rotate_left
              · intro w'
                go_simp
                with_reducible rfl
              rotate_left
              · simp only [Act.put, List.setIfInBounds_toArray, List.set_cons_zero, List.set_cons_succ, i64_w, i32_w]
                rfl
              refine pure_ (i := 7) (N := some 12) (v := ?_) (a' := ?_) #[false, true, true, true, false, true, true, true, false, false, false] rfl rfl (any_of HT_.out (by kernel_rfl)) (fun _ _ _ h => h) (Or.inl ⟨by rfl, ?_⟩) ?_ ?_
              rotate_left
              · intro w'
                go_simp
                with_reducible rfl
              rotate_left
              · simp only [Act.put, List.setIfInBounds_toArray, List.set_cons_zero, List.set_cons_succ, i64_w, i32_w]
                rfl
              refine pure_ (i := 8) (N := some 13) (v := ?_) (a' := ?_) #[false, true, true, true, false, true, true, true, true, false, false] rfl rfl (any_of HT_.out (by kernel_rfl)) (fun _ _ _ h => h) (Or.inl ⟨by rfl, ?_⟩) ?_ ?_
              rotate_left
              · intro w'
                go_simp
                with_reducible rfl
              rotate_left
              · simp only [Act.put, List.setIfInBounds_toArray, List.set_cons_zero, List.set_cons_succ, i64_w, i32_w]
                rfl
              refine one_ (i := 0) (N := some 5) #[true, true, true, true, false, true, true, true, true, false, false] rfl rfl (one_of HT_.out (by kernel_rfl)) (by decide) (fun K hK => ?_)
              refine Kd.R_lit_step k43 _ 43 ?hg (N := 5) ?hd (xs := ([] : List (S43))) (inner := []) (ok := fun _ => True) (okp := fun _ => True) ?hr ?hp (fun _ hk => hk) trivial (Below.refl _ _) (Nat.le_refl _) (by simp) ?_; (case hd => rfl); (case hg => rfl); (case hr => first | (go_simp; done) | (go_simp; rfl)); (case hp => exact (Reps.none _ _))
              intro v436 w13 ho14 hb hg_ hnew_
              clear hg_ hnew_
              (first | rw [← Ny435.out] at ho14 | (simp only [Int.reduceToNat] at ho14; rw [← Ny435.out] at ho14))
              have n0_ := Aside0.mk (Kd.R_lower ho14 (below_size (by repeat (first | (with_reducible first | exact HB.out | apply below_alloc | apply pw_below_drewN | apply below_drew1) | exact HB.out))))
              have n1_ := Aside0.mk (below_step (by repeat (first | (with_reducible first | exact HB.out | apply below_alloc | apply pw_below_drewN | apply below_drew1) | exact HB.out)) hb)
              clear HB
              have HO437 := n0_
              have HB := n1_
              clear n0_ n1_
              clear hb ho14
              refine hK.out _ _ trivial (fun hHeld => ?_)
              clear hK K
              refine norm_ (a' := ?_) ?_ ?_
              rotate_left
              · show Act.put _ (some 5) _ = _
                simp only [Act.put, List.setIfInBounds_toArray, List.set_cons_zero, List.set_cons_succ, i64_w, i32_w]
                rfl
              refine one_ (i := 4) (N := some 9) #[true, true, true, true, true, true, true, true, true, false, false] rfl rfl (one_of HT_.out (by kernel_rfl)) (by decide) (fun K hK => ?_)
              refine Kd.R_append_rows_step k43 (w0 := w) w.heap.size (by rfl) (.tmp 5) (.tmp 8) 22 43 (.agg #[(.int .i64 0), (.int .i64 0)]) 16 rfl Try.underlying22 info43 rfl (by decide) (by omega) v436 y435 y438 _ _ _ (fun _ => True) (fun _ => False) rfl rfl ?aO ?aR (fun _ _ h => h) (fun _ h => h.elim) ?aF ?aB ?aS ?aL ?_
              (case aR => repeat (first | exact (Kd.C_below HR441.out HB.out) | (with_reducible refine Kd.C_alloc ?_ _) | (with_reducible refine Kd.C_drewN ?_ _) | (with_reducible refine Kd.C_drew ?_)))
              (case aB => exact (by repeat (first | (with_reducible first | exact HB.out | apply below_alloc | apply pw_below_drewN | apply below_drew1) | exact HB.out)))
              (case aF => exact (fun _ _ => trivial))
              (case aO => exact (by (with_reducible repeat (first | apply Kd.R_alloc | apply Kd.R_drewN | apply Kd.R_drew)); exact HO437.out))
              (case aS => exact (below_size (by repeat (first | (with_reducible first | exact HB.out | apply below_alloc | apply pw_below_drewN | apply below_drew1) | exact HB.out))))
              (case aL => have := LMc5.out; omega)
              intro v443 w15 ho hb hg hat
              rw [← Ny442.out] at ho
              have n0_ := Aside0.mk (hb)
              have n1_ := Aside0.mk (ho)
              clear HB
              clear HO437
              have HB := n0_
              have HO444 := n1_
              clear n0_ n1_
              clear ho hb hg hat
              refine hK.out _ _ trivial (fun hHeld => ?_)
              clear hK K
              refine norm_ (a' := ?_) ?_ ?_
              rotate_left
              · show Act.put _ (some 9) _ = _
                simp only [Act.put, List.setIfInBounds_toArray, List.set_cons_zero, List.set_cons_succ, i64_w, i32_w]
                rfl
              refine one_ (i := 9) (N := some 14) #[true, true, true, true, true, true, true, true, true, true, false] rfl rfl (one_of HT_.out (by kernel_rfl)) (by decide) (fun K hK => ?_)
              refine Kd.R_append_rows_step k43 (w0 := w) w.heap.size (by rfl) (.tmp 9) (.tmp 13) 22 43 (.agg #[(.int .i64 0), (.int .i64 0)]) 16 rfl Try.underlying22 info43 rfl (by decide) (by omega) v443 y442 y445 _ _ _ (fun _ => True) (fun _ => False) rfl rfl ?aO ?aR (fun _ _ h => h) (fun _ h => h.elim) ?aF ?aB ?aS ?aL ?_
              (case aR => repeat (first | exact (Kd.C_below HR448.out HB.out) | (with_reducible refine Kd.C_alloc ?_ _) | (with_reducible refine Kd.C_drewN ?_ _) | (with_reducible refine Kd.C_drew ?_)))
              (case aB => exact (by repeat (first | (with_reducible first | exact HB.out | apply below_alloc | apply pw_below_drewN | apply below_drew1) | exact HB.out)))
              (case aF => exact (fun _ _ => trivial))
              (case aO => exact (by (with_reducible repeat (first | apply Kd.R_alloc | apply Kd.R_drewN | apply Kd.R_drew)); exact HO444.out))
              (case aS => exact (below_size (by repeat (first | (with_reducible first | exact HB.out | apply below_alloc | apply pw_below_drewN | apply below_drew1) | exact HB.out))))
              (case aL => have := LMc9.out; omega)
              intro v450 w16 ho hb hg hat
              rw [← Ny449.out] at ho
              have n0_ := Aside0.mk (hb)
              have n1_ := Aside0.mk (ho)
              clear HB
              clear HO444
              have HB := n0_
              have HO451 := n1_
              clear n0_ n1_
              clear ho hb hg hat
              refine hK.out _ _ trivial (fun hHeld => ?_)
              clear hK K
              refine norm_ (a' := ?_) ?_ ?_
              rotate_left
              · show Act.put _ (some 14) _ = _
                simp only [Act.put, List.setIfInBounds_toArray, List.set_cons_zero, List.set_cons_succ, i64_w, i32_w]
                rfl
              refine pure_ (i := 10) (N := some 4) (v := ?_) (a' := ?_) #[true, true, true, true, true, true, true, true, true, true, true] rfl rfl (any_of HT_.out (by kernel_rfl)) (fun _ _ _ h => h) (Or.inl ⟨by rfl, ?_⟩) ?_ ?_
              rotate_left
              · intro w'
                go_simp
                with_reducible rfl
              rotate_left
              · simp only [Act.put, List.setIfInBounds_toArray, List.set_cons_zero, List.set_cons_succ, i64_w, i32_w]
                rfl
              refine done_ (done_of HT_.out (by kernel_rfl)) ?_
              try go_wp2
              go_ret
              exact ⟨_, by first | rfl | (simp [errW_none, errW_some] <;> rfl) | (simp only [← hji6]; first | rfl | (simp [errW_none, errW_some] <;> rfl)) | (simp [*, errW_none, errW_some] <;> rfl), by (with_reducible repeat (first | apply Kd.R_alloc | apply Kd.R_drewN | apply Kd.R_drew)); exact HO451.out, by repeat (first | (with_reducible first | exact HB.out | apply below_alloc | apply pw_below_drewN | apply below_drew1) | exact HB.out)⟩
            · rw [if_neg c9] at H
              exact absurd H (by simp)
          · rw [if_neg c8] at H
            exact absurd H (by simp)
        · rw [if_neg c7] at H
          exact absurd H (by simp)
      · rw [if_neg c5] at H
        exact absurd H (by simp)
    · rw [if_neg c4] at H
      exact absurd H (by simp)
  · rw [if_neg c3] at H
    exact absurd H (by simp)

end Go.Proofs.Ythlbjdiicmojfaa.P

/-! Part PF61. -/
-- Written for this claim by wip/print_more.py (a session's program that runs the kit's printer with hand-proved functions beside). Lean checks it.
namespace Go.Proofs.Ythlbjdiicmojfaa.P
open Go.RowKit Go.Proofs.YthlbjdiicmojfaaW.PrintWords Go.Proofs.YthlbjdiicmojfaaW.PrintLast Go.Proofs.YthlbjdiicmojfaaW.PrintMore
attribute [local go_sem] max2_int min2_int max_two min_two max_three min_three max_four min_four   -- for this text's walks alone
set_option linter.unusedVariables false
set_option linter.unusedSimpArgs false

/-! ### verditerref08_Without: function 61 -/
def verditerref08_Without.l0 : Nat → List (S43) → Int → Int → Option ((List (S43)) × Int)
  | 0, _, _, _ => none
  | k + 1, x0, x1, x7 => if x7 < (x0.length : Int) then (if 0 ≤ x7 then (if ((rd_T43 x0 x7).f0) = x1 then ((verditerref08_without.f x0 x7).bind fun t455 => (some (t455, 0))) else (verditerref08_Without.l0 k x0 x1 (wrap64 (x7 + 1)))) else (none)) else (some (([] : List (S43)), 4))
def verditerref08_Without.f (k : Nat) (l0 : List (S43)) (a1 : Int) : Option ((List (S43)) × Int) := (verditerref08_Validate.f k l0).bind fun t452 => (if t452 = 0 then ((verditerref08_within.f a1 1 250).bind fun t453 => (if t453 = true then (verditerref08_Without.l0 k l0 a1 0) else (some (([] : List (S43)), 1)))) else (some (([] : List (S43)), t452)))
theorem verditerref08_Without.mono_l : ∀ k, (∀ y0 y1 y2, LeO (verditerref08_Without.l0 k y0 y1 y2) (verditerref08_Without.l0 (k + 1) y0 y1 y2))
  | 0 => fun _ _ _ r h => by simp [verditerref08_Without.l0] at h
  | k + 1 => by
    have ih0 := verditerref08_Without.mono_l k
    · intro y0 y1 y2
      unfold verditerref08_Without.l0
      repeat' first
      | (with_reducible exact ih0 _ _ _)
      | (with_reducible exact verditerref08_Validate.mono _ _)
      | (with_reducible exact LeO.refl _)
      | (with_reducible exact LeO.none _)
      | (with_reducible refine LeO.ite ?_ ?_)
      | (with_reducible refine LeO.bind ?_ (fun _ => ?_))
      | exact ih0 _ _ _
      | exact verditerref08_Validate.mono _ _
      | exact LeO.none _
      | refine LeO.ite ?_ ?_
      | refine LeO.bind ?_ (fun _ => ?_)
theorem verditerref08_Without.mono : ∀ a0 a1 k, LeO (verditerref08_Without.f k a0 a1) (verditerref08_Without.f (k + 1) a0 a1) := by
  intro a0 a1 k
  have ih0 := verditerref08_Without.mono_l k
  unfold verditerref08_Without.f
  repeat' first
      | (with_reducible exact ih0 _ _ _)
      | (with_reducible exact verditerref08_Validate.mono _ _)
      | (with_reducible exact LeO.refl _)
      | (with_reducible exact LeO.none _)
      | (with_reducible refine LeO.ite ?_ ?_)
      | (with_reducible refine LeO.bind ?_ (fun _ => ?_))
      | exact ih0 _ _ _
      | exact verditerref08_Validate.mono _ _
      | exact LeO.none _
      | refine LeO.ite ?_ ?_
      | refine LeO.bind ?_ (fun _ => ?_)
set_option maxHeartbeats 8000000 in
set_option maxRecDepth 100000 in
theorem verditerref08_Without.calls (k : Nat) (A0 : Option Addr) (c0 : Nat) (l0 : List (S43)) (a1 : Int) (r1 : List (S43)) (r2 : Int) (w : World) (hr0 : Kd.C k43 w A0 l0.length l0) (hc0 : l0.length ≤ c0) (h : verditerref08_Without.f k l0 a1 = some (r1, r2)) :
    Calls Try.prog 61 #[.slice A0 l0.length c0, .int .i64 a1] w fun e w' => ∃ v0_ : Value, e = .returned (.tuple #[v0_, .int .i64 r2]) ∧ Kd.R k43 43 w' w.heap.size (fun _ => True) v0_ r1 ∧ Below w.heap.size w w' := by
  have HR0 := Aside0.mk hr0
  have HC0 := Aside0.mk hc0
  clear hr0 hc0
  have HB := Aside0.mk (Below.refl w.heap.size w)
  have H : ((verditerref08_Validate.f k l0).bind fun t452 => (if t452 = 0 then ((verditerref08_within.f a1 1 250).bind fun t453 => (if t453 = true then (verditerref08_Without.l0 k l0 a1 0) else (some (([] : List (S43)), 1)))) else (some (([] : List (S43)), t452)))) = some (r1, r2) := h
  clear h
  replace H := Option.bind_eq_some_iff.mp H
  obtain ⟨t452, A30, H⟩ := H
  replace H : (if t452 = 0 then ((verditerref08_within.f a1 1 250).bind fun t453 => (if t453 = true then (verditerref08_Without.l0 k l0 a1 0) else (some (([] : List (S43)), 1)))) else (some (([] : List (S43)), t452))) = some (r1, r2) := H
  have A3 := Aside0.mk A30
  clear A30
  by_cases c4 : t452 = 0
  · rw [if_pos c4] at H
    have c4b0 : (t452 == 0) = true := beq_iff_eq.mpr c4
    have c4b1 : (t452 != 0) = false := bne_eq_false_iff_eq.mpr c4
    clear c4
    replace H := Option.bind_eq_some_iff.mp H
    obtain ⟨t453, A50, H⟩ := H
    replace H : (if t453 = true then (verditerref08_Without.l0 k l0 a1 0) else (some (([] : List (S43)), 1))) = some (r1, r2) := H
    have A5 := Aside0.mk A50
    clear A50
    by_cases c6 : t453 = true
    · subst c6
      have H1 : (verditerref08_Without.l0 k l0 a1 0) = some (r1, r2) := by rw [if_pos rfl] at H; exact H
      clear H
      have H := H1
      clear H1
      have H' := Aside0.mk H
      clear H
      go_enter Try.func61, Try.ntmps61
      go_wp2_with (first | ((with_reducible refine gate_callee (f := 66) rfl ?_); refine goesL_ (some 9) rfl rfl Try.func66 (by kernel_rfl) rfl #[.slice A0 l0.length c0] rfl (by (try simp only [List.map_toArray, List.map_cons, List.map_nil]); first | done | rfl | (simp only [List.length_drop, List.length_take]; rfl)) ?_; (with_reducible refine (verditerref08_Validate.calls k _ _ l0 t452 _ ?side1 ?side2 A3.out).mono ?_); (case side1 => repeat (first | exact HR0.out | (with_reducible refine Kd.C_alloc ?_ _) | (with_reducible refine Kd.C_drewN ?_ _) | (with_reducible refine Kd.C_drew ?_))); (case side2 => exact HC0.out); rintro e w' ⟨rfl, ⟨nd, rfl⟩⟩; refine ⟨_, rfl, ?_⟩) | ((with_reducible refine gate_callee (f := 83) rfl ?_); refine goesL_ (some 14) rfl rfl Try.func83 (by kernel_rfl) rfl #[.int .i64 a1, .int .i64 1, .int .i64 250] rfl (by (try simp only [List.map_toArray, List.map_cons, List.map_nil]); first | done | rfl | (simp only [List.length_drop, List.length_take]; rfl)) ?_; (with_reducible refine (verditerref08_within.calls a1 1 250 true _ A5.out).mono ?_); rintro e w' ⟨rfl, ⟨nd, rfl⟩⟩; refine ⟨_, rfl, ?_⟩))
      go_loopg [7] k (fun kq v7 w' => ∃ (x7_1 : Int), v7 = .int .i64 x7_1 ∧ Aside0 (verditerref08_Without.l0 kq l0 a1 x7_1 = some (r1, r2)) ∧ Aside0 (kq ≤ k) ∧ Aside0 (Below w.heap.size w w'))
      case atStart => exact ⟨(0), (by first | rfl | (simp; done) | (simp [*]; done)), H', ⟨Nat.le_refl _⟩, ⟨by repeat (first | (with_reducible first | exact HB.out | apply below_alloc | apply pw_below_drewN | apply below_drew1) | exact HB.out)⟩⟩
      case round =>
        clear H'
        try clear p2
        try clear c4
        try clear c4b0
        try clear c4b1
        try clear c6
        obtain ⟨x7_1, rfl, HA, HK1, HB⟩ := hrel
        cases gk with
        | zero => exact absurd HA.out (by simp [verditerref08_Without.l0])
        | succ k1 =>
          have H := HA.out
          clear HA
          simp only [verditerref08_Without.l0] at H
          by_cases c7 : x7_1 < (l0.length : Int)
          · rw [if_pos c7] at H
            have c7b0 : decide (x7_1 < (l0.length : Int)) = true := decide_eq_true c7
            clear c7
            by_cases c8 : 0 ≤ x7_1
            · rw [if_pos c8] at H
              have c8b0 : decide (0 ≤ x7_1) = true := decide_eq_true c8
              clear c8
              by_cases c9 : ((rd_T43 l0 x7_1).f0) = a1
              · rw [if_pos c9] at H
                have c9b0 : (((rd_T43 l0 x7_1).f0) == a1) = true := beq_iff_eq.mpr c9
                have c9b1 : (((rd_T43 l0 x7_1).f0) != a1) = false := bne_eq_false_iff_eq.mpr c9
                clear c9
                replace H := Option.bind_eq_some_iff.mp H
                obtain ⟨t455, A100, H⟩ := H
                replace H : (some (t455, 0)) = some (r1, r2) := H
                have A10 := Aside0.mk A100
                clear A100
                simp only [Option.some.injEq, Prod.mk.injEq] at H
                obtain ⟨rfl, rfl⟩ := H
                have p454 : 0 ≤ (x7_1 : Int) := of_decide_eq_true (by first | (with_reducible assumption) | assumption)
                have q454 : x7_1 < (l0.length : Int) := of_decide_eq_true (by first | (with_reducible assumption) | assumption)
                obtain ⟨ad454, e454, hx454_0, hx454_1⟩ := at_T43 HR0.out x7_1 p454 q454
                cases e454
                replace hx454_0 := (HB.out.cell (World.block_lt_of_cell? w _ hx454_0)).trans hx454_0
                replace hx454_1 := (HB.out.cell (World.block_lt_of_cell? w _ hx454_1)).trans hx454_1
                replace p454 := eq_true p454
                replace q454 := eq_true q454
                go_wp2_with (first | ((with_reducible refine gate_callee (f := 97) rfl ?_); refine goesL_ (some 31) rfl rfl Try.func97 (by kernel_rfl) rfl #[.slice (some ad454) l0.length c0, .int .i64 x7_1] rfl (by (try simp only [List.map_toArray, List.map_cons, List.map_nil]); first | done | rfl | (simp only [List.length_drop, List.length_take]; rfl)) ?_; (with_reducible refine (verditerref08_without.calls _ _ l0 x7_1 t455 _ ?side1 ?side2 A10.out).mono ?_); (case side1 => repeat (first | exact (Kd.C_below HR0.out HB.out) | (with_reducible refine Kd.C_alloc ?_ _) | (with_reducible refine Kd.C_drewN ?_ _) | (with_reducible refine Kd.C_drew ?_))); (case side2 => exact HC0.out); rintro e w11 ⟨v456, rfl, ho0, hb⟩; refine ⟨_, rfl, ?_⟩; have n0_ := Aside0.mk (Kd.R_lower ho0 (below_size (by repeat (first | (with_reducible first | exact HB.out | apply below_alloc | apply pw_below_drewN | apply below_drew1) | exact HB.out)))); have n1_ := Aside0.mk (below_step (by repeat (first | (with_reducible first | exact HB.out | apply below_alloc | apply pw_below_drewN | apply below_drew1) | exact HB.out)) hb); clear HB; have HO457 := n0_; have HB := n1_; clear n0_ n1_; (try clear hb); (try clear hb2); (try clear hk); (try clear hi); (try clear ho0)))
                go_ret2
                exact ⟨_, by first | rfl | (simp [errW_none, errW_some] <;> rfl) | (simp [*, errW_none, errW_some] <;> rfl), by (with_reducible repeat (first | apply Kd.R_alloc | apply Kd.R_drewN | apply Kd.R_drew)); exact HO457.out, by repeat (first | (with_reducible first | exact HB.out | apply below_alloc | apply pw_below_drewN | apply below_drew1) | exact HB.out)⟩
              · rw [if_neg c9] at H
                have c9b0 : (((rd_T43 l0 x7_1).f0) == a1) = false := beq_eq_false_iff_ne.mpr c9
                have c9b1 : (((rd_T43 l0 x7_1).f0) != a1) = true := bne_iff_ne.mpr c9
                have H' := Aside0.mk H
                clear H
                have p454 : 0 ≤ (x7_1 : Int) := of_decide_eq_true (by first | (with_reducible assumption) | assumption)
                have q454 : x7_1 < (l0.length : Int) := of_decide_eq_true (by first | (with_reducible assumption) | assumption)
                obtain ⟨ad454, e454, hx454_0, hx454_1⟩ := at_T43 HR0.out x7_1 p454 q454
                cases e454
                replace hx454_0 := (HB.out.cell (World.block_lt_of_cell? w _ hx454_0)).trans hx454_0
                replace hx454_1 := (HB.out.cell (World.block_lt_of_cell? w _ hx454_1)).trans hx454_1
                replace p454 := eq_true p454
                replace q454 := eq_true q454
                go_wp2
                go_roundg k1
                case measure => have := HK1.out; omega
                case rel => exact ⟨(wrap64 (x7_1 + 1)), (by first | rfl | (simp; done) | (simp [*]; done)), H', ⟨by have := HK1.out; omega⟩, ⟨by repeat (first | (with_reducible first | exact HB.out | apply below_alloc | apply pw_below_drewN | apply below_drew1) | exact HB.out)⟩⟩
            · rw [if_neg c8] at H
              exact absurd H (by simp)
          · rw [if_neg c7] at H
            have c7b0 : decide (x7_1 < (l0.length : Int)) = false := decide_eq_false c7
            clear c7
            simp only [Option.some.injEq, Prod.mk.injEq] at H
            obtain ⟨rfl, rfl⟩ := H
            go_wp2
            go_ret2
            exact ⟨_, by first | rfl | (simp [errW_none, errW_some] <;> rfl) | (simp [*, errW_none, errW_some] <;> rfl), by first | exact Kd.R_nil _ _ _ _ _ | exact Kd.N_nil _ _ _ _ _ | exact Kd.V_nil _ _ _ _ _ | exact Kd.Q_nil _ _ _ _ _ | exact Kd.S_nil _ _ _ _ _, by repeat (first | (with_reducible first | exact HB.out | apply below_alloc | apply pw_below_drewN | apply below_drew1) | exact HB.out)⟩
    · replace c6 := Bool.eq_false_iff.mpr c6
      subst c6
      have H1 : (some (([] : List (S43)), 1)) = some (r1, r2) := by rw [if_neg (show ¬ (false = true) by decide)] at H; exact H
      clear H
      have H := H1
      clear H1
      simp only [Option.some.injEq, Prod.mk.injEq] at H
      obtain ⟨rfl, rfl⟩ := H
      go_enter Try.func61, Try.ntmps61
      go_wp2_with (first | ((with_reducible refine gate_callee (f := 66) rfl ?_); refine goesL_ (some 9) rfl rfl Try.func66 (by kernel_rfl) rfl #[.slice A0 l0.length c0] rfl (by (try simp only [List.map_toArray, List.map_cons, List.map_nil]); first | done | rfl | (simp only [List.length_drop, List.length_take]; rfl)) ?_; (with_reducible refine (verditerref08_Validate.calls k _ _ l0 t452 _ ?side1 ?side2 A3.out).mono ?_); (case side1 => repeat (first | exact HR0.out | (with_reducible refine Kd.C_alloc ?_ _) | (with_reducible refine Kd.C_drewN ?_ _) | (with_reducible refine Kd.C_drew ?_))); (case side2 => exact HC0.out); rintro e w' ⟨rfl, ⟨nd, rfl⟩⟩; refine ⟨_, rfl, ?_⟩) | ((with_reducible refine gate_callee (f := 83) rfl ?_); refine goesL_ (some 14) rfl rfl Try.func83 (by kernel_rfl) rfl #[.int .i64 a1, .int .i64 1, .int .i64 250] rfl (by (try simp only [List.map_toArray, List.map_cons, List.map_nil]); first | done | rfl | (simp only [List.length_drop, List.length_take]; rfl)) ?_; (with_reducible refine (verditerref08_within.calls a1 1 250 false _ A5.out).mono ?_); rintro e w' ⟨rfl, ⟨nd, rfl⟩⟩; refine ⟨_, rfl, ?_⟩))
      go_ret2
      exact ⟨_, by first | rfl | (simp [errW_none, errW_some] <;> rfl) | (simp [*, errW_none, errW_some] <;> rfl), by first | exact Kd.R_nil _ _ _ _ _ | exact Kd.N_nil _ _ _ _ _ | exact Kd.V_nil _ _ _ _ _ | exact Kd.Q_nil _ _ _ _ _ | exact Kd.S_nil _ _ _ _ _, by repeat (first | (with_reducible first | exact HB.out | apply below_alloc | apply pw_below_drewN | apply below_drew1) | exact HB.out)⟩
  · rw [if_neg c4] at H
    have c4b0 : (t452 == 0) = false := beq_eq_false_iff_ne.mpr c4
    have c4b1 : (t452 != 0) = true := bne_iff_ne.mpr c4
    simp only [Option.some.injEq, Prod.mk.injEq] at H
    obtain ⟨rfl, rfl⟩ := H
    go_enter Try.func61, Try.ntmps61
    go_wp2_with (first | ((with_reducible refine gate_callee (f := 66) rfl ?_); refine goesL_ (some 9) rfl rfl Try.func66 (by kernel_rfl) rfl #[.slice A0 l0.length c0] rfl (by (try simp only [List.map_toArray, List.map_cons, List.map_nil]); first | done | rfl | (simp only [List.length_drop, List.length_take]; rfl)) ?_; (with_reducible refine (verditerref08_Validate.calls k _ _ l0 t452 _ ?side1 ?side2 A3.out).mono ?_); (case side1 => repeat (first | exact HR0.out | (with_reducible refine Kd.C_alloc ?_ _) | (with_reducible refine Kd.C_drewN ?_ _) | (with_reducible refine Kd.C_drew ?_))); (case side2 => exact HC0.out); rintro e w' ⟨rfl, ⟨nd, rfl⟩⟩; refine ⟨_, rfl, ?_⟩))
    go_ret2
    exact ⟨_, by first | rfl | (simp [errW_none, errW_some] <;> rfl) | (simp [*, errW_none, errW_some] <;> rfl), by first | exact Kd.R_nil _ _ _ _ _ | exact Kd.N_nil _ _ _ _ _ | exact Kd.V_nil _ _ _ _ _ | exact Kd.Q_nil _ _ _ _ _ | exact Kd.S_nil _ _ _ _ _, by repeat (first | (with_reducible first | exact HB.out | apply below_alloc | apply pw_below_drewN | apply below_drew1) | exact HB.out)⟩

end Go.Proofs.Ythlbjdiicmojfaa.P

/-! Part H100. -/
namespace Go.Proofs.Ythlbjdiicmojfaa.P
open Go.RowKit Go.Proofs.YthlbjdiicmojfaaW.PrintWords Go.Proofs.YthlbjdiicmojfaaW.PrintLast Go.Proofs.YthlbjdiicmojfaaW.PrintMore
set_option linter.unusedVariables false

/-- The cells of parts. -/
def fl : List S43 → List Value
  | [] => []
  | p :: l => .int .i64 p.f0 :: .int .i64 p.f1 :: fl l
theorem fl_length : ∀ l, (fl l).length = l.length * 2
  | [] => rfl
  | p :: l => by simp [fl, fl_length l]; omega
theorem fl_append : ∀ l m, fl (l ++ m) = fl l ++ fl m
  | [], m => rfl
  | p :: l, m => by simp [fl, fl_append l m]
theorem fl_drop : ∀ (l : List S43) (k : Nat), fl (l.drop k) = (fl l).drop (k * 2)
  | l, 0 => by simp
  | [], k + 1 => by simp [fl]
  | p :: l, k + 1 => by
    rw [List.drop_succ_cons, fl_drop l k, show (k + 1) * 2 = k * 2 + 1 + 1 by omega]
    simp [fl]
theorem fl_take : ∀ (l : List S43) (k : Nat), fl (l.take k) = (fl l).take (k * 2)
  | l, 0 => by simp [fl]
  | [], k + 1 => by simp [fl]
  | p :: l, k + 1 => by
    rw [List.take_succ_cons, show (k + 1) * 2 = k * 2 + 1 + 1 by omega]
    simp [fl, fl_take l k]
theorem fl_one : ∀ (l : List S43), ∀ u ∈ fl l, u.oneCell' = true
  | [], u, h => by simp [fl] at h
  | p :: l, u, h => by
    simp only [fl, List.mem_cons] at h
    rcases h with rfl | rfl | h
    · rfl
    · rfl
    · exact fl_one l u h
theorem fl_seg : ∀ (l : List S43) (j : Nat) (p : S43), l[j]? = some p → ((fl l).drop (j * 2)).take 2 = [.int .i64 p.f0, .int .i64 p.f1] := by
  intro l j p h
  rw [← fl_drop]
  obtain ⟨hj, rfl⟩ := List.getElem?_eq_some_iff.1 h
  rw [List.drop_eq_getElem_cons hj]
  rfl

theorem own43 {w : World} {base : Nat} {v : Value} {l : List S43} {ok : Nat → Prop} (h : Kd.R k43 43 w base ok v l) : w.ownsRow base 43 2 v l.length (fl l) := by
  obtain ⟨_, inner, ho, hr⟩ := h
  have e : inner = fl l := by
    apply List.ext_getElem?
    intro i
    have hl : inner.length = l.length * 2 := hr.1
    rcases Nat.lt_or_ge (i / 2) l.length with hj | hj
    · have h2 := k43_openM (hr.2 (i / 2) _ (List.getElem?_eq_getElem hj))
      have h3 := fl_seg l (i / 2) _ (List.getElem?_eq_getElem hj)
      have h4 : ((inner.drop (i / 2 * 2)).take 2)[i % 2]? = (((fl l).drop (i / 2 * 2)).take 2)[i % 2]? := by
        rw [h3]; exact congrArg (fun x : List Value => x[i % 2]?) h2
      rw [List.getElem?_take, List.getElem?_take, List.getElem?_drop, List.getElem?_drop, if_pos (by omega), if_pos (by omega), show i / 2 * 2 + i % 2 = i by omega] at h4
      exact h4
    · rw [List.getElem?_eq_none (by omega), List.getElem?_eq_none (by rw [fl_length]; omega)]
  rw [← e]; exact ho
theorem R43 {w : World} {base : Nat} {v : Value} {l : List S43} (h : w.ownsRow base 43 2 v l.length (fl l)) : Kd.R k43 43 w base (fun _ => True) v l :=
  ⟨fun _ _ => trivial, fl l, h, fl_length l, fun j p hp => by
    have := fl_seg l j p hp
    show k43.M w base _ p (((fl l).drop (j * 2)).take 2)
    rw [this]
    exact k43_mkM _ _ _ p⟩

theorem clear1 (W : World) (ty : TypeId) (b o c : Nat) (hc : ∀ j, j < 2 → (W.cell? ⟨b, o + j, none⟩).isSome = true) (hf : ∀ j, j < 2 → W.frozen? ⟨b, o + j, none⟩ = false) :
    (Builtin.clear_ #[22] ty #[.slice (some ⟨b, o, none⟩) 1 c]).run Try.prog W = .ok (.tuple #[]) (W.setCells b o [.int .i64 0, .int .i64 0]) := by
  obtain ⟨i0, hi, hz0, hz1, hz2⟩ := info_parts info43
  have hv : ∀ W : World, (zeroValue 43).run Try.prog W = .ok (.agg #[.int .i64 0, .int .i64 0]) W := fun W => by kernel_rfl
  have hzc : (Builtin.zeroCells (Value.agg #[.int .i64 0, .int .i64 0]).cells 1).toList = [.int .i64 0, .int .i64 0] := by kernel_rfl
  have hst := run_storeCells_cells (P := Try.prog) b o [.int .i64 0, .int .i64 0] 0 W (by simpa using hc) (by simpa using hf) (by intro v hv'; simp at hv'; subst hv'; rfl)
  simp only [Nat.add_zero] at hst
  simp [Builtin.clear_, run_underlying Try.underlying22, hv, hzc, hst]

theorem grown_setCells (W : World) (g o : Nat) (vs : List Value) : W.grownBy (W.setCells g o vs) (some g) := by
  obtain ⟨h1, h2, h3, h4⟩ := setCells_same g vs o W
  exact ⟨h1, h2, h3, by rw [h4]; exact Nat.le_refl _, fun k _ hk => setCells_far vs o k (fun e => hk (by rw [e]))⟩
theorem frozen_row {w : World} {g : Nat} {t : TypeId} {cs : Array Value} (h : w.heap[g]? = some (.cells cs t (0, 0))) (i : Nat) : w.frozen? ⟨g, i, none⟩ = false := blk_frozen h i

set_option maxHeartbeats 4000000 in
set_option maxRecDepth 100000 in
theorem delete43 (w : World) (base g cap : Nat) (l : List S43) (k : Nat) (hk : k < l.length) (hle : l.length ≤ 12) (hown : w.ownsRow base 43 2 (.slice (some ⟨g, 0, none⟩) l.length cap) l.length (fl l)) :
    Calls Try.prog 114 #[.slice (some ⟨g, 0, none⟩) l.length cap, .int .i64 k, .int .i64 (k + 1)] w fun e w' => e = .returned (.slice (some ⟨g, 0, none⟩) (k + (l.length - (k + 1))) cap) ∧
      w'.ownsRow base 43 2 (.slice (some ⟨g, 0, none⟩) (l.eraseIdx k).length cap) (l.eraseIdx k).length (fl (l.eraseIdx k)) ∧ Below base w w' := by
  have hu43 := Try.underlying43
  obtain ⟨i0, hi0, _, hz1, _⟩ := info_parts info43
  obtain ⟨hlen0, h2⟩ := hown
  obtain ⟨cur, hbase, hcur, hnc, hcm, hcs, htk⟩ : ∃ cur, base ≤ g ∧ w.heap[g]? = some (.cells cur 43 (0, 0)) ∧ l.length ≤ cap ∧ cap ≤ maxLen ∧ cur.size = cap * 2 ∧ cur.toList.take (l.length * 2) = fl l := by
    rcases h2 with ⟨he, _⟩ | ⟨g', cap', cur, he, h3, h4, h5, h6, h7, h8⟩
    · cases he
    · cases he
      exact ⟨cur, h3, h4, h5, h6, h7, h8⟩
  clear h2 hlen0
  have hcmax : cap ≤ 9223372036854775807 := hcm
  have hcl : ∀ (t : Nat) (u : Value), (fl l)[t]? = some u → cur[t]? = some u := by
    intro t u hu
    have ht : t < l.length * 2 := by
      have := (List.getElem?_eq_some_iff.1 hu).1
      rwa [fl_length] at this
    rw [← htk, List.getElem?_take, if_pos ht, Array.getElem?_toList] at hu
    exact hu
  obtain ⟨news, hnews⟩ : ∃ news, news = fl (l.drop (k + 1)) := ⟨_, rfl⟩
  have hlen : news.length = (l.length - (k + 1)) * 2 := by rw [hnews, fl_length, List.length_drop]
  obtain ⟨A, hA, hsrc⟩ : ∃ A : Addr, (if cap = k + 1 then (some (⟨g, 0, none⟩ : Addr)) else some ⟨g, (k + 1) * 2, none⟩) = some A ∧ Aside0 (∀ (t : Nat) (u : Value), news[t]? = some u → w.drew.cell? (A.add t) = some u) := by
    by_cases h : cap = k + 1
    · refine ⟨⟨g, 0, none⟩, by simp [h], ⟨fun t u hu => ?_⟩⟩
      have h0 : news.length = 0 := by rw [hlen]; omega
      rw [List.length_eq_zero_iff.1 h0] at hu
      simp at hu
    · refine ⟨⟨g, (k + 1) * 2, none⟩, by simp [h], ⟨fun t u hu => ?_⟩⟩
      rw [hnews, fl_drop, List.getElem?_drop] at hu
      rw [add_at]
      exact (blk_cell hcur _).trans (hcl _ _ hu)
  have s1 : Aside0 (news.length = (l.length - (k + 1)) * 2) := ⟨hlen⟩
  have s2 : Aside0 (∀ u ∈ news, u.oneCell' = true) := ⟨by rw [hnews]; exact fl_one _⟩
  have s3 : Aside0 (∀ t, t < news.length → (w.drew.cell? ⟨g, 0 + k * 2 + t, none⟩).isSome = true ∧ w.drew.frozen? ⟨g, 0 + k * 2 + t, none⟩ = false) := by
    refine ⟨fun t ht => ?_⟩
    rw [hlen] at ht
    refine ⟨?_, blk_frozen hcur _⟩
    have : w.drew.cell? ⟨g, 0 + k * 2 + t, none⟩ = cur[0 + k * 2 + t]? := blk_cell hcur _
    rw [this, Array.getElem?_eq_getElem (by omega)]
    rfl
  obtain ⟨W1, hW1⟩ : ∃ W1, W1 = w.drew.setCells g (0 + k * 2) news := ⟨_, rfl⟩
  obtain ⟨cur1, hc1, hs1, ht1⟩ := setCells_row news (0 + k * 2) w.drew cur hcur (by rw [hlen]; omega)
  have hg1 := grown_setCells w.drew g (0 + k * 2) news
  rw [← hW1] at hc1 hg1
  have hclr : ∀ ty, (Builtin.clear_ #[22] ty #[.slice (some ⟨g, (k + (l.length - (k + 1))) * 2, none⟩) (l.length - (k + (l.length - (k + 1)))) (cap - (k + (l.length - (k + 1))))]).run Try.prog W1 = .ok (.tuple #[]) (W1.setCells g ((k + (l.length - (k + 1))) * 2) [.int .i64 0, .int .i64 0]) := by
    intro ty
    rw [show l.length - (k + (l.length - (k + 1))) = 1 by omega]
    refine clear1 W1 ty g _ _ (fun j hj => ?_) (fun j _ => blk_frozen hc1 _)
    rw [blk_cell hc1, Array.getElem?_eq_getElem (by omega)]
    rfl
  have X : Aside0 (Below base w (W1.setCells g ((k + (l.length - (k + 1))) * 2) [.int .i64 0, .int .i64 0]) ∧ (W1.setCells g ((k + (l.length - (k + 1))) * 2) [.int .i64 0, .int .i64 0]).ownsRow base 43 2 (.slice (some ⟨g, 0, none⟩) (l.eraseIdx k).length cap) (l.eraseIdx k).length (fl (l.eraseIdx k))) := by
    obtain ⟨cur2, hc2, hs2, ht2⟩ := setCells_row [.int .i64 0, .int .i64 0] ((k + (l.length - (k + 1))) * 2) W1 cur1 hc1 (by simp only [List.length_cons, List.length_nil]; omega)
    have hg2 := grown_setCells W1 g ((k + (l.length - (k + 1))) * 2) [.int .i64 0, .int .i64 0]
    have hle' : (l.eraseIdx k).length = k + (l.length - (k + 1)) := by rw [List.length_eraseIdx, if_pos hk]; omega
    have hblk := blk_lt hcur
    refine ⟨⟨⟨hg2.os.trans hg1.os, hg2.tape.trans hg1.tape, hg2.output.trans hg1.output, Nat.le_trans hg1.size hg2.size, fun i hi => ?_⟩, fl_length _, .inr ⟨g, cap, cur2, rfl, hbase, hc2, by omega, hcm, by omega, ?_⟩⟩⟩
    · have hne : some i ≠ some g := by intro e; have := Option.some.inj e; omega
      have h1 := hg1.block i (show i < w.heap.size by omega) hne
      have h2 := hg2.block i (Nat.lt_of_lt_of_le (show i < w.heap.size by omega) hg1.size) hne
      exact h2.trans h1
    · have hA1 : cur.toList.take (0 + k * 2) = fl (l.take k) := by
        rw [fl_take, ← htk, List.take_take, Nat.zero_add, Nat.min_eq_left (by omega)]
      have hlA : (fl (l.take k)).length = k * 2 := by rw [fl_length, List.length_take]; omega
      rw [ht2, ht1, hA1, hle']
      have hl1 : (fl (l.take k) ++ news ++ List.drop (0 + k * 2 + news.length) cur.toList).length ≥ (k + (l.length - (k + 1))) * 2 := by
        rw [List.length_append, List.length_append, hlA, hlen]; omega
      have hl2 : (fl (l.take k) ++ news).length = (k + (l.length - (k + 1))) * 2 := by rw [List.length_append, hlA, hlen]; omega
      rw [List.append_assoc (List.take _ _), List.take_append_of_le_length (by rw [List.length_take]; omega), List.take_take, Nat.min_self, List.take_append_of_le_length (by omega), List.take_of_length_le (by omega), hnews, ← fl_append, ← List.eraseIdx_eq_take_drop_succ]
  have hW : Aside0 (W1 = w.drew.setCells g (0 + k * 2) news) := ⟨hW1⟩
  have hkc : k ≤ cap := by omega
  have hk1c : k + 1 ≤ cap := by omega
  have HI := Aside0.mk hi0
  have hq1 : (0 : Int) ≤ (k : Int) + 1 := by omega
  have hq2 : (k : Int) + 1 ≤ (l.length : Int) := by omega
  clear hW1 hg1 hc1 hs1 ht1 hcl hcur hcs htk hnews hlen hcm
  go_enter Try.func114, Try.ntmps114
  go_wp2_with fail
  go_region_law (refine step_append_room rfl (.tmp 22) (.tmp 25) 22 rfl 43 i0 2 Try.underlying22 HI.out hz1 g 0 k cap (by simp [Act.eval, Act.put]) A (l.length - (k + 1)) (cap - (k + 1)) news (by simp [Act.eval, Act.put]) s1.out hsrc.out s2.out (by omega) s3.out ?_; rw [← hW.out])
  go_wp2_with fail
  go_ret
  exact ⟨rfl, X.out.2, X.out.1⟩

set_option maxHeartbeats 4000000 in
set_option maxRecDepth 100000 in
theorem secret_without.calls (A0 : Option Addr) (c0 : Nat) (l0 : List (S43)) (a1 : Int) (r : List (S43)) (w : World) (hr0 : Kd.C k43 w A0 l0.length l0) (hc0 : l0.length ≤ c0) (h : secret_without.f l0 a1 = some r) :
    Calls Try.prog 100 #[.slice A0 l0.length c0, .int .i64 a1] w fun e w' => ∃ v0_ : Value, e = .returned (v0_) ∧ Kd.R k43 43 w' w.heap.size (fun _ => True) v0_ r ∧ Below w.heap.size w w' := by
  unfold secret_without.f at h
  split at h
  · rename_i hg
    obtain ⟨hle, h0, h1⟩ := hg
    obtain ⟨k, rfl⟩ := Int.eq_ofNat_of_zero_le h0
    have hk : k < l0.length := by omega
    simp only [Int.toNat_natCast] at h
    obtain rfl := Option.some.inj h
    clear h h0 h1
    have HCL := Aside0.mk (api_Part_93.calls A0 c0 l0 l0 w hr0 hc0 (by unfold api_Part_93.f; rw [if_pos hle]))
    clear hr0 hc0
    go_enter Try.func100, Try.ntmps100
    go_wp2_with fail
    with_reducible refine HCL.out.mono ?_
    rintro e w1 ⟨v0, rfl, hR, hb⟩
    obtain ⟨g, cap, hv⟩ : ∃ g cap, v0 = .slice (some ⟨g, 0, none⟩) l0.length cap := by
      rcases (own43 hR).2 with ⟨_, h0⟩ | ⟨g, cap, _, rfl, _⟩
      · omega
      · exact ⟨g, cap, rfl⟩
    subst hv
    have HD := Aside0.mk (delete43 w1 w.heap.size g cap l0 k hk hle (own43 hR))
    have HB := Aside0.mk hb
    clear hR hb
    go_wp2_with fail
    with_reducible refine HD.out.mono ?_
    rintro e w2 ⟨rfl, ho2, hb2⟩
    have HO2 := Aside0.mk ho2
    have HB2 := Aside0.mk hb2
    clear ho2 hb2
    have HL : Aside0 ((l0.eraseIdx k).length = k + (l0.length - (k + 1))) := ⟨by rw [List.length_eraseIdx, if_pos hk]; omega⟩
    go_wp2_with fail
    go_ret
    refine ⟨_, rfl, ?_, HB.out.trans HB2.out⟩
    have := R43 HO2.out
    rw [HL.out] at this
    exact this
  · cases h
end Go.Proofs.Ythlbjdiicmojfaa.P

/-! Part H62. -/
namespace Go.Proofs.Ythlbjdiicmojfaa.P
open Go.RowKit Go.Proofs.YthlbjdiicmojfaaW.PrintWords Go.Proofs.YthlbjdiicmojfaaW.PrintLast Go.Proofs.YthlbjdiicmojfaaW.PrintMore
set_option linter.unusedVariables false

set_option maxHeartbeats 2000000 in
set_option maxRecDepth 100000 in
theorem same99 (x y a : Int) (B : Nat) (w : World) (hB : w.heap[B]? = some (.cells #[.int .i64 a] 3 (0, 0))) :
    Calls Try.prog 99 #[.agg #[.int .i64 x, .int .i64 y], .pointer (some ⟨B, 0, none⟩)] w fun e w' => e = .returned (.bool (x == a)) ∧ Below w.heap.size w w' := by
  have hu43 := Try.underlying43
  have hc1 : (w.alloc (.cells #[.int .i64 x, .int .i64 y] 43)).cell? ⟨B, 0, none⟩ = some (.int .i64 a) := pw_cell_below (below_alloc (Below.refl _ _) _) (blk_cell hB 0)
  clear hB
  go_enter Try.func99, Try.ntmps99
  go_wp2_with fail
  go_ret
  exact ⟨rfl, below_alloc (Below.refl _ _) _⟩
theorem predB_drewN {α : Type} {g : Nat} {lb : Array Value} {enc : α → Value} {p : α → Bool} {xs : List α} {w : World} (h : PredB g lb enc p xs w) (n : Nat) : PredB g lb enc p xs (w.drewN n) := by
  unfold PredB at h ⊢
  exact fun W x hx hb => h W x hx ⟨hb.os, hb.tape, hb.output, hb.size, hb.block⟩
theorem eg99 : ∀ args w, (callFunc 99 args).run Try.prog w = .ok (.enter 99 args) w := enters_of Try.func99 (by kernel_rfl) rfl

set_option maxHeartbeats 4000000 in
set_option maxRecDepth 100000 in
theorem secret_Without.calls (A0 : Option Addr) (c0 : Nat) (l0 : List (S43)) (a1 : Int) (r1 : List (S43)) (r2 : Int) (w : World) (hr0 : Kd.C k43 w A0 l0.length l0) (hc0 : l0.length ≤ c0) (h : secret_Without.f l0 a1 = some (r1, r2)) :
    Calls Try.prog 62 #[.slice A0 l0.length c0, .int .i64 a1] w fun e w' => ∃ v0_ : Value, e = .returned (.tuple #[v0_, .int .i64 r2]) ∧ Kd.R k43 43 w' w.heap.size (fun _ => True) v0_ r1 ∧ Below w.heap.size w w' := by
  have hB0 := below_alloc (Below.refl w.heap.size w) (.cells #[.int .i64 a1] 3)
  have hnew := (alloc_new w (.cells #[.int .i64 a1] 3)).2
  have HR0 := Aside0.mk (Kd.C_alloc hr0 (.cells #[.int .i64 a1] 3))
  have HV := Aside0.mk (secret_Validate.calls A0 c0 l0 (valid l0) _ HR0.out hc0 rfl)
  have HN := Aside0.mk (isNumber_eq a1)
  have HC0 := Aside0.mk hc0
  have HB0 := Aside0.mk hB0
  have HNEW := Aside0.mk hnew
  have hu43 := Try.underlying43
  clear hB0 hnew hr0
  unfold secret_Without.f at h
  split at h
  · rename_i hv
    obtain ⟨hlen, hok, _⟩ := valid_iff.1 hv
    rw [hv] at HV
    clear hok hv
    cases hz : (a1 == 0) with
    | true =>
      have hz0 := beq_iff_eq.1 hz
      rw [if_neg (by omega)] at h
      simp only [Option.some.injEq, Prod.mk.injEq] at h
      obtain ⟨rfl, rfl⟩ := h
      clear hc0 hz0
      go_enter Try.func62, Try.ntmps62
      go_wp2_with fail
      with_reducible refine HV.out.mono ?_
      rintro e w1 ⟨rfl, hb⟩
      have hx : w1.cell? ⟨w.heap.size, 0, none⟩ = some (.int .i64 a1) := pw_cell_below hb (blk_cell HNEW.out 0)
      have HB1 := Aside0.mk (below_step HB0.out hb)
      clear hb
      go_wp2_with fail
      go_ret2
      exact ⟨_, rfl, Kd.R_nil _ _ _ _ _, HB1.out⟩
    | false =>
      have hz0 : a1 ≠ 0 := by simpa using hz
      cases hn : num a1 with
      | false =>
        have hn0 : ¬ (1 ≤ a1 ∧ a1 ≤ 250) := by intro h'; have := num_iff.2 (show 0 ≤ a1 ∧ a1 ≤ 250 by omega); rw [hn] at this; cases this
        rw [if_neg hn0] at h
        rw [hn] at HN
        simp only [Option.some.injEq, Prod.mk.injEq] at h
        obtain ⟨rfl, rfl⟩ := h
        clear hc0 hz0 hn hn0
        go_enter Try.func62, Try.ntmps62
        go_wp2_with fail
        with_reducible refine HV.out.mono ?_
        rintro e w1 ⟨rfl, hb⟩
        have hx : w1.cell? ⟨w.heap.size, 0, none⟩ = some (.int .i64 a1) := pw_cell_below hb (blk_cell HNEW.out 0)
        have HB1 := Aside0.mk (below_step HB0.out hb)
        clear hb
        go_wp2_with fail
        with_reducible refine (secret_isNumber.calls _ _ _ HN.out).mono ?_
        rintro e w' ⟨rfl, ⟨nd, rfl⟩⟩
        go_wp2_with fail
        go_ret2
        exact ⟨_, rfl, Kd.R_nil _ _ _ _ _, pw_below_drewN HB1.out _⟩
      | true =>
        have hn0 := num_iff.1 hn
        rw [if_pos (by omega)] at h
        rw [hn] at HN
        clear hn hz0
        have hpred : ∀ W, Below (w.alloc (.cells #[.int .i64 a1] 3)).heap.size (w.alloc (.cells #[.int .i64 a1] 3)) W → PredB 99 #[.pointer (some ⟨w.heap.size, 0, none⟩)] enc43 (fun q => q.f0 == a1) l0 W := fun W hW W' q hq hb =>
          same99 q.f0 q.f1 a1 w.heap.size W' ((hb.block w.heap.size (Nat.lt_of_lt_of_le (alloc_new w _).1 hW.size)).trans ((hW.block w.heap.size (alloc_new w _).1).trans HNEW.out))
        have HP := Aside0.mk hpred
        clear hpred
        by_cases hf : l0.findIdx (fun p => p.f0 == a1) < l0.length
        · rw [if_pos hf] at h
          simp only [Option.some.injEq, Prod.mk.injEq] at h
          obtain ⟨hr, rfl⟩ := h
          have HR := Aside0.mk hr
          have hi : idxI (fun q : S43 => q.f0 == a1) l0 = (l0.findIdx (fun p => p.f0 == a1) : Int) := by unfold idxI; rw [if_pos hf]
          have HI := Aside0.mk hi
          obtain ⟨k, hk⟩ : ∃ k, l0.findIdx (fun p => p.f0 == a1) = k := ⟨_, rfl⟩
          rw [hk] at HI HR hf
          clear hr hi hk hc0
          go_enter Try.func62, Try.ntmps62
          go_wp2_with fail
          with_reducible refine HV.out.mono ?_
          rintro e w1 ⟨rfl, hb⟩
          have hx : w1.cell? ⟨w.heap.size, 0, none⟩ = some (.int .i64 a1) := pw_cell_below hb (blk_cell HNEW.out 0)
          have HB1 := Aside0.mk (below_step HB0.out hb)
          have HR1 := Aside0.mk (Kd.C_below HR0.out hb)
          have HP1 := Aside0.mk (HP.out w1 hb)
          clear hb
          go_wp2_with fail
          with_reducible refine (secret_isNumber.calls _ _ _ HN.out).mono ?_
          rintro e w' ⟨rfl, ⟨nd, rfl⟩⟩
          clear hx
          go_wp2_with fail
          with_reducible refine (index43 A0 c0 l0 99 _ _ eg99 _ (Kd.C_drewN HR1.out nd) (predB_drewN HP1.out nd)).mono ?_
          rw [HI.out]
          rintro e w2 ⟨rfl, hb2⟩
          have HB2 := Aside0.mk (below_step (pw_below_drewN HB1.out nd) hb2)
          have HR2 := Aside0.mk (Kd.C_below (Kd.C_drewN HR1.out nd) hb2)
          have hk0 : (0 : Int) ≤ (k : Int) := by omega
          clear hb2
          go_wp2_with fail
          with_reducible refine (secret_without.calls A0 c0 l0 (k : Int) (l0.eraseIdx k) _ HR2.out HC0.out (by unfold secret_without.f; rw [if_pos (by omega), Int.toNat_natCast])).mono ?_
          rintro e w3 ⟨v3, rfl, ho3, hb3⟩
          have HO3 := Aside0.mk (Kd.R_lower ho3 (below_size HB2.out))
          have HB3 := Aside0.mk (below_step HB2.out hb3)
          clear ho3 hb3
          go_wp2_with fail
          go_ret2
          exact ⟨_, rfl, by rw [← HR.out]; exact HO3.out, HB3.out⟩
        · rw [if_neg hf] at h
          simp only [Option.some.injEq, Prod.mk.injEq] at h
          obtain ⟨rfl, rfl⟩ := h
          have hi : idxI (fun q : S43 => q.f0 == a1) l0 = -1 := by unfold idxI; rw [if_neg hf]
          have HI := Aside0.mk hi
          clear hi hf hc0
          go_enter Try.func62, Try.ntmps62
          go_wp2_with fail
          with_reducible refine HV.out.mono ?_
          rintro e w1 ⟨rfl, hb⟩
          have hx : w1.cell? ⟨w.heap.size, 0, none⟩ = some (.int .i64 a1) := pw_cell_below hb (blk_cell HNEW.out 0)
          have HB1 := Aside0.mk (below_step HB0.out hb)
          have HR1 := Aside0.mk (Kd.C_below HR0.out hb)
          have HP1 := Aside0.mk (HP.out w1 hb)
          clear hb
          go_wp2_with fail
          with_reducible refine (secret_isNumber.calls _ _ _ HN.out).mono ?_
          rintro e w' ⟨rfl, ⟨nd, rfl⟩⟩
          clear hx
          go_wp2_with fail
          with_reducible refine (index43 A0 c0 l0 99 _ _ eg99 _ (Kd.C_drewN HR1.out nd) (predB_drewN HP1.out nd)).mono ?_
          rw [HI.out]
          rintro e w2 ⟨rfl, hb2⟩
          have HB2 := Aside0.mk (below_step (pw_below_drewN HB1.out nd) hb2)
          clear hb2
          go_wp2_with fail
          go_ret2
          exact ⟨_, rfl, Kd.R_nil _ _ _ _ _, HB2.out⟩
  · rename_i hv
    simp only [Option.some.injEq, Prod.mk.injEq] at h
    obtain ⟨rfl, rfl⟩ := h
    have hv1 : (valid l0 == 0) = false := by simpa using hv
    have hv2 : (valid l0 != 0) = true := by simpa using hv
    obtain ⟨vv, hvv⟩ : ∃ vv, valid l0 = vv := ⟨_, rfl⟩
    rw [hvv] at HV hv1 hv2 ⊢
    clear hc0 hv hvv
    go_enter Try.func62, Try.ntmps62
    go_wp2_with fail
    with_reducible refine HV.out.mono ?_
    rintro e w1 ⟨rfl, hb⟩
    have HB1 := Aside0.mk (below_step HB0.out hb)
    clear hb
    go_wp2_with fail
    go_ret2
    exact ⟨_, rfl, Kd.R_nil _ _ _ _ _, HB1.out⟩
end Go.Proofs.Ythlbjdiicmojfaa.P

/-! Part PF31. -/
-- Written for this claim by wip/print_more.py (a session's program that runs the kit's printer with hand-proved functions beside). Lean checks it.
namespace Go.Proofs.Ythlbjdiicmojfaa.P
open Go.RowKit Go.Proofs.YthlbjdiicmojfaaW.PrintWords Go.Proofs.YthlbjdiicmojfaaW.PrintLast Go.Proofs.YthlbjdiicmojfaaW.PrintMore
attribute [local go_sem] max2_int min2_int max_two min_two max_three min_three max_four min_four   -- for this text's walks alone
set_option linter.unusedVariables false
set_option linter.unusedSimpArgs false

/-! ### verditerlaw08_secretWithout: function 31 -/
def verditerlaw08_secretWithout.f (k : Nat) (l0 : List (S43)) (a1 : Int) : Option (Bool) := (verditerlaw08_Long.f l0).bind fun t458 => (if t458 = true then ((verditerlaw08_known.f k).bind fun t459 => (some t459)) else ((verditerref08_Without.f k l0 a1).bind fun bt460 => ((secret_Without.f l0 a1).bind fun bt464 => (if bt464.2 = bt460.2 then ((verditerref08_Same.f k bt464.1 bt460.1).bind fun t468 => (if t468 = true then ((verditerlaw08_known.f k).bind fun t469 => (some t469)) else (some false))) else (some false)))))
theorem verditerlaw08_secretWithout.mono : ∀ a0 a1 k, LeO (verditerlaw08_secretWithout.f k a0 a1) (verditerlaw08_secretWithout.f (k + 1) a0 a1) := by
  intro a0 a1 k
  unfold verditerlaw08_secretWithout.f
  repeat' first
      | (with_reducible exact verditerlaw08_known.mono _)
      | (with_reducible exact verditerref08_Same.mono _ _ _)
      | (with_reducible exact verditerref08_Without.mono _ _ _)
      | (with_reducible exact LeO.refl _)
      | (with_reducible exact LeO.none _)
      | (with_reducible refine LeO.ite ?_ ?_)
      | (with_reducible refine LeO.bind ?_ (fun _ => ?_))
      | exact verditerlaw08_known.mono _
      | exact verditerref08_Same.mono _ _ _
      | exact verditerref08_Without.mono _ _ _
      | exact LeO.none _
      | refine LeO.ite ?_ ?_
      | refine LeO.bind ?_ (fun _ => ?_)
set_option maxHeartbeats 8000000 in
set_option maxRecDepth 100000 in
theorem verditerlaw08_secretWithout.calls (k : Nat) (A0 : Option Addr) (c0 : Nat) (l0 : List (S43)) (a1 : Int) (r : Bool) (w : World) (hr0 : Kd.C k43 w A0 l0.length l0) (hc0 : l0.length ≤ c0) (h : verditerlaw08_secretWithout.f k l0 a1 = some r) :
    Calls Try.prog 31 #[.slice A0 l0.length c0, .int .i64 a1] w fun e w' => e = .returned (.bool r) ∧ Below w.heap.size w w' := by
  have HR0 := Aside0.mk hr0
  have HC0 := Aside0.mk hc0
  clear hr0 hc0
  have HB := Aside0.mk (Below.refl w.heap.size w)
  have H : ((verditerlaw08_Long.f l0).bind fun t458 => (if t458 = true then ((verditerlaw08_known.f k).bind fun t459 => (some t459)) else ((verditerref08_Without.f k l0 a1).bind fun bt460 => ((secret_Without.f l0 a1).bind fun bt464 => (if bt464.2 = bt460.2 then ((verditerref08_Same.f k bt464.1 bt460.1).bind fun t468 => (if t468 = true then ((verditerlaw08_known.f k).bind fun t469 => (some t469)) else (some false))) else (some false)))))) = some r := h
  clear h
  replace H := Option.bind_eq_some_iff.mp H
  obtain ⟨t458, A30, H⟩ := H
  replace H : (if t458 = true then ((verditerlaw08_known.f k).bind fun t459 => (some t459)) else ((verditerref08_Without.f k l0 a1).bind fun bt460 => ((secret_Without.f l0 a1).bind fun bt464 => (if bt464.2 = bt460.2 then ((verditerref08_Same.f k bt464.1 bt460.1).bind fun t468 => (if t468 = true then ((verditerlaw08_known.f k).bind fun t469 => (some t469)) else (some false))) else (some false))))) = some r := H
  have A3 := Aside0.mk A30
  clear A30
  by_cases c4 : t458 = true
  · subst c4
    have H1 : ((verditerlaw08_known.f k).bind fun t459 => (some t459)) = some r := by rw [if_pos rfl] at H; exact H
    clear H
    have H := H1
    clear H1
    replace H := Option.bind_eq_some_iff.mp H
    obtain ⟨t459, A50, H⟩ := H
    replace H : (some t459) = some r := H
    have A5 := Aside0.mk A50
    clear A50
    obtain rfl := Option.some.inj H
    go_enter Try.func31, Try.ntmps31
    go_wp2_with (first | ((with_reducible refine gate_callee (f := 39) rfl ?_); refine goesL_ (some 10) rfl rfl Try.func39 (by kernel_rfl) rfl #[.slice A0 l0.length c0] rfl (by (try simp only [List.map_toArray, List.map_cons, List.map_nil]); first | done | rfl | (simp only [List.length_drop, List.length_take]; rfl)) ?_; (with_reducible refine (verditerlaw08_Long.calls _ _ l0 true _ ?side1 ?side2 A3.out).mono ?_); (case side1 => repeat (first | exact HR0.out | (with_reducible refine Kd.C_alloc ?_ _) | (with_reducible refine Kd.C_drewN ?_ _) | (with_reducible refine Kd.C_drew ?_))); (case side2 => exact HC0.out); rintro e w' ⟨rfl, ⟨nd, rfl⟩⟩; refine ⟨_, rfl, ?_⟩) | ((with_reducible refine gate_callee (f := 40) rfl ?_); refine goesL_ (some 11) rfl rfl Try.func40 (by kernel_rfl) rfl #[] rfl (by (try simp only [List.map_toArray, List.map_cons, List.map_nil]); first | done | rfl | (simp only [List.length_drop, List.length_take]; rfl)) ?_; (with_reducible refine (verditerlaw08_known.calls k  t459 _ A5.out).mono ?_); rintro e w6 ⟨rfl, hb⟩; refine ⟨_, rfl, ?_⟩; have n0_ := Aside0.mk (below_step (by repeat (first | (with_reducible first | exact HB.out | apply below_alloc | apply pw_below_drewN | apply below_drew1) | exact HB.out)) hb); clear HB; have HB := n0_; clear n0_; (try clear hb); (try clear hb2); (try clear hk); (try clear hi)))
    go_ret
    exact ⟨by first | rfl | (simp [errW_none, errW_some] <;> rfl) | (simp [*, errW_none, errW_some] <;> rfl), by repeat (first | (with_reducible first | exact HB.out | apply below_alloc | apply pw_below_drewN | apply below_drew1) | exact HB.out)⟩
  · replace c4 := Bool.eq_false_iff.mpr c4
    subst c4
    have H1 : ((verditerref08_Without.f k l0 a1).bind fun bt460 => ((secret_Without.f l0 a1).bind fun bt464 => (if bt464.2 = bt460.2 then ((verditerref08_Same.f k bt464.1 bt460.1).bind fun t468 => (if t468 = true then ((verditerlaw08_known.f k).bind fun t469 => (some t469)) else (some false))) else (some false)))) = some r := by rw [if_neg (show ¬ (false = true) by decide)] at H; exact H
    clear H
    have H := H1
    clear H1
    replace H := Option.bind_eq_some_iff.mp H
    obtain ⟨⟨t460, t461⟩, A70, H⟩ := H
    replace H : ((secret_Without.f l0 a1).bind fun bt464 => (if bt464.2 = t461 then ((verditerref08_Same.f k bt464.1 t460).bind fun t468 => (if t468 = true then ((verditerlaw08_known.f k).bind fun t469 => (some t469)) else (some false))) else (some false))) = some r := H
    have A7 := Aside0.mk A70
    clear A70
    replace H := Option.bind_eq_some_iff.mp H
    obtain ⟨⟨t464, t465⟩, A80, H⟩ := H
    replace H : (if t465 = t461 then ((verditerref08_Same.f k t464 t460).bind fun t468 => (if t468 = true then ((verditerlaw08_known.f k).bind fun t469 => (some t469)) else (some false))) else (some false)) = some r := H
    have A8 := Aside0.mk A80
    clear A80
    by_cases c9 : t465 = t461
    · rw [if_pos c9] at H
      have c9b0 : (t465 == t461) = true := beq_iff_eq.mpr c9
      have c9b1 : (t465 != t461) = false := bne_eq_false_iff_eq.mpr c9
      clear c9
      replace H := Option.bind_eq_some_iff.mp H
      obtain ⟨t468, A100, H⟩ := H
      replace H : (if t468 = true then ((verditerlaw08_known.f k).bind fun t469 => (some t469)) else (some false)) = some r := H
      have A10 := Aside0.mk A100
      clear A100
      by_cases c11 : t468 = true
      · subst c11
        have H1 : ((verditerlaw08_known.f k).bind fun t469 => (some t469)) = some r := by rw [if_pos rfl] at H; exact H
        clear H
        have H := H1
        clear H1
        replace H := Option.bind_eq_some_iff.mp H
        obtain ⟨t469, A120, H⟩ := H
        replace H : (some t469) = some r := H
        have A12 := Aside0.mk A120
        clear A120
        obtain rfl := Option.some.inj H
        go_enter Try.func31, Try.ntmps31
        go_wp2_with (first | ((with_reducible refine gate_callee (f := 39) rfl ?_); refine goesL_ (some 10) rfl rfl Try.func39 (by kernel_rfl) rfl #[.slice A0 l0.length c0] rfl (by (try simp only [List.map_toArray, List.map_cons, List.map_nil]); first | done | rfl | (simp only [List.length_drop, List.length_take]; rfl)) ?_; (with_reducible refine (verditerlaw08_Long.calls _ _ l0 false _ ?side1 ?side2 A3.out).mono ?_); (case side1 => repeat (first | exact HR0.out | (with_reducible refine Kd.C_alloc ?_ _) | (with_reducible refine Kd.C_drewN ?_ _) | (with_reducible refine Kd.C_drew ?_))); (case side2 => exact HC0.out); rintro e w' ⟨rfl, ⟨nd, rfl⟩⟩; refine ⟨_, rfl, ?_⟩) | ((with_reducible refine gate_callee (f := 61) rfl ?_); refine goesL_ (some 15) rfl rfl Try.func61 (by kernel_rfl) rfl #[.slice A0 l0.length c0, .int .i64 a1] rfl (by (try simp only [List.map_toArray, List.map_cons, List.map_nil]); first | done | rfl | (simp only [List.length_drop, List.length_take]; rfl)) ?_; (with_reducible refine (verditerref08_Without.calls k _ _ l0 a1 t460 t461 _ ?side1 ?side2 A7.out).mono ?_); (case side1 => repeat (first | exact HR0.out | (with_reducible refine Kd.C_alloc ?_ _) | (with_reducible refine Kd.C_drewN ?_ _) | (with_reducible refine Kd.C_drew ?_))); (case side2 => exact HC0.out); rintro e w13 ⟨v462, rfl, ho0, hb⟩; refine ⟨_, rfl, ?_⟩; have n0_ := Aside0.mk (Kd.R_lower ho0 (below_size (by repeat (first | (with_reducible first | exact HB.out | apply below_alloc | apply pw_below_drewN | apply below_drew1) | exact HB.out)))); have n1_ := Aside0.mk (below_step (by repeat (first | (with_reducible first | exact HB.out | apply below_alloc | apply pw_below_drewN | apply below_drew1) | exact HB.out)) hb); clear HB; have HO463 := n0_; have HB := n1_; clear n0_ n1_; (try clear hb); (try clear hb2); (try clear hk); (try clear hi); (try clear ho0)) | ((with_reducible refine gate_callee (f := 62) rfl ?_); refine goesL_ (some 21) rfl rfl Try.func62 (by kernel_rfl) rfl #[.slice A0 l0.length c0, .int .i64 a1] rfl (by (try simp only [List.map_toArray, List.map_cons, List.map_nil]); first | done | rfl | (simp only [List.length_drop, List.length_take]; rfl)) ?_; (with_reducible refine (secret_Without.calls _ _ l0 a1 t464 t465 _ ?side1 ?side2 A8.out).mono ?_); (case side1 => repeat (first | exact (Kd.C_below HR0.out HB.out) | (with_reducible refine Kd.C_alloc ?_ _) | (with_reducible refine Kd.C_drewN ?_ _) | (with_reducible refine Kd.C_drew ?_))); (case side2 => exact HC0.out); rintro e w14 ⟨v466, rfl, ho0, hb⟩; refine ⟨_, rfl, ?_⟩; have n0_ := Aside0.mk (Kd.R_elder' (by (with_reducible repeat (first | apply Kd.R_alloc | apply Kd.R_drewN | apply Kd.R_drew)); exact HO463.out) (Kd.R_base ho0) hb); have n1_ := Aside0.mk (Kd.R_lower (Kd.R_new' ho0 (Kd.R_lt (by (with_reducible repeat (first | apply Kd.R_alloc | apply Kd.R_drewN | apply Kd.R_drew)); exact HO463.out))) (below_size (by repeat (first | (with_reducible first | exact HB.out | apply below_alloc | apply pw_below_drewN | apply below_drew1) | exact HB.out)))); have n2_ := Aside0.mk (below_step (by repeat (first | (with_reducible first | exact HB.out | apply below_alloc | apply pw_below_drewN | apply below_drew1) | exact HB.out)) hb); clear HO463; clear HB; have HO463 := n0_; have HO467 := n1_; have HB := n2_; clear n0_ n1_ n2_; (try clear hb); (try clear hb2); (try clear hk); (try clear hi); (try clear ho0); obtain ⟨Ao15, co15, eo15⟩ := Kd.R_slice HO467.out; subst eo15; obtain ⟨Ao16, co16, eo16⟩ := Kd.R_slice HO463.out; subst eo16) | (go_at_call 52; (with_reducible refine (verditerref08_Same.calls k _ _ t464 _ _ t460 true _ ?side1 ?side2 ?side3 ?side4 A10.out).mono ?_); (case side1 => repeat (first | exact (Kd.R_reads' HO467.out).2.2 | (with_reducible refine Kd.C_alloc ?_ _) | (with_reducible refine Kd.C_drewN ?_ _) | (with_reducible refine Kd.C_drew ?_))); (case side2 => exact (Kd.R_reads' HO467.out).2.1); (case side3 => repeat (first | exact (Kd.R_reads' HO463.out).2.2 | (with_reducible refine Kd.C_alloc ?_ _) | (with_reducible refine Kd.C_drewN ?_ _) | (with_reducible refine Kd.C_drew ?_))); (case side4 => exact (Kd.R_reads' HO463.out).2.1); rintro e w' ⟨rfl, ⟨nd, rfl⟩⟩) | (go_at_call 40; (with_reducible refine (verditerlaw08_known.calls k  t469 _ A12.out).mono ?_); rintro e w17 ⟨rfl, hb⟩; have n0_ := Aside0.mk (Kd.R_below (by (with_reducible repeat (first | apply Kd.R_alloc | apply Kd.R_drewN | apply Kd.R_drew)); exact HO463.out) hb); have n1_ := Aside0.mk (Kd.R_below (by (with_reducible repeat (first | apply Kd.R_alloc | apply Kd.R_drewN | apply Kd.R_drew)); exact HO467.out) hb); have n2_ := Aside0.mk (below_step (by repeat (first | (with_reducible first | exact HB.out | apply below_alloc | apply pw_below_drewN | apply below_drew1) | exact HB.out)) hb); clear HO463; clear HO467; clear HB; have HO463 := n0_; have HO467 := n1_; have HB := n2_; clear n0_ n1_ n2_; (try clear hb); (try clear hb2); (try clear hk); (try clear hi)))
        go_ret
        exact ⟨by first | rfl | (simp [errW_none, errW_some] <;> rfl) | (simp [*, errW_none, errW_some] <;> rfl), by repeat (first | (with_reducible first | exact HB.out | apply below_alloc | apply pw_below_drewN | apply below_drew1) | exact HB.out)⟩
      · replace c11 := Bool.eq_false_iff.mpr c11
        subst c11
        have H1 : (some false) = some r := by rw [if_neg (show ¬ (false = true) by decide)] at H; exact H
        clear H
        have H := H1
        clear H1
        obtain rfl := Option.some.inj H
        go_enter Try.func31, Try.ntmps31
        go_wp2_with (first | ((with_reducible refine gate_callee (f := 39) rfl ?_); refine goesL_ (some 10) rfl rfl Try.func39 (by kernel_rfl) rfl #[.slice A0 l0.length c0] rfl (by (try simp only [List.map_toArray, List.map_cons, List.map_nil]); first | done | rfl | (simp only [List.length_drop, List.length_take]; rfl)) ?_; (with_reducible refine (verditerlaw08_Long.calls _ _ l0 false _ ?side1 ?side2 A3.out).mono ?_); (case side1 => repeat (first | exact HR0.out | (with_reducible refine Kd.C_alloc ?_ _) | (with_reducible refine Kd.C_drewN ?_ _) | (with_reducible refine Kd.C_drew ?_))); (case side2 => exact HC0.out); rintro e w' ⟨rfl, ⟨nd, rfl⟩⟩; refine ⟨_, rfl, ?_⟩) | ((with_reducible refine gate_callee (f := 61) rfl ?_); refine goesL_ (some 15) rfl rfl Try.func61 (by kernel_rfl) rfl #[.slice A0 l0.length c0, .int .i64 a1] rfl (by (try simp only [List.map_toArray, List.map_cons, List.map_nil]); first | done | rfl | (simp only [List.length_drop, List.length_take]; rfl)) ?_; (with_reducible refine (verditerref08_Without.calls k _ _ l0 a1 t460 t461 _ ?side1 ?side2 A7.out).mono ?_); (case side1 => repeat (first | exact HR0.out | (with_reducible refine Kd.C_alloc ?_ _) | (with_reducible refine Kd.C_drewN ?_ _) | (with_reducible refine Kd.C_drew ?_))); (case side2 => exact HC0.out); rintro e w18 ⟨v462, rfl, ho0, hb⟩; refine ⟨_, rfl, ?_⟩; have n0_ := Aside0.mk (Kd.R_lower ho0 (below_size (by repeat (first | (with_reducible first | exact HB.out | apply below_alloc | apply pw_below_drewN | apply below_drew1) | exact HB.out)))); have n1_ := Aside0.mk (below_step (by repeat (first | (with_reducible first | exact HB.out | apply below_alloc | apply pw_below_drewN | apply below_drew1) | exact HB.out)) hb); clear HB; have HO463 := n0_; have HB := n1_; clear n0_ n1_; (try clear hb); (try clear hb2); (try clear hk); (try clear hi); (try clear ho0)) | ((with_reducible refine gate_callee (f := 62) rfl ?_); refine goesL_ (some 21) rfl rfl Try.func62 (by kernel_rfl) rfl #[.slice A0 l0.length c0, .int .i64 a1] rfl (by (try simp only [List.map_toArray, List.map_cons, List.map_nil]); first | done | rfl | (simp only [List.length_drop, List.length_take]; rfl)) ?_; (with_reducible refine (secret_Without.calls _ _ l0 a1 t464 t465 _ ?side1 ?side2 A8.out).mono ?_); (case side1 => repeat (first | exact (Kd.C_below HR0.out HB.out) | (with_reducible refine Kd.C_alloc ?_ _) | (with_reducible refine Kd.C_drewN ?_ _) | (with_reducible refine Kd.C_drew ?_))); (case side2 => exact HC0.out); rintro e w19 ⟨v466, rfl, ho0, hb⟩; refine ⟨_, rfl, ?_⟩; have n0_ := Aside0.mk (Kd.R_elder' (by (with_reducible repeat (first | apply Kd.R_alloc | apply Kd.R_drewN | apply Kd.R_drew)); exact HO463.out) (Kd.R_base ho0) hb); have n1_ := Aside0.mk (Kd.R_lower (Kd.R_new' ho0 (Kd.R_lt (by (with_reducible repeat (first | apply Kd.R_alloc | apply Kd.R_drewN | apply Kd.R_drew)); exact HO463.out))) (below_size (by repeat (first | (with_reducible first | exact HB.out | apply below_alloc | apply pw_below_drewN | apply below_drew1) | exact HB.out)))); have n2_ := Aside0.mk (below_step (by repeat (first | (with_reducible first | exact HB.out | apply below_alloc | apply pw_below_drewN | apply below_drew1) | exact HB.out)) hb); clear HO463; clear HB; have HO463 := n0_; have HO467 := n1_; have HB := n2_; clear n0_ n1_ n2_; (try clear hb); (try clear hb2); (try clear hk); (try clear hi); (try clear ho0); obtain ⟨Ao20, co20, eo20⟩ := Kd.R_slice HO467.out; subst eo20; obtain ⟨Ao21, co21, eo21⟩ := Kd.R_slice HO463.out; subst eo21) | (go_at_call 52; (with_reducible refine (verditerref08_Same.calls k _ _ t464 _ _ t460 false _ ?side1 ?side2 ?side3 ?side4 A10.out).mono ?_); (case side1 => repeat (first | exact (Kd.R_reads' HO467.out).2.2 | (with_reducible refine Kd.C_alloc ?_ _) | (with_reducible refine Kd.C_drewN ?_ _) | (with_reducible refine Kd.C_drew ?_))); (case side2 => exact (Kd.R_reads' HO467.out).2.1); (case side3 => repeat (first | exact (Kd.R_reads' HO463.out).2.2 | (with_reducible refine Kd.C_alloc ?_ _) | (with_reducible refine Kd.C_drewN ?_ _) | (with_reducible refine Kd.C_drew ?_))); (case side4 => exact (Kd.R_reads' HO463.out).2.1); rintro e w' ⟨rfl, ⟨nd, rfl⟩⟩))
        go_ret
        exact ⟨by first | rfl | (simp [errW_none, errW_some] <;> rfl) | (simp [*, errW_none, errW_some] <;> rfl), by repeat (first | (with_reducible first | exact HB.out | apply below_alloc | apply pw_below_drewN | apply below_drew1) | exact HB.out)⟩
    · rw [if_neg c9] at H
      have c9b0 : (t465 == t461) = false := beq_eq_false_iff_ne.mpr c9
      have c9b1 : (t465 != t461) = true := bne_iff_ne.mpr c9
      obtain rfl := Option.some.inj H
      go_enter Try.func31, Try.ntmps31
      go_wp2_with (first | ((with_reducible refine gate_callee (f := 39) rfl ?_); refine goesL_ (some 10) rfl rfl Try.func39 (by kernel_rfl) rfl #[.slice A0 l0.length c0] rfl (by (try simp only [List.map_toArray, List.map_cons, List.map_nil]); first | done | rfl | (simp only [List.length_drop, List.length_take]; rfl)) ?_; (with_reducible refine (verditerlaw08_Long.calls _ _ l0 false _ ?side1 ?side2 A3.out).mono ?_); (case side1 => repeat (first | exact HR0.out | (with_reducible refine Kd.C_alloc ?_ _) | (with_reducible refine Kd.C_drewN ?_ _) | (with_reducible refine Kd.C_drew ?_))); (case side2 => exact HC0.out); rintro e w' ⟨rfl, ⟨nd, rfl⟩⟩; refine ⟨_, rfl, ?_⟩) | ((with_reducible refine gate_callee (f := 61) rfl ?_); refine goesL_ (some 15) rfl rfl Try.func61 (by kernel_rfl) rfl #[.slice A0 l0.length c0, .int .i64 a1] rfl (by (try simp only [List.map_toArray, List.map_cons, List.map_nil]); first | done | rfl | (simp only [List.length_drop, List.length_take]; rfl)) ?_; (with_reducible refine (verditerref08_Without.calls k _ _ l0 a1 t460 t461 _ ?side1 ?side2 A7.out).mono ?_); (case side1 => repeat (first | exact HR0.out | (with_reducible refine Kd.C_alloc ?_ _) | (with_reducible refine Kd.C_drewN ?_ _) | (with_reducible refine Kd.C_drew ?_))); (case side2 => exact HC0.out); rintro e w22 ⟨v462, rfl, ho0, hb⟩; refine ⟨_, rfl, ?_⟩; have n0_ := Aside0.mk (Kd.R_lower ho0 (below_size (by repeat (first | (with_reducible first | exact HB.out | apply below_alloc | apply pw_below_drewN | apply below_drew1) | exact HB.out)))); have n1_ := Aside0.mk (below_step (by repeat (first | (with_reducible first | exact HB.out | apply below_alloc | apply pw_below_drewN | apply below_drew1) | exact HB.out)) hb); clear HB; have HO463 := n0_; have HB := n1_; clear n0_ n1_; (try clear hb); (try clear hb2); (try clear hk); (try clear hi); (try clear ho0)) | ((with_reducible refine gate_callee (f := 62) rfl ?_); refine goesL_ (some 21) rfl rfl Try.func62 (by kernel_rfl) rfl #[.slice A0 l0.length c0, .int .i64 a1] rfl (by (try simp only [List.map_toArray, List.map_cons, List.map_nil]); first | done | rfl | (simp only [List.length_drop, List.length_take]; rfl)) ?_; (with_reducible refine (secret_Without.calls _ _ l0 a1 t464 t465 _ ?side1 ?side2 A8.out).mono ?_); (case side1 => repeat (first | exact (Kd.C_below HR0.out HB.out) | (with_reducible refine Kd.C_alloc ?_ _) | (with_reducible refine Kd.C_drewN ?_ _) | (with_reducible refine Kd.C_drew ?_))); (case side2 => exact HC0.out); rintro e w23 ⟨v466, rfl, ho0, hb⟩; refine ⟨_, rfl, ?_⟩; have n0_ := Aside0.mk (Kd.R_elder' (by (with_reducible repeat (first | apply Kd.R_alloc | apply Kd.R_drewN | apply Kd.R_drew)); exact HO463.out) (Kd.R_base ho0) hb); have n1_ := Aside0.mk (Kd.R_lower (Kd.R_new' ho0 (Kd.R_lt (by (with_reducible repeat (first | apply Kd.R_alloc | apply Kd.R_drewN | apply Kd.R_drew)); exact HO463.out))) (below_size (by repeat (first | (with_reducible first | exact HB.out | apply below_alloc | apply pw_below_drewN | apply below_drew1) | exact HB.out)))); have n2_ := Aside0.mk (below_step (by repeat (first | (with_reducible first | exact HB.out | apply below_alloc | apply pw_below_drewN | apply below_drew1) | exact HB.out)) hb); clear HO463; clear HB; have HO463 := n0_; have HO467 := n1_; have HB := n2_; clear n0_ n1_ n2_; (try clear hb); (try clear hb2); (try clear hk); (try clear hi); (try clear ho0)))
      go_ret
      exact ⟨by first | rfl | (simp [errW_none, errW_some] <;> rfl) | (simp [*, errW_none, errW_some] <;> rfl), by repeat (first | (with_reducible first | exact HB.out | apply below_alloc | apply pw_below_drewN | apply below_drew1) | exact HB.out)⟩

end Go.Proofs.Ythlbjdiicmojfaa.P

/-! Part Out11. -/
namespace Go.Proofs.Ythlbjdiicmojfaa.P
open Go.RowKit Go.Proofs.YthlbjdiicmojfaaW.PrintWords Go.Proofs.YthlbjdiicmojfaaW.PrintLast Go.Proofs.YthlbjdiicmojfaaW.PrintMore
set_option linter.unusedVariables false

set_option maxHeartbeats 2000000 in
set_option maxRecDepth 100000 in
theorem out11 (k : Nat) (A0 : Option Addr) (n0 : Nat) (zs0 : List S43) (x1 : Int) (w : World) (hr0 : Kd.C k43 w A0 zs0.length zs0) (hn0 : n0 ≤ zs0.length) (hl0 : zs0.length * 16 ≤ 140737488351232)
    (h : verditerlaw08_secretWithout.f k (zs0.take n0) x1 = some true) :
    Calls Try.prog 11 #[.slice A0 n0 zs0.length, .int .i64 x1] w fun e w' => e = .returned (.bool true) ∧ Below w.heap.size w w' := by
  have hu43 := Try.underlying43
  have HR0 := Aside0.mk hr0
  have hnl0 : (zs0.take n0).length = n0 := by rw [List.length_take]; omega
  have HI := Aside0.mk (fun (w1 : World) (hb : Below w.heap.size w w1) => verditerlaw08_secretWithout.calls k A0 zs0.length (zs0.take n0) x1 true w1 (Kd.C_take (Kd.C_below hr0 hb) hn0) (by omega) h)
  rw [hnl0] at HI
  have HK0 := Aside0.mk (keepParts A0 n0 zs0 w hr0 hn0 hl0)
  have HN0 := Aside0.mk hn0
  have HB := Aside0.mk (Below.refl w.heap.size w)
  clear h hr0 hnl0 hn0 hl0
  go_enter Try.func11, Try.ntmps11
  go_wp2_with fail
  with_reducible refine HK0.out.mono ?_
  rintro e w1 ⟨v, rfl, hv, hb⟩
  obtain ⟨B0, c0, rfl, hcc0, hc⟩ := Kd.R_reads hv
  have HC0 := Aside0.mk hc
  clear HB; have HB := Aside0.mk hb
  clear hb hc hv
  go_wp2_with fail
  with_reducible refine (HI.out w1 HB.out).mono ?_
  rintro e wi ⟨rfl, hb⟩
  have hcx := Kd.C_below HC0.out hb; clear HC0; have HC0 := Aside0.mk hcx; clear hcx
  have hbx := below_step HB.out hb; clear HB; have HB := Aside0.mk hbx; have HBI := Aside0.mk hbx; clear hbx hb
  go_wp2_with fail
  with_reducible refine (keptParts B0 c0 A0 n0 zs0 _ HC0.out (Kd.C_below HR0.out HB.out) HN0.out).mono ?_
  rintro e wk0 ⟨rfl, ⟨m0, rfl⟩⟩
  have hbx := pw_below_drewN HB.out m0; clear HB; have HB := Aside0.mk hbx; clear hbx
  go_wp2_with fail
  go_ret
  exact ⟨rfl, pw_below_drewN HBI.out _⟩
end Go.Proofs.Ythlbjdiicmojfaa.P

/-! Part Open. -/
namespace Go.Proofs.Ythlbjdiicmojfaa.P
open Go.RowKit Go.Proofs.YthlbjdiicmojfaaW.PrintWords Go.Proofs.YthlbjdiicmojfaaW.PrintLast Go.Proofs.YthlbjdiicmojfaaW.PrintMore
open Go.ChangeShapes Go.WideShapes Go.Deep
set_option linter.unusedVariables false

theorem open_intlist {H : Type} {enc : TypeId × Value → H} {W : World} {base : Nat} {held : Bool} {a : Option Addr} {len cap : Nat} {d : DataW H} {ps : List MemPlace} {ts : List TypeId} {ds : List (DataW H)} {j : Nat}
    (hsz : (DataW.weightsEach Try.prog ts ds).all (· ≤ reachBytes) = true) (ht : ts[j]? = some 26) (hd : ds[j]? = some d)
    (h : DataW.Trod enc Try.prog W base (fun _ => true) held 26 (.slice a len cap) d ps) :
    ∃ zs : List Int, cap = zs.length ∧ len ≤ zs.length ∧ Kd.C (Kd.int .i64) W a zs.length zs ∧ zs.length * 8 ≤ 140737488351232 ∧ ∀ z ∈ zs, (Lit.int .i64 z).wf = true := by
  obtain ⟨fuel, hf⟩ := h
  rcases open_ints Try.underlying26 Try.underlying3 (by kernel_rfl) hf with ⟨hcs, _⟩ | ⟨x, l, c, zs, hcs, _, hl, hm, hz, hx, hcell, hwz⟩
  · simp [Value.cells] at hcs
    obtain ⟨rfl, rfl, rfl⟩ := hcs
    exact ⟨[], rfl, Nat.le_refl _, Kd.C_nil _ _, by simp, by simp⟩
  · simp [Value.cells] at hcs
    obtain ⟨rfl, rfl, rfl⟩ := hcs
    simp only [if_true] at hz
    obtain ⟨hx, _⟩ := Prod.mk.inj hx
    subst hx
    have z := sized_slice hsz ht hd Try.underlying26
    have h1 : (lits (H := H) .i64 (zs.take len)).length + (lits (H := H) .i64 (zs.drop len)).length = zs.length := by
      simp [lits]
      omega
    rw [h1, show Try.prog.bytesOf 3 = 8 by kernel_rfl] at z
    refine ⟨zs, hz.symm, by omega, Kd.C_of_reads (enc := Value.int .i64) (d := (0 : Int)) (h1 := fun _ => rfl) ⟨rfl, by rw [hz]; simp only [maxLen] at hm; omega, fun _ => ⟨x, rfl, fun j hj => ?_⟩⟩, z, hwz⟩
    exact hcell j hj

theorem open_partlist {H : Type} {enc : TypeId × Value → H} {W : World} {base : Nat} {held : Bool} {a : Option Addr} {len cap : Nat} {d : DataW H} {ps : List MemPlace} {ts : List TypeId} {ds : List (DataW H)} {j : Nat}
    (hsz : (DataW.weightsEach Try.prog ts ds).all (· ≤ reachBytes) = true) (ht : ts[j]? = some 22) (hd : ds[j]? = some d)
    (h : DataW.Trod enc Try.prog W base (fun _ => true) held 22 (.slice a len cap) d ps) :
    ∃ zs : List S43, cap = zs.length ∧ len ≤ zs.length ∧ Kd.C k43 W a zs.length zs ∧ zs.length * 16 ≤ 140737488351232 ∧ ∀ z ∈ zs, (Lit.int .i64 z.f0).wf = true ∧ (Lit.int .i64 z.f1).wf = true := by
  obtain ⟨fuel, hf⟩ := h
  rcases open_slice_pairs Try.underlying22 Try.underlying43 (by kernel_rfl) rfl rfl (by kernel_rfl) (by kernel_rfl) hf with ⟨hcs, _⟩ | ⟨x, l, c, m, n, V0, V1, D0, D1, P0, P1, hcs, _, hl, hm, hmm, hx, hi⟩
  · simp [Value.cells] at hcs
    obtain ⟨rfl, rfl, rfl⟩ := hcs
    exact ⟨[], rfl, Nat.le_refl _, Kd.C_nil _ _, by simp, by simp⟩
  · simp [Value.cells] at hcs
    obtain ⟨rfl, rfl, rfl⟩ := hcs
    simp only [if_true] at hmm
    subst hmm
    obtain ⟨hx, _⟩ := Prod.mk.inj hx
    subst hx
    have z := sized_slice hsz ht hd Try.underlying22
    rw [show Try.prog.bytesOf 43 = 16 by kernel_rfl] at z
    simp only [List.length_map, List.length_range] at z
    rw [show len + (m - len) = m by omega] at z
    have key : ∀ i, i < m → ∃ p : S43, (W.cell? (x.add (i * 2)) = some (.int .i64 p.f0) ∧ W.cell? (x.add (i * 2 + 1)) = some (.int .i64 p.f1)) ∧ (Lit.int .i64 p.f0).wf = true ∧ (Lit.int .i64 p.f1).wf = true := by
      intro i him
      obtain ⟨g0, g1, g2, g3⟩ := hi i him
      obtain ⟨a0, e0, _, w0⟩ := DataW.trod_int Try.underlying3 g2
      obtain ⟨a1, e1, _, w1⟩ := DataW.trod_int Try.underlying3 g3
      simp only [List.cons.injEq, and_true] at e0 e1
      exact ⟨⟨a0, a1⟩, ⟨by rw [g0, e0], by rw [g1, e1]⟩, w0, w1⟩
    haveI : Inhabited S43 := ⟨z43⟩
    obtain ⟨q, hq⟩ := choose_lt key
    have hlen : ((List.range m).map q).length = m := by simp
    refine ⟨(List.range m).map q, hlen.symm, by rw [hlen]; exact hl, ⟨rfl, by rw [hlen]; simp only [maxLen] at hm; omega, fun _ => ⟨x, rfl, fun i p hp => ?_⟩⟩, by rw [hlen]; exact z, ?_⟩
    · obtain ⟨him, hpe⟩ := List.getElem?_eq_some_iff.1 hp
      rw [hlen] at him
      simp only [List.getElem_map, List.getElem_range] at hpe
      subst hpe
      refine ⟨[.int .i64 (q i).f0, .int .i64 (q i).f1], rfl, k43_mk _ _, fun j u hu => ?_⟩
      match j, hu with
      | 0, hu => simp at hu; subst hu; exact (hq i him).1.1
      | 1, hu => simp at hu; subst hu; exact (hq i him).1.2
    · intro p hp
      obtain ⟨i, him, rfl⟩ := List.mem_map.1 hp
      exact (hq i (List.mem_range.1 him)).2
end Go.Proofs.Ythlbjdiicmojfaa.P

/-! Part Alg. -/
namespace Ply
theorem inv_ex : ∀ a : Fin 251, a ≠ 0 → ∃ b, a * b = 1 := by
  have h : ∀ a : Fin 251, a ≠ 0 → a * a^249 = 1 := by decide +kernel
  exact fun a ha => ⟨_, h a ha⟩
theorem nzd (a b : Fin 251) (h : a * b = 0) (ha : a ≠ 0) : b = 0 := by
  obtain ⟨c, hc⟩ := inv_ex a ha
  have : b = (a * c) * b := by rw [hc]; grind
  have h2 : a * c * b = c * (a * b) := by grind
  rw [this, h2, h]; grind
def ev : List (Fin 251) → Fin 251 → Fin 251
  | [], _ => 0
  | c :: q, x => c + x * ev q x
def dv (a : Fin 251) : List (Fin 251) → List (Fin 251)
  | [] => []
  | [_] => []
  | _ :: c :: q => ev (c :: q) a :: dv a (c :: q)
theorem ev_dv (a x : Fin 251) : ∀ p, ev p x = ev p a + (x - a) * ev (dv a p) x
  | [] => by simp only [ev, dv]; grind
  | [c] => by simp only [ev, dv]; grind
  | d :: c :: q => by
    have ih := ev_dv a x (c :: q)
    simp only [dv, ev] at ih ⊢
    generalize ev (dv a (c :: q)) x = t at *
    generalize ev q a = u at *
    generalize ev q x = v at *
    grind
theorem len_dv (a : Fin 251) : ∀ p, (dv a p).length = p.length - 1
  | [] => rfl
  | [_] => rfl
  | _ :: c :: q => by
    have ih := len_dv a (c :: q)
    simp only [dv, List.length_cons] at ih ⊢
    omega
theorem dv_zero (a : Fin 251) : ∀ p, (∀ c ∈ dv a p, c = 0) → ev p a = 0 → ∀ c ∈ p, c = 0
  | [], _, _ => by simp
  | [c], _, h => by
    simp only [ev] at h
    have h2 : c = 0 := by grind
    simp [h2]
  | d :: c :: q, hz, h => by
    simp only [dv, List.mem_cons, forall_eq_or_imp] at hz
    have h1 : d = 0 := by
      have h' : d + a * ev (c :: q) a = 0 := h
      rw [hz.1] at h'; grind
    have ih := dv_zero a (c :: q) hz.2 hz.1
    intro x hx
    rcases List.mem_cons.1 hx with rfl | hx
    · exact h1
    · exact ih x hx
theorem roots (n : Nat) : ∀ (p xs : List (Fin 251)), p.length = n → xs.Nodup → n ≤ xs.length → (∀ x ∈ xs, ev p x = 0) → ∀ c ∈ p, c = 0 := by
  induction n with
  | zero => intro p xs hp _ _ _; rw [List.length_eq_zero_iff.1 hp]; simp
  | succ n ih =>
    intro p xs hp hn hl hz
    cases xs with
    | nil => simp at hl
    | cons a xs =>
      have ha := hz a (by simp)
      refine dv_zero a p (ih (dv a p) xs (by rw [len_dv, hp]; rfl) (List.nodup_cons.1 hn).2 (by simp at hl; omega) ?_) ha
      intro x hx
      have h1 := ev_dv a x p
      rw [hz x (by simp [hx]), ha] at h1
      have hne : x - a ≠ 0 := by
        intro e
        have : x = a := by
          have : x = (x - a) + a := by grind
          rw [this, e]; grind
        rw [this] at hx; exact (List.nodup_cons.1 hn).1 hx
      refine nzd (x - a) _ ?_ hne
      generalize ev (dv a p) x = t at *
      grind
theorem ev_sub : ∀ (p q : List (Fin 251)) (x : Fin 251), p.length = q.length → ev (List.zipWith (fun a b => a - b) p q) x = ev p x - ev q x
  | [], [], x, _ => by simp [ev]
  | a :: p, b :: q, x, h => by
    have ih := ev_sub p q x (by simpa using h)
    simp only [List.zipWith_cons_cons, ev, ih]
    grind
theorem sub_zero_eq : ∀ (p q : List (Fin 251)), p.length = q.length → (∀ c ∈ List.zipWith (fun a b => a - b) p q, c = 0) → p = q
  | [], [], _, _ => rfl
  | a :: p, b :: q, h, hz => by
    simp only [List.zipWith_cons_cons, List.mem_cons, forall_eq_or_imp] at hz
    have hab : a = b := by
      have : a = (a - b) + b := by grind
      rw [this, hz.1]; grind
    rw [hab, sub_zero_eq p q (by simpa using h) hz.2]
theorem uniq (p q xs : List (Fin 251)) (hl : p.length = q.length) (hn : xs.Nodup) (hx : p.length ≤ xs.length) (h : ∀ x ∈ xs, ev p x = ev q x) : p = q := by
  refine sub_zero_eq p q hl (roots p.length _ xs (by simp [hl]) hn hx ?_)
  intro x hm
  rw [ev_sub p q x hl, h x hm]; grind
end Ply

/-! Part Lag. -/
namespace Go.Proofs.Ythlbjdiicmojfaa.P
open Go.RowKit Go.Proofs.YthlbjdiicmojfaaW.PrintWords Go.Proofs.YthlbjdiicmojfaaW.PrintLast Go.Proofs.YthlbjdiicmojfaaW.PrintMore
open Ply
set_option linter.unusedVariables false

theorem getD_get {α : Type} (l : List α) (d : α) {i : Nat} (h : i < l.length) : l.getD i d = l[i] := by
  simp [List.getD, List.getElem?_eq_getElem h]
/-! ### Numbers as classes -/
def cst (n : Int) : Fin 251 := ⟨(n % 251).toNat, by omega⟩
theorem cst_mod (a : Int) : cst (a % 251) = cst a := by
  unfold cst; congr 2; omega
theorem cst_add (a b : Int) : cst (a + b) = cst a + cst b := by
  apply Fin.ext
  simp only [cst, Fin.val_add]
  omega
theorem cst_zero : cst 0 = 0 := rfl
theorem cst_one : cst 1 = 1 := rfl
theorem cst_sub (a b : Int) : cst (a - b) = cst a - cst b := by
  have h := cst_add (a - b) b
  rw [show a - b + b = a by omega] at h
  rw [h]; grind
theorem cst_mul (a b : Int) : cst (a * b) = cst a * cst b := by
  apply Fin.ext
  simp only [cst, Fin.val_mul]
  have h1 : ((a % 251).toNat : Int) = a % 251 := by omega
  have h2 : ((b % 251).toNat : Int) = b % 251 := by omega
  have h3 : a * b % 251 = (a % 251) * (b % 251) % 251 := Int.mul_emod a b 251
  have h4 : ((((a % 251).toNat * (b % 251).toNat) % 251 : Nat) : Int) = (a % 251) * (b % 251) % 251 := by
    rw [Int.natCast_emod, Int.natCast_mul, h1, h2]; rfl
  have h5 : (((a * b % 251).toNat : Nat) : Int) = a * b % 251 := by omega
  omega
theorem cst_inj {a b : Int} (ha : num a = true) (hb : num b = true) (h : cst a = cst b) : a = b := by
  rw [num_iff] at ha hb
  have := congrArg Fin.val h
  simp only [cst] at this
  omega
theorem cst_ne {a b : Int} (ha : num a = true) (hb : num b = true) (h : a ≠ b) : cst a - cst b ≠ 0 := by
  intro e
  apply h
  apply cst_inj ha hb
  have : cst a = (cst a - cst b) + cst b := by grind
  rw [this, e]; grind

/-! ### A curve's value -/
theorem cst_atI : ∀ (c : List Int) (x : Int), cst (atI c x) = ev (c.map cst) (cst x)
  | [], x => rfl
  | n :: c, x => by
    have ih := cst_atI c x
    show cst ((atI c x * x + n) % 251) = cst n + cst x * ev (c.map cst) (cst x)
    rw [cst_mod, cst_add, cst_mul, ih]; grind
theorem atI_eq {c : List Int} {x r : Int} (hr : num r = true) (h : cst r = ev (c.map cst) (cst x)) : r = atI c x := cst_inj hr (num_atI c x) (by rw [h, cst_atI])

/-! ### Products and sums of curves -/
theorem ev_timesL : ∀ (c : List Int) (less m carry : Int) (x : Fin 251), ev ((timesL c less m carry).map cst) x = cst carry + (x - cst less) * cst m * ev (c.map cst) x
  | [], less, m, carry, x => by
    simp only [timesL, List.map_cons, List.map_nil, ev, cst_mod]; grind
  | n :: c, less, m, carry, x => by
    have ih := ev_timesL c less m (n * m) x
    simp only [timesL, List.map_cons, ev, cst_mod, ih, cst_sub, cst_mul]
    generalize ev (c.map cst) x = t
    grind
theorem ev_zip (f : Int → Int → Int) (u v : Fin 251) (hf : ∀ a b, cst (f a b) = u * cst a + v * cst b) : ∀ (c d : List Int) (x : Fin 251), c.length = d.length → ev ((List.zipWith f c d).map cst) x = u * ev (c.map cst) x + v * ev (d.map cst) x
  | [], [], x, _ => by simp only [List.zipWith_nil_left, List.map_nil, ev]; grind
  | a :: c, b :: d, x, h => by
    have ih := ev_zip f u v hf c d x (by simpa using h)
    simp only [List.zipWith_cons_cons, List.map_cons, ev, ih, hf]
    grind
theorem ev_plusL (c d : List Int) (x : Fin 251) (h : c.length = d.length) : ev ((plusL c d).map cst) x = ev (c.map cst) x + ev (d.map cst) x := by
  have := ev_zip (fun a b => (a + b) % 251) 1 1 (fun a b => by rw [cst_mod, cst_add]; grind) c d x h
  rw [show plusL c d = List.zipWith (fun a b => (a + b) % 251) c d from rfl, this]; grind
theorem ev_zeros (x : Fin 251) : ∀ n, ev ((List.replicate n (0 : Int)).map cst) x = 0
  | 0 => rfl
  | n + 1 => by
    rw [List.replicate_succ, List.map_cons, ev, ev_zeros x n, cst_zero]; grind

/-! ### The inverse -/
theorem cst_powIt (n : Int) : ∀ d x, cst (powIt n d x) = cst x * cst n ^ d
  | 0, x => by simp only [powIt]; grind
  | d + 1, x => by
    rw [powIt, cst_powIt n d, cst_mod, cst_mul]; grind
theorem inv_all : ∀ a : Fin 251, a ≠ 0 → a * a ^ 249 = 1 := by decide +kernel
theorem inv_mul (n : Int) (h : cst n ≠ 0) : cst (invI n) * cst n = 1 := by
  unfold invI
  rw [cst_powIt, cst_one]
  have := inv_all (cst n) h
  grind

/-! ### Lagrange's curves -/
theorem ev_basis_zero (xi : Int) (x : Fin 251) : ∀ (others c : List Int), (∃ xj ∈ others, cst xj = x) ∨ ev (c.map cst) x = 0 → ev ((basis xi others c).map cst) x = 0
  | [], c, h => by
    rcases h with ⟨_, h, _⟩ | h
    · simp at h
    · exact h
  | y :: others, c, h => by
    refine ev_basis_zero xi x others (timesL c y (invI ((xi - y) % 251)) 0) ?_
    rcases h with ⟨xj, hm, he⟩ | h
    · rcases List.mem_cons.1 hm with rfl | hm
      · right
        rw [ev_timesL, ← he, cst_zero]; grind
      · exact .inl ⟨xj, hm, he⟩
    · right
      rw [ev_timesL, h, cst_zero]; grind
theorem ev_basis_own (xi : Int) : ∀ (others c : List Int), (∀ xj ∈ others, cst xi - cst xj ≠ 0) → ev ((basis xi others c).map cst) (cst xi) = ev (c.map cst) (cst xi)
  | [], c, h => rfl
  | y :: others, c, h => by
    have ih := ev_basis_own xi others (timesL c y (invI ((xi - y) % 251)) 0) (fun xj hj => h xj (List.mem_cons_of_mem _ hj))
    rw [show basis xi (y :: others) c = basis xi others (timesL c y (invI ((xi - y) % 251)) 0) from rfl, ih, ev_timesL, cst_zero]
    have h1 := inv_mul ((xi - y) % 251) (by rw [cst_mod, cst_sub]; exact h y (by simp))
    rw [cst_mod, cst_sub] at h1
    generalize cst (invI ((xi - y) % 251)) = t at *
    generalize ev (c.map cst) (cst xi) = u at *
    grind

/-! ### The curve through points -/
/-- Points whose places are numbers, all different; their values are numbers. -/
def good (p : List (Int × Int)) : Prop := (∀ q ∈ p, num q.1 = true ∧ num q.2 = true) ∧ (p.map Prod.fst).Nodup
theorem good_getD {p : List (Int × Int)} (h : good p) {i : Nat} (hi : i < p.length) : num (p.getD i (0, 0)).1 = true ∧ num (p.getD i (0, 0)).2 = true := by
  rw [getD_get _ _ hi]
  exact h.1 _ (List.getElem_mem hi)
theorem ev_one_own {p : List (Int × Int)} (h : good p) {i : Nat} (hi : i < p.length) : ev ((oneL p i).map cst) (cst (p.getD i (0, 0)).1) = cst (p.getD i (0, 0)).2 := by
  unfold oneL
  rw [ev_basis_own]
  · simp only [List.map_cons, List.map_nil, ev]; grind
  · intro xj hm
    obtain ⟨j, hj, hne, rfl⟩ := List.mem_eraseIdx_iff_getElem.1 hm
    rw [List.length_map] at hj
    rw [getD_get _ _ hi]
    refine cst_ne (h.1 _ (List.getElem_mem hi)).1 (by rw [List.getElem_map]; exact (h.1 _ (List.getElem_mem hj)).1) fun e => hne ?_
    have h2 := h.2
    rw [List.Nodup, List.pairwise_iff_getElem] at h2
    rcases Nat.lt_trichotomy i j with hlt | heq | hgt
    · exact absurd (by rw [List.getElem_map, List.getElem_map]; simpa using e) (h2 i j (by simpa using hi) (by simpa using hj) hlt)
    · exact heq.symm
    · exact absurd (by rw [List.getElem_map, List.getElem_map]; simpa using e.symm) (h2 j i (by simpa using hj) (by simpa using hi) hgt)
theorem ev_one_other {p : List (Int × Int)} {i j : Nat} (hj : j < p.length) (hne : j ≠ i) : ev ((oneL p i).map cst) (cst (p.getD j (0, 0)).1) = 0 := by
  unfold oneL
  refine ev_basis_zero _ _ _ _ (.inl ⟨(p.getD j (0, 0)).1, ?_, rfl⟩)
  refine List.mem_eraseIdx_iff_getElem.2 ⟨j, by simpa using hj, hne, ?_⟩
  rw [List.getElem_map, getD_get _ _ hj]
theorem ev_interpTo {p : List (Int × Int)} (h : good p) {j : Nat} (hj : j < p.length) : ∀ m, m ≤ p.length → ev ((interpTo p m).map cst) (cst (p.getD j (0, 0)).1) = if j < m then cst (p.getD j (0, 0)).2 else 0
  | 0, _ => by
    rw [if_neg (by omega)]
    exact ev_zeros _ _
  | m + 1, hm => by
    rw [interpTo_succ, ev_plusL _ _ _ (by rw [interpTo_length p m (by omega), oneL_length p m (by omega)]), ev_interpTo h hj m (by omega)]
    by_cases e : j = m
    · subst e
      rw [if_neg (by omega), if_pos (by omega), ev_one_own h hj]; grind
    · rw [ev_one_other hj e]
      by_cases hlt : j < m
      · rw [if_pos hlt, if_pos (by omega)]; grind
      · rw [if_neg hlt, if_neg (by omega)]; grind
theorem interp_len (p : List (Int × Int)) : (interp p).length = p.length := interpTo_length p _ (Nat.le_refl _)
theorem interp_nums (p : List (Int × Int)) : ∀ n ∈ interp p, num n = true := interpTo_num p _
theorem interp_at {p : List (Int × Int)} (h : good p) {q : Int × Int} (hq : q ∈ p) : atI (interp p) q.1 = q.2 := by
  obtain ⟨j, hj, rfl⟩ := List.mem_iff_getElem.1 hq
  symm
  refine atI_eq (h.1 _ hq).2 ?_
  have := ev_interpTo h hj p.length (Nat.le_refl _)
  rw [if_pos hj, getD_get _ _ hj] at this
  exact this.symm

/-! ### One curve alone -/
theorem map_cst_inj : ∀ (c d : List Int), (∀ n ∈ c, num n = true) → (∀ n ∈ d, num n = true) → c.map cst = d.map cst → c = d
  | [], [], _, _, _ => rfl
  | [], _ :: _, _, _, h => by simp at h
  | _ :: _, [], _, _, h => by simp at h
  | a :: c, b :: d, hc, hd, h => by
    simp only [List.map_cons, List.cons.injEq] at h
    rw [cst_inj (hc a (by simp)) (hd b (by simp)) h.1, map_cst_inj c d (fun n hn => hc n (by simp [hn])) (fun n hn => hd n (by simp [hn])) h.2]
theorem nodup_cst : ∀ {xs : List Int}, (∀ x ∈ xs, num x = true) → xs.Nodup → (xs.map cst).Nodup
  | [], _, _ => by simp
  | a :: xs, hn, h => by
    rw [List.nodup_cons] at h
    rw [List.map_cons, List.nodup_cons]
    refine ⟨fun hm => ?_, nodup_cst (fun x hx => hn x (by simp [hx])) h.2⟩
    obtain ⟨b, hb, e⟩ := List.mem_map.1 hm
    rw [cst_inj (hn b (by simp [hb])) (hn a (by simp)) e] at hb
    exact h.1 hb
theorem curve_uniq {c d xs : List Int} (hl : c.length = d.length) (hc : ∀ n ∈ c, num n = true) (hd : ∀ n ∈ d, num n = true) (hx : ∀ x ∈ xs, num x = true) (hn : xs.Nodup) (hlen : c.length ≤ xs.length)
    (h : ∀ x ∈ xs, atI c x = atI d x) : c = d := by
  refine map_cst_inj c d hc hd (uniq _ _ (xs.map cst) (by simpa using hl) (nodup_cst hx hn) (by simpa using hlen) ?_)
  intro y hy
  obtain ⟨x, hm, rfl⟩ := List.mem_map.1 hy
  rw [← cst_atI, ← cst_atI, h x hm]
theorem interp_uniq {p : List (Int × Int)} {c : List Int} (h : good p) (hl : c.length = p.length) (hc : ∀ n ∈ c, num n = true) (ha : ∀ q ∈ p, atI c q.1 = q.2) : c = interp p := by
  refine curve_uniq (xs := p.map Prod.fst) (by rw [hl, interp_len]) hc (interp_nums p) ?_ h.2 (by rw [List.length_map]; omega) ?_
  · intro x hx
    obtain ⟨q, hq, rfl⟩ := List.mem_map.1 hx
    exact (h.1 q hq).1
  · intro x hx
    obtain ⟨q, hq, rfl⟩ := List.mem_map.1 hx
    rw [ha q hq, interp_at h hq]
theorem atI_zero {c : List Int} (hc : ∀ n ∈ c, num n = true) : atI c 0 = c.getD 0 0 := by
  cases c with
  | nil => rfl
  | cons n c =>
    have := num_iff.1 (hc n (by simp))
    show (atI c 0 * 0 + n) % 251 = n
    omega
theorem atI_more (c : List Int) (x : Int) : ∀ n, atI (c ++ List.replicate n 0) x = atI c x
  | 0 => by simp
  | n + 1 => by
    rw [List.replicate_succ', ← List.append_assoc]
    unfold atI
    rw [List.foldr_append]
    simp only [List.foldr_cons, List.foldr_nil]
    rw [show ((0 : Int) * x + 0) % 251 = 0 by rw [Int.zero_mul]; rfl]
    exact atI_more c x n
theorem good_pts {l : List S43} (h : valid l = 0) : good (pts l) := by
  obtain ⟨_, hok, hn⟩ := valid_iff.1 h
  refine ⟨fun q hq => ?_, ?_⟩
  · obtain ⟨p, hp, rfl⟩ := List.mem_map.1 hq
    have := okP_iff.1 (hok p hp)
    exact ⟨num_iff.2 (by simp only; omega), num_iff.2 (by simp only; omega)⟩
  · unfold pts
    rw [List.map_map]
    exact hn
theorem pts_length (l : List S43) : (pts l).length = l.length := by simp [pts]
theorem mem_pts {l : List S43} {p : S43} (h : p ∈ l) : (p.f0, p.f1) ∈ pts l := List.mem_map.2 ⟨p, h, rfl⟩
end Go.Proofs.Ythlbjdiicmojfaa.P
