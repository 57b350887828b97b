/- Parts of the proof of the law SecretAdds: walks of functions that it reaches, and plain facts about numbers, lists and curves; without a condition. -/
import Derived.Test.YthlbjdiicmojfaaSecretAddsM1
import Derived.Deep.RegionLaw
import Derived.Lib.SliceRun
import Derived.Test.YthlbjdiicmojfaaSecretAddsM2
import Derived.Deep.RegionWith
import Derived.Deep.RegionHeld3
import Derived.StillTailTactics
import Derived.Test.YthlbjdiicmojfaaSecretAddsM3
/-! Part PF83. -/
-- Written for this claim by wip/print_more.py (a session's program that runs the kit's printer with hand-proved functions beside). Lean checks it.
namespace Go.Proofs.Ythlbjdiicmojfaa.P
open Go.RowKit Go.Proofs.YthlbjdiicmojfaaW.PrintWords Go.Proofs.YthlbjdiicmojfaaW.PrintLast Go.Proofs.YthlbjdiicmojfaaW.PrintMore
attribute [local go_sem] max2_int min2_int max_two min_two max_three min_three max_four min_four   -- for this text's walks alone
set_option linter.unusedVariables false
set_option linter.unusedSimpArgs false

/-! ### verditerref08_within: function 83 -/
def verditerref08_within.f (a0 : Int) (a1 : Int) (a2 : Int) : Option (Bool) := if a0 ≥ a1 then (some (decide (a0 ≤ a2))) else (some false)
set_option maxHeartbeats 8000000 in
set_option maxRecDepth 100000 in
theorem verditerref08_within.calls (a0 : Int) (a1 : Int) (a2 : Int) (r : Bool) (w : World) (h : verditerref08_within.f a0 a1 a2 = some r) :
    Calls Try.prog 83 #[.int .i64 a0, .int .i64 a1, .int .i64 a2] w fun e w' => e = .returned (.bool r) ∧ Drawn0 w w' := by
  have H : (if a0 ≥ a1 then (some (decide (a0 ≤ a2))) else (some false)) = some r := h
  clear h
  by_cases c4 : a0 ≥ a1
  · rw [if_pos c4] at H
    have c4b0 : decide (a1 ≤ a0) = true := decide_eq_true c4
    clear c4
    obtain rfl := Option.some.inj H
    go_enter Try.func83, Try.ntmps83
    go_wp2
    go_ret
    exact ⟨by first | rfl | (simp; done) | (simp [*]; done), by repeat (first | exact Drawn0.refl _ | apply Drawn0.step)⟩
  · rw [if_neg c4] at H
    have c4b0 : decide (a1 ≤ a0) = false := decide_eq_false c4
    clear c4
    obtain rfl := Option.some.inj H
    go_enter Try.func83, Try.ntmps83
    go_wp2
    go_ret
    exact ⟨by first | rfl | (simp; done) | (simp [*]; done), by repeat (first | exact Drawn0.refl _ | apply Drawn0.step)⟩

end Go.Proofs.Ythlbjdiicmojfaa.P

/-! Part PF75. -/
-- Written for this claim by wip/print_more.py (a session's program that runs the kit's printer with hand-proved functions beside). Lean checks it.
namespace Go.Proofs.Ythlbjdiicmojfaa.P
open Go.RowKit Go.Proofs.YthlbjdiicmojfaaW.PrintWords Go.Proofs.YthlbjdiicmojfaaW.PrintLast Go.Proofs.YthlbjdiicmojfaaW.PrintMore
attribute [local go_sem] max2_int min2_int max_two min_two max_three min_three max_four min_four   -- for this text's walks alone
set_option linter.unusedVariables false
set_option linter.unusedSimpArgs false

/-! ### verditerref08_isNumber: function 75 -/
def verditerref08_isNumber.f (a0 : Int) : Option (Bool) := (verditerref08_within.f a0 0 250).bind fun t173 => (some t173)
set_option maxHeartbeats 8000000 in
set_option maxRecDepth 100000 in
theorem verditerref08_isNumber.calls (a0 : Int) (r : Bool) (w : World) (h : verditerref08_isNumber.f a0 = some r) :
    Calls Try.prog 75 #[.int .i64 a0] w fun e w' => e = .returned (.bool r) ∧ Drawn0 w w' := by
  have H : ((verditerref08_within.f a0 0 250).bind fun t173 => (some t173)) = some r := h
  clear h
  replace H := Option.bind_eq_some_iff.mp H
  obtain ⟨t173, A20, H⟩ := H
  replace H : (some t173) = some r := H
  have A2 := Aside0.mk A20
  clear A20
  obtain rfl := Option.some.inj H
  go_enter Try.func75, Try.ntmps75
  go_wp2_with (first | ((with_reducible refine gate_callee (f := 83) rfl ?_); refine goesL_ (some 4) rfl rfl Try.func83 (by kernel_rfl) rfl #[.int .i64 a0, .int .i64 0, .int .i64 250] rfl (by (try simp only [List.map_toArray, List.map_cons, List.map_nil]); first | done | rfl | (simp only [List.length_drop, List.length_take]; rfl)) ?_; (with_reducible refine (verditerref08_within.calls a0 0 250 t173 _ A2.out).mono ?_); rintro e w' ⟨rfl, ⟨nd, rfl⟩⟩; refine ⟨_, rfl, ?_⟩))
  go_ret
  exact ⟨by first | rfl | (simp; done) | (simp [*]; done), by repeat (first | exact Drawn0.refl _ | apply Drawn0.step)⟩

end Go.Proofs.Ythlbjdiicmojfaa.P

/-! Part PF66. -/
-- Written for this claim by wip/print_more.py (a session's program that runs the kit's printer with hand-proved functions beside). Lean checks it.
namespace Go.Proofs.Ythlbjdiicmojfaa.P
open Go.RowKit Go.Proofs.YthlbjdiicmojfaaW.PrintWords Go.Proofs.YthlbjdiicmojfaaW.PrintLast Go.Proofs.YthlbjdiicmojfaaW.PrintMore
attribute [local go_sem] max2_int min2_int max_two min_two max_three min_three max_four min_four   -- for this text's walks alone
set_option linter.unusedVariables false
set_option linter.unusedSimpArgs false

/-! ### verditerref08_Validate: function 66 -/
mutual
def verditerref08_Validate.l0 : Nat → List (S43) → Int → Option (Int)
  | 0, _, _ => none
  | k + 1, x0, x3 => if x3 < (x0.length : Int) then (if 0 ≤ x3 then ((verditerref08_within.f ((rd_T43 x0 x3).f0) 1 250).bind fun t175 => (if t175 = true then ((verditerref08_isNumber.f ((rd_T43 x0 x3).f1)).bind fun t177 => (if t177 = true then (verditerref08_Validate.l0 k x0 (wrap64 (x3 + 1))) else (some 1))) else (some 1))) else (none)) else (verditerref08_Validate.l1 k x0 0)
def verditerref08_Validate.l1 : Nat → List (S43) → Int → Option (Int)
  | 0, _, _ => none
  | k + 1, x0, x4 => if x4 < (x0.length : Int) then (verditerref08_Validate.l2 k x0 x4 0) else (some 0)
def verditerref08_Validate.l2 : Nat → List (S43) → Int → Int → Option (Int)
  | 0, _, _, _ => none
  | k + 1, x0, x4, x5 => if x5 < x4 then (if 0 ≤ x4 then (if x4 < (x0.length : Int) then (if 0 ≤ x5 then (if x5 < (x0.length : Int) then (if ((rd_T43 x0 x4).f0) = ((rd_T43 x0 x5).f0) then (some 6) else (verditerref08_Validate.l2 k x0 x4 (wrap64 (x5 + 1)))) else (none)) else (none)) else (none)) else (none)) else (verditerref08_Validate.l1 k x0 (wrap64 (x4 + 1)))
end
def verditerref08_Validate.f (k : Nat) (l0 : List (S43)) : Option (Int) := if (l0.length : Int) > 12 then (some 3) else (verditerref08_Validate.l0 k l0 0)
theorem verditerref08_Validate.mono_l : ∀ k, (∀ y0 y1, LeO (verditerref08_Validate.l0 k y0 y1) (verditerref08_Validate.l0 (k + 1) y0 y1)) ∧ (∀ y0 y1, LeO (verditerref08_Validate.l1 k y0 y1) (verditerref08_Validate.l1 (k + 1) y0 y1)) ∧ (∀ y0 y1 y2, LeO (verditerref08_Validate.l2 k y0 y1 y2) (verditerref08_Validate.l2 (k + 1) y0 y1 y2))
  | 0 => ⟨fun _ _ r h => by simp [verditerref08_Validate.l0] at h, fun _ _ r h => by simp [verditerref08_Validate.l1] at h, fun _ _ _ r h => by simp [verditerref08_Validate.l2] at h⟩
  | k + 1 => by
    obtain ⟨ih0, ih1, ih2⟩ := verditerref08_Validate.mono_l k
    refine ⟨?_, ?_, ?_⟩
    · intro y0 y1
      unfold verditerref08_Validate.l0
      repeat' first
      | (with_reducible exact ih0 _ _)
      | (with_reducible exact ih1 _ _)
      | (with_reducible exact ih2 _ _ _)
      | (with_reducible exact LeO.refl _)
      | (with_reducible exact LeO.none _)
      | (with_reducible refine LeO.ite ?_ ?_)
      | (with_reducible refine LeO.bind ?_ (fun _ => ?_))
      | exact ih0 _ _
      | exact ih1 _ _
      | exact ih2 _ _ _
      | exact LeO.none _
      | refine LeO.ite ?_ ?_
      | refine LeO.bind ?_ (fun _ => ?_)
    · intro y0 y1
      unfold verditerref08_Validate.l1
      repeat' first
      | (with_reducible exact ih0 _ _)
      | (with_reducible exact ih1 _ _)
      | (with_reducible exact ih2 _ _ _)
      | (with_reducible exact LeO.refl _)
      | (with_reducible exact LeO.none _)
      | (with_reducible refine LeO.ite ?_ ?_)
      | (with_reducible refine LeO.bind ?_ (fun _ => ?_))
      | exact ih0 _ _
      | exact ih1 _ _
      | exact ih2 _ _ _
      | exact LeO.none _
      | refine LeO.ite ?_ ?_
      | refine LeO.bind ?_ (fun _ => ?_)
    · intro y0 y1 y2
      unfold verditerref08_Validate.l2
      repeat' first
      | (with_reducible exact ih0 _ _)
      | (with_reducible exact ih1 _ _)
      | (with_reducible exact ih2 _ _ _)
      | (with_reducible exact LeO.refl _)
      | (with_reducible exact LeO.none _)
      | (with_reducible refine LeO.ite ?_ ?_)
      | (with_reducible refine LeO.bind ?_ (fun _ => ?_))
      | exact ih0 _ _
      | exact ih1 _ _
      | exact ih2 _ _ _
      | exact LeO.none _
      | refine LeO.ite ?_ ?_
      | refine LeO.bind ?_ (fun _ => ?_)
theorem verditerref08_Validate.mono : ∀ a0 k, LeO (verditerref08_Validate.f k a0) (verditerref08_Validate.f (k + 1) a0) := by
  intro a0 k
  obtain ⟨ih0, ih1, ih2⟩ := verditerref08_Validate.mono_l k
  unfold verditerref08_Validate.f
  repeat' first
      | (with_reducible exact ih0 _ _)
      | (with_reducible exact ih1 _ _)
      | (with_reducible exact ih2 _ _ _)
      | (with_reducible exact LeO.refl _)
      | (with_reducible exact LeO.none _)
      | (with_reducible refine LeO.ite ?_ ?_)
      | (with_reducible refine LeO.bind ?_ (fun _ => ?_))
      | exact ih0 _ _
      | exact ih1 _ _
      | exact ih2 _ _ _
      | exact LeO.none _
      | refine LeO.ite ?_ ?_
      | refine LeO.bind ?_ (fun _ => ?_)
set_option maxHeartbeats 8000000 in
set_option maxRecDepth 100000 in
theorem verditerref08_Validate.calls (k : Nat) (A0 : Option Addr) (c0 : Nat) (l0 : List (S43)) (r : Int) (w : World) (hr0 : Kd.C k43 w A0 l0.length l0) (hc0 : l0.length ≤ c0) (h : verditerref08_Validate.f k l0 = some r) :
    Calls Try.prog 66 #[.slice A0 l0.length c0] w fun e w' => e = .returned (.int .i64 r) ∧ Drawn0 w w' := by
  have HR0 := Aside0.mk hr0
  have HC0 := Aside0.mk hc0
  clear hr0 hc0
  have H : (if (l0.length : Int) > 12 then (some 3) else (verditerref08_Validate.l0 k l0 0)) = some r := h
  clear h
  by_cases c2 : (l0.length : Int) > 12
  · rw [if_pos c2] at H
    have c2b0 : decide (12 < (l0.length : Int)) = true := decide_eq_true c2
    have c2b1 : decide (12 < l0.length) = true := decide_eq_true (by omega)
    clear c2
    obtain rfl := Option.some.inj H
    go_enter Try.func66, Try.ntmps66
    go_wp2
    repeat (go_quiet (fail); try go_wp2)
    go_ret
    exact ⟨by first | rfl | (simp; done) | (simp [*]; done), by repeat (first | exact Drawn0.refl _ | apply Drawn0.step)⟩
  · rw [if_neg c2] at H
    have c2b0 : decide (12 < (l0.length : Int)) = false := decide_eq_false c2
    have c2b1 : decide (12 < l0.length) = false := decide_eq_false (by omega)
    clear c2
    have H' := Aside0.mk H
    clear H
    go_enter Try.func66, Try.ntmps66
    go_wp2
    repeat (go_quiet (fail); try go_wp2)
    go_loopg [3] k (fun kq v3 w' => ∃ (x3_1 : Int), v3 = .int .i64 x3_1 ∧ Aside0 (verditerref08_Validate.l0 kq l0 x3_1 = some r) ∧ Aside0 (kq ≤ k) ∧ Drawn0 w w')
    case atStart => exact ⟨(0), (by first | rfl | (simp; done) | (simp [*]; done)), H', ⟨Nat.le_refl _⟩, by repeat (first | exact Drawn0.refl _ | apply Drawn0.step)⟩
    case round =>
      clear H'
      try clear c2
      try clear c2b0
      try clear c2b1
      try clear p2
      obtain ⟨x3_1, rfl, HA, HK1, ⟨m1, rfl⟩⟩ := hrel
      cases gk with
      | zero => exact absurd HA.out (by simp [verditerref08_Validate.l0])
      | succ k1 =>
        have H := HA.out
        clear HA
        simp only [verditerref08_Validate.l0] at H
        by_cases c3 : x3_1 < (l0.length : Int)
        · rw [if_pos c3] at H
          have c3b0 : decide (x3_1 < (l0.length : Int)) = true := decide_eq_true c3
          clear c3
          by_cases c4 : 0 ≤ x3_1
          · rw [if_pos c4] at H
            have c4b0 : decide (0 ≤ x3_1) = true := decide_eq_true c4
            clear c4
            replace H := Option.bind_eq_some_iff.mp H
            obtain ⟨t175, A50, H⟩ := H
            replace H : (if t175 = true then ((verditerref08_isNumber.f ((rd_T43 l0 x3_1).f1)).bind fun t177 => (if t177 = true then (verditerref08_Validate.l0 k1 l0 (wrap64 (x3_1 + 1))) else (some 1))) else (some 1)) = some r := H
            have A5 := Aside0.mk A50
            clear A50
            by_cases c6 : t175 = true
            · subst c6
              have H1 : ((verditerref08_isNumber.f ((rd_T43 l0 x3_1).f1)).bind fun t177 => (if t177 = true then (verditerref08_Validate.l0 k1 l0 (wrap64 (x3_1 + 1))) else (some 1))) = some r := by rw [if_pos rfl] at H; exact H
              clear H
              have H := H1
              clear H1
              replace H := Option.bind_eq_some_iff.mp H
              obtain ⟨t177, A70, H⟩ := H
              replace H : (if t177 = true then (verditerref08_Validate.l0 k1 l0 (wrap64 (x3_1 + 1))) else (some 1)) = some r := H
              have A7 := Aside0.mk A70
              clear A70
              by_cases c8 : t177 = true
              · subst c8
                have H1 : (verditerref08_Validate.l0 k1 l0 (wrap64 (x3_1 + 1))) = some r := by rw [if_pos rfl] at H; exact H
                clear H
                have H := H1
                clear H1
                have H' := Aside0.mk H
                clear H
                have p174 : 0 ≤ (x3_1 : Int) := of_decide_eq_true (by first | (with_reducible assumption) | assumption)
                have q174 : x3_1 < (l0.length : Int) := of_decide_eq_true (by first | (with_reducible assumption) | assumption)
                obtain ⟨ad174, e174, hx174_0, hx174_1⟩ := at_T43 HR0.out x3_1 p174 q174
                cases e174
                replace p174 := eq_true p174
                replace q174 := eq_true q174
                go_wp2_with (first | (go_at_call 83; (with_reducible refine (verditerref08_within.calls ((rd_T43 l0 x3_1).f0) 1 250 true _ A5.out).mono ?_); rintro e w' ⟨rfl, ⟨nd, rfl⟩⟩; (try first | exact ⟨rfl, _, World.drewN_drewN _ _ _⟩ | exact ⟨rfl, _, Eq.trans (World.drewN_drewN _ _ _) (congrArg (World.drewN _) (Nat.add_assoc _ _ _))⟩); have p176 : 0 ≤ (x3_1 : Int) := of_decide_eq_true (by first | (with_reducible assumption) | assumption); have q176 : x3_1 < (l0.length : Int) := of_decide_eq_true (by first | (with_reducible assumption) | assumption); obtain ⟨ad176, e176, hx176_0, hx176_1⟩ := at_T43 HR0.out x3_1 p176 q176; obtain rfl : ad174 = ad176 := (by injection e176); replace p176 := eq_true p176; replace q176 := eq_true q176) | (go_at_call 75; (with_reducible refine (verditerref08_isNumber.calls ((rd_T43 l0 x3_1).f1) true _ A7.out).mono ?_); rintro e w' ⟨rfl, ⟨nd, rfl⟩⟩; (try first | exact ⟨rfl, _, World.drewN_drewN _ _ _⟩ | exact ⟨rfl, _, Eq.trans (World.drewN_drewN _ _ _) (congrArg (World.drewN _) (Nat.add_assoc _ _ _))⟩)))
                repeat (go_quiet (first | (go_at_call 83; (with_reducible refine (verditerref08_within.calls ((rd_T43 l0 x3_1).f0) 1 250 true _ A5.out).mono ?_); rintro e w' ⟨rfl, ⟨nd, rfl⟩⟩; (try first | exact ⟨rfl, _, World.drewN_drewN _ _ _⟩ | exact ⟨rfl, _, Eq.trans (World.drewN_drewN _ _ _) (congrArg (World.drewN _) (Nat.add_assoc _ _ _))⟩); have p176 : 0 ≤ (x3_1 : Int) := of_decide_eq_true (by first | (with_reducible assumption) | assumption); have q176 : x3_1 < (l0.length : Int) := of_decide_eq_true (by first | (with_reducible assumption) | assumption); obtain ⟨ad176, e176, hx176_0, hx176_1⟩ := at_T43 HR0.out x3_1 p176 q176; obtain rfl : ad174 = ad176 := (by injection e176); replace p176 := eq_true p176; replace q176 := eq_true q176) | (go_at_call 75; (with_reducible refine (verditerref08_isNumber.calls ((rd_T43 l0 x3_1).f1) true _ A7.out).mono ?_); rintro e w' ⟨rfl, ⟨nd, rfl⟩⟩; (try first | exact ⟨rfl, _, World.drewN_drewN _ _ _⟩ | exact ⟨rfl, _, Eq.trans (World.drewN_drewN _ _ _) (congrArg (World.drewN _) (Nat.add_assoc _ _ _))⟩))); try go_wp2_with (first | (go_at_call 83; (with_reducible refine (verditerref08_within.calls ((rd_T43 l0 x3_1).f0) 1 250 true _ A5.out).mono ?_); rintro e w' ⟨rfl, ⟨nd, rfl⟩⟩; (try first | exact ⟨rfl, _, World.drewN_drewN _ _ _⟩ | exact ⟨rfl, _, Eq.trans (World.drewN_drewN _ _ _) (congrArg (World.drewN _) (Nat.add_assoc _ _ _))⟩); have p176 : 0 ≤ (x3_1 : Int) := of_decide_eq_true (by first | (with_reducible assumption) | assumption); have q176 : x3_1 < (l0.length : Int) := of_decide_eq_true (by first | (with_reducible assumption) | assumption); obtain ⟨ad176, e176, hx176_0, hx176_1⟩ := at_T43 HR0.out x3_1 p176 q176; obtain rfl : ad174 = ad176 := (by injection e176); replace p176 := eq_true p176; replace q176 := eq_true q176) | (go_at_call 75; (with_reducible refine (verditerref08_isNumber.calls ((rd_T43 l0 x3_1).f1) true _ A7.out).mono ?_); rintro e w' ⟨rfl, ⟨nd, rfl⟩⟩; (try first | exact ⟨rfl, _, World.drewN_drewN _ _ _⟩ | exact ⟨rfl, _, Eq.trans (World.drewN_drewN _ _ _) (congrArg (World.drewN _) (Nat.add_assoc _ _ _))⟩))))
                go_roundg k1
                case measure => have := HK1.out; omega
                case rel => exact ⟨(wrap64 (x3_1 + 1)), (by first | rfl | (simp; done) | (simp [*]; done)), H', ⟨by have := HK1.out; omega⟩, by repeat (first | exact Drawn0.refl _ | apply Drawn0.step)⟩
              · replace c8 := Bool.eq_false_iff.mpr c8
                subst c8
                have H1 : (some 1) = some r := by rw [if_neg (show ¬ (false = true) by decide)] at H; exact H
                clear H
                have H := H1
                clear H1
                obtain rfl := Option.some.inj H
                have p174 : 0 ≤ (x3_1 : Int) := of_decide_eq_true (by first | (with_reducible assumption) | assumption)
                have q174 : x3_1 < (l0.length : Int) := of_decide_eq_true (by first | (with_reducible assumption) | assumption)
                obtain ⟨ad174, e174, hx174_0, hx174_1⟩ := at_T43 HR0.out x3_1 p174 q174
                cases e174
                replace p174 := eq_true p174
                replace q174 := eq_true q174
                go_wp2_with (first | (go_at_call 83; (with_reducible refine (verditerref08_within.calls ((rd_T43 l0 x3_1).f0) 1 250 true _ A5.out).mono ?_); rintro e w' ⟨rfl, ⟨nd, rfl⟩⟩; (try first | exact ⟨rfl, _, World.drewN_drewN _ _ _⟩ | exact ⟨rfl, _, Eq.trans (World.drewN_drewN _ _ _) (congrArg (World.drewN _) (Nat.add_assoc _ _ _))⟩); have p176 : 0 ≤ (x3_1 : Int) := of_decide_eq_true (by first | (with_reducible assumption) | assumption); have q176 : x3_1 < (l0.length : Int) := of_decide_eq_true (by first | (with_reducible assumption) | assumption); obtain ⟨ad176, e176, hx176_0, hx176_1⟩ := at_T43 HR0.out x3_1 p176 q176; obtain rfl : ad174 = ad176 := (by injection e176); replace p176 := eq_true p176; replace q176 := eq_true q176) | (go_at_call 75; (with_reducible refine (verditerref08_isNumber.calls ((rd_T43 l0 x3_1).f1) false _ A7.out).mono ?_); rintro e w' ⟨rfl, ⟨nd, rfl⟩⟩; (try first | exact ⟨rfl, _, World.drewN_drewN _ _ _⟩ | exact ⟨rfl, _, Eq.trans (World.drewN_drewN _ _ _) (congrArg (World.drewN _) (Nat.add_assoc _ _ _))⟩)))
                repeat (go_quiet (first | (go_at_call 83; (with_reducible refine (verditerref08_within.calls ((rd_T43 l0 x3_1).f0) 1 250 true _ A5.out).mono ?_); rintro e w' ⟨rfl, ⟨nd, rfl⟩⟩; (try first | exact ⟨rfl, _, World.drewN_drewN _ _ _⟩ | exact ⟨rfl, _, Eq.trans (World.drewN_drewN _ _ _) (congrArg (World.drewN _) (Nat.add_assoc _ _ _))⟩); have p176 : 0 ≤ (x3_1 : Int) := of_decide_eq_true (by first | (with_reducible assumption) | assumption); have q176 : x3_1 < (l0.length : Int) := of_decide_eq_true (by first | (with_reducible assumption) | assumption); obtain ⟨ad176, e176, hx176_0, hx176_1⟩ := at_T43 HR0.out x3_1 p176 q176; obtain rfl : ad174 = ad176 := (by injection e176); replace p176 := eq_true p176; replace q176 := eq_true q176) | (go_at_call 75; (with_reducible refine (verditerref08_isNumber.calls ((rd_T43 l0 x3_1).f1) false _ A7.out).mono ?_); rintro e w' ⟨rfl, ⟨nd, rfl⟩⟩; (try first | exact ⟨rfl, _, World.drewN_drewN _ _ _⟩ | exact ⟨rfl, _, Eq.trans (World.drewN_drewN _ _ _) (congrArg (World.drewN _) (Nat.add_assoc _ _ _))⟩))); try go_wp2_with (first | (go_at_call 83; (with_reducible refine (verditerref08_within.calls ((rd_T43 l0 x3_1).f0) 1 250 true _ A5.out).mono ?_); rintro e w' ⟨rfl, ⟨nd, rfl⟩⟩; (try first | exact ⟨rfl, _, World.drewN_drewN _ _ _⟩ | exact ⟨rfl, _, Eq.trans (World.drewN_drewN _ _ _) (congrArg (World.drewN _) (Nat.add_assoc _ _ _))⟩); have p176 : 0 ≤ (x3_1 : Int) := of_decide_eq_true (by first | (with_reducible assumption) | assumption); have q176 : x3_1 < (l0.length : Int) := of_decide_eq_true (by first | (with_reducible assumption) | assumption); obtain ⟨ad176, e176, hx176_0, hx176_1⟩ := at_T43 HR0.out x3_1 p176 q176; obtain rfl : ad174 = ad176 := (by injection e176); replace p176 := eq_true p176; replace q176 := eq_true q176) | (go_at_call 75; (with_reducible refine (verditerref08_isNumber.calls ((rd_T43 l0 x3_1).f1) false _ A7.out).mono ?_); rintro e w' ⟨rfl, ⟨nd, rfl⟩⟩; (try first | exact ⟨rfl, _, World.drewN_drewN _ _ _⟩ | exact ⟨rfl, _, Eq.trans (World.drewN_drewN _ _ _) (congrArg (World.drewN _) (Nat.add_assoc _ _ _))⟩))))
                go_ret
                exact ⟨by first | rfl | (simp; done) | (simp [*]; done), by repeat (first | exact Drawn0.refl _ | apply Drawn0.step)⟩
            · replace c6 := Bool.eq_false_iff.mpr c6
              subst c6
              have H1 : (some 1) = some r := by rw [if_neg (show ¬ (false = true) by decide)] at H; exact H
              clear H
              have H := H1
              clear H1
              obtain rfl := Option.some.inj H
              have p174 : 0 ≤ (x3_1 : Int) := of_decide_eq_true (by first | (with_reducible assumption) | assumption)
              have q174 : x3_1 < (l0.length : Int) := of_decide_eq_true (by first | (with_reducible assumption) | assumption)
              obtain ⟨ad174, e174, hx174_0, hx174_1⟩ := at_T43 HR0.out x3_1 p174 q174
              cases e174
              replace p174 := eq_true p174
              replace q174 := eq_true q174
              go_wp2_with (first | (go_at_call 83; (with_reducible refine (verditerref08_within.calls ((rd_T43 l0 x3_1).f0) 1 250 false _ A5.out).mono ?_); rintro e w' ⟨rfl, ⟨nd, rfl⟩⟩; (try first | exact ⟨rfl, _, World.drewN_drewN _ _ _⟩ | exact ⟨rfl, _, Eq.trans (World.drewN_drewN _ _ _) (congrArg (World.drewN _) (Nat.add_assoc _ _ _))⟩)))
              repeat (go_quiet (first | (go_at_call 83; (with_reducible refine (verditerref08_within.calls ((rd_T43 l0 x3_1).f0) 1 250 false _ A5.out).mono ?_); rintro e w' ⟨rfl, ⟨nd, rfl⟩⟩; (try first | exact ⟨rfl, _, World.drewN_drewN _ _ _⟩ | exact ⟨rfl, _, Eq.trans (World.drewN_drewN _ _ _) (congrArg (World.drewN _) (Nat.add_assoc _ _ _))⟩))); try go_wp2_with (first | (go_at_call 83; (with_reducible refine (verditerref08_within.calls ((rd_T43 l0 x3_1).f0) 1 250 false _ A5.out).mono ?_); rintro e w' ⟨rfl, ⟨nd, rfl⟩⟩; (try first | exact ⟨rfl, _, World.drewN_drewN _ _ _⟩ | exact ⟨rfl, _, Eq.trans (World.drewN_drewN _ _ _) (congrArg (World.drewN _) (Nat.add_assoc _ _ _))⟩))))
              go_ret
              exact ⟨by first | rfl | (simp; done) | (simp [*]; done), by repeat (first | exact Drawn0.refl _ | apply Drawn0.step)⟩
          · rw [if_neg c4] at H
            exact absurd H (by simp)
        · rw [if_neg c3] at H
          have c3b0 : decide (x3_1 < (l0.length : Int)) = false := decide_eq_false c3
          clear c3
          have H' := Aside0.mk H
          clear H
          go_wp2
          repeat (go_quiet (fail); try go_wp2)
          go_loopg [4] k1 (fun kq v4 w' => ∃ (x4_2 : Int), v4 = .int .i64 x4_2 ∧ Aside0 (verditerref08_Validate.l1 kq l0 x4_2 = some r) ∧ Aside0 (kq ≤ k1) ∧ Drawn0 w w')
          case atStart => exact ⟨(0), (by first | rfl | (simp; done) | (simp [*]; done)), H', ⟨Nat.le_refl _⟩, by repeat (first | exact Drawn0.refl _ | apply Drawn0.step)⟩
          case round =>
            clear H'
            try clear p1
            try clear q1
            try clear hx1
            try clear c2
            try clear c2b0
            try clear c2b1
            try clear p2
            try clear c3
            try clear c3b0
            try clear c4
            try clear c4b0
            try clear c6
            try clear p6
            try clear c8
            try clear hx174_0
            try clear hx174_1
            try clear hx176_0
            try clear hx176_1
            try clear p174
            try clear p176
            try clear p2
            try clear q174
            try clear q176
            obtain ⟨x4_2, rfl, HA, HK2, ⟨m2, rfl⟩⟩ := hrel
            cases gk with
            | zero => exact absurd HA.out (by simp [verditerref08_Validate.l1])
            | succ k2 =>
              have H := HA.out
              clear HA
              simp only [verditerref08_Validate.l1] at H
              by_cases c9 : x4_2 < (l0.length : Int)
              · rw [if_pos c9] at H
                have c9b0 : decide (x4_2 < (l0.length : Int)) = true := decide_eq_true c9
                clear c9
                have H' := Aside0.mk H
                clear H
                go_wp2
                repeat (go_quiet (fail); try go_wp2)
                go_loopg [5] k2 (fun kq v5 w' => ∃ (x5_3 : Int), v5 = .int .i64 x5_3 ∧ Aside0 (verditerref08_Validate.l2 kq l0 x4_2 x5_3 = some r) ∧ Aside0 (kq ≤ k2) ∧ Drawn0 w w')
                case atStart => exact ⟨(0), (by first | rfl | (simp; done) | (simp [*]; done)), H', ⟨Nat.le_refl _⟩, by repeat (first | exact Drawn0.refl _ | apply Drawn0.step)⟩
                case round =>
                  clear H'
                  try clear p1
                  try clear q1
                  try clear hx1
                  try clear c2
                  try clear c2b0
                  try clear c2b1
                  try clear p2
                  try clear c3
                  try clear c3b0
                  try clear c4
                  try clear c4b0
                  try clear c6
                  try clear p6
                  try clear c8
                  try clear c9
                  try clear c9b0
                  try clear hx174_0
                  try clear hx174_1
                  try clear hx176_0
                  try clear hx176_1
                  try clear p1
                  try clear p174
                  try clear p176
                  try clear p2
                  try clear p6
                  try clear q1
                  try clear q174
                  try clear q176
                  obtain ⟨x5_3, rfl, HA, HK3, ⟨m3, rfl⟩⟩ := hrel
                  cases gk with
                  | zero => exact absurd HA.out (by simp [verditerref08_Validate.l2])
                  | succ k3 =>
                    have H := HA.out
                    clear HA
                    simp only [verditerref08_Validate.l2] at H
                    by_cases c10 : x5_3 < x4_2
                    · rw [if_pos c10] at H
                      have c10b0 : decide (x5_3 < x4_2) = true := decide_eq_true c10
                      clear c10
                      by_cases c11 : 0 ≤ x4_2
                      · rw [if_pos c11] at H
                        have c11b0 : decide (0 ≤ x4_2) = true := decide_eq_true c11
                        clear c11
                        by_cases c12 : x4_2 < (l0.length : Int)
                        · rw [if_pos c12] at H
                          have c12b0 : decide (x4_2 < (l0.length : Int)) = true := decide_eq_true c12
                          clear c12
                          by_cases c13 : 0 ≤ x5_3
                          · rw [if_pos c13] at H
                            have c13b0 : decide (0 ≤ x5_3) = true := decide_eq_true c13
                            clear c13
                            by_cases c14 : x5_3 < (l0.length : Int)
                            · rw [if_pos c14] at H
                              have c14b0 : decide (x5_3 < (l0.length : Int)) = true := decide_eq_true c14
                              clear c14
                              by_cases c15 : ((rd_T43 l0 x4_2).f0) = ((rd_T43 l0 x5_3).f0)
                              · rw [if_pos c15] at H
                                have c15b0 : (((rd_T43 l0 x4_2).f0) == ((rd_T43 l0 x5_3).f0)) = true := beq_iff_eq.mpr c15
                                have c15b1 : (((rd_T43 l0 x4_2).f0) != ((rd_T43 l0 x5_3).f0)) = false := bne_eq_false_iff_eq.mpr c15
                                clear c15
                                obtain rfl := Option.some.inj H
                                have p178 : 0 ≤ (x4_2 : Int) := of_decide_eq_true (by first | (with_reducible assumption) | assumption)
                                have q178 : x4_2 < (l0.length : Int) := of_decide_eq_true (by first | (with_reducible assumption) | assumption)
                                obtain ⟨ad178, e178, hx178_0, hx178_1⟩ := at_T43 HR0.out x4_2 p178 q178
                                cases e178
                                replace p178 := eq_true p178
                                replace q178 := eq_true q178
                                have p179 : 0 ≤ (x5_3 : Int) := of_decide_eq_true (by first | (with_reducible assumption) | assumption)
                                have q179 : x5_3 < (l0.length : Int) := of_decide_eq_true (by first | (with_reducible assumption) | assumption)
                                obtain ⟨ad179, e179, hx179_0, hx179_1⟩ := at_T43 HR0.out x5_3 p179 q179
                                obtain rfl : ad178 = ad179 := (by injection e179)
                                replace p179 := eq_true p179
                                replace q179 := eq_true q179
                                go_wp2
                                repeat (go_quiet (fail); try go_wp2)
                                go_ret
                                exact ⟨by first | rfl | (simp; done) | (simp [*]; done), by repeat (first | exact Drawn0.refl _ | apply Drawn0.step)⟩
                              · rw [if_neg c15] at H
                                have c15b0 : (((rd_T43 l0 x4_2).f0) == ((rd_T43 l0 x5_3).f0)) = false := beq_eq_false_iff_ne.mpr c15
                                have c15b1 : (((rd_T43 l0 x4_2).f0) != ((rd_T43 l0 x5_3).f0)) = true := bne_iff_ne.mpr c15
                                have H' := Aside0.mk H
                                clear H
                                have p178 : 0 ≤ (x4_2 : Int) := of_decide_eq_true (by first | (with_reducible assumption) | assumption)
                                have q178 : x4_2 < (l0.length : Int) := of_decide_eq_true (by first | (with_reducible assumption) | assumption)
                                obtain ⟨ad178, e178, hx178_0, hx178_1⟩ := at_T43 HR0.out x4_2 p178 q178
                                cases e178
                                replace p178 := eq_true p178
                                replace q178 := eq_true q178
                                have p179 : 0 ≤ (x5_3 : Int) := of_decide_eq_true (by first | (with_reducible assumption) | assumption)
                                have q179 : x5_3 < (l0.length : Int) := of_decide_eq_true (by first | (with_reducible assumption) | assumption)
                                obtain ⟨ad179, e179, hx179_0, hx179_1⟩ := at_T43 HR0.out x5_3 p179 q179
                                obtain rfl : ad178 = ad179 := (by injection e179)
                                replace p179 := eq_true p179
                                replace q179 := eq_true q179
                                go_wp2
                                repeat (go_quiet (fail); try go_wp2)
                                go_roundg k3
                                case measure => have := HK1.out; have := HK2.out; have := HK3.out; omega
                                case rel => exact ⟨(wrap64 (x5_3 + 1)), (by first | rfl | (simp; done) | (simp [*]; done)), H', ⟨by have := HK1.out; have := HK2.out; have := HK3.out; omega⟩, by repeat (first | exact Drawn0.refl _ | apply Drawn0.step)⟩
                            · rw [if_neg c14] at H
                              exact absurd H (by simp)
                          · rw [if_neg c13] at H
                            exact absurd H (by simp)
                        · rw [if_neg c12] at H
                          exact absurd H (by simp)
                      · rw [if_neg c11] at H
                        exact absurd H (by simp)
                    · rw [if_neg c10] at H
                      have c10b0 : decide (x5_3 < x4_2) = false := decide_eq_false c10
                      clear c10
                      have H' := Aside0.mk H
                      clear H
                      go_wp2
                      repeat (go_quiet (fail); try go_wp2)
                      go_roundg k3
                      case measure => have := HK1.out; have := HK2.out; have := HK3.out; omega
                      case rel => exact ⟨(wrap64 (x4_2 + 1)), (by first | rfl | (simp; done) | (simp [*]; done)), H', ⟨by have := HK1.out; have := HK2.out; have := HK3.out; omega⟩, by repeat (first | exact Drawn0.refl _ | apply Drawn0.step)⟩
              · rw [if_neg c9] at H
                have c9b0 : decide (x4_2 < (l0.length : Int)) = false := decide_eq_false c9
                clear c9
                obtain rfl := Option.some.inj H
                go_wp2
                repeat (go_quiet (fail); try go_wp2)
                go_ret
                exact ⟨by first | rfl | (simp; done) | (simp [*]; done), by repeat (first | exact Drawn0.refl _ | apply Drawn0.step)⟩

end Go.Proofs.Ythlbjdiicmojfaa.P

/-! Part PF70. -/
-- Written for this claim by wip/print_more.py (a session's program that runs the kit's printer with hand-proved functions beside). Lean checks it.
namespace Go.Proofs.Ythlbjdiicmojfaa.P
open Go.RowKit Go.Proofs.YthlbjdiicmojfaaW.PrintWords Go.Proofs.YthlbjdiicmojfaaW.PrintLast Go.Proofs.YthlbjdiicmojfaaW.PrintMore
attribute [local go_sem] max2_int min2_int max_two min_two max_three min_three max_four min_four   -- for this text's walks alone
set_option linter.unusedVariables false
set_option linter.unusedSimpArgs false

/-! ### verditerref08_Add: function 70 -/
def verditerref08_Add.l0 : Nat → List (S43) → List (S43) → List (S43) → Int → Option ((List (S43)) × Int)
  | 0, _, _, _, _ => none
  | k + 1, x0, x1, x7, x8 => if x8 < (x0.length : Int) then (if 0 ≤ x8 then (if x8 < (x1.length : Int) then (if ((rd_T43 x0 x8).f0) = ((rd_T43 x1 x8).f0) then ((verditerref08_mod.f (wrap64 (((rd_T43 x0 x8).f1) + ((rd_T43 x1 x8).f1)))).bind fun t573 => (if x7.length < 8796093022208 then (verditerref08_Add.l0 k x0 x1 (x7 ++ [(⟨(rd_T43 x0 x8).f0, t573⟩ : S43)]) (wrap64 (x8 + 1))) else (none))) else (some (([] : List (S43)), 5))) else (none)) else (none)) else (some (x7, 0))
def verditerref08_Add.f (k : Nat) (l0 : List (S43)) (l1 : List (S43)) : Option ((List (S43)) × Int) := (verditerref08_Validate.f k l0).bind fun t566 => (if t566 = 0 then ((verditerref08_Validate.f k l1).bind fun t567 => (if t567 = 0 then (if (l0.length : Int) = (l1.length : Int) then (verditerref08_Add.l0 k l0 l1 ([] : List (S43)) 0) else (some (([] : List (S43)), 5))) else (some (([] : List (S43)), t567)))) else (some (([] : List (S43)), t566)))
theorem verditerref08_Add.mono_l : ∀ k, (∀ y0 y1 y2 y3, LeO (verditerref08_Add.l0 k y0 y1 y2 y3) (verditerref08_Add.l0 (k + 1) y0 y1 y2 y3))
  | 0 => fun _ _ _ _ r h => by simp [verditerref08_Add.l0] at h
  | k + 1 => by
    have ih0 := verditerref08_Add.mono_l k
    · intro y0 y1 y2 y3
      unfold verditerref08_Add.l0
      repeat' first
      | (with_reducible exact ih0 _ _ _ _)
      | (with_reducible exact verditerref08_Validate.mono _ _)
      | (with_reducible exact LeO.refl _)
      | (with_reducible exact LeO.none _)
      | (with_reducible refine LeO.ite ?_ ?_)
      | (with_reducible refine LeO.bind ?_ (fun _ => ?_))
      | exact ih0 _ _ _ _
      | exact verditerref08_Validate.mono _ _
      | exact LeO.none _
      | refine LeO.ite ?_ ?_
      | refine LeO.bind ?_ (fun _ => ?_)
theorem verditerref08_Add.mono : ∀ a0 a1 k, LeO (verditerref08_Add.f k a0 a1) (verditerref08_Add.f (k + 1) a0 a1) := by
  intro a0 a1 k
  have ih0 := verditerref08_Add.mono_l k
  unfold verditerref08_Add.f
  repeat' first
      | (with_reducible exact ih0 _ _ _ _)
      | (with_reducible exact verditerref08_Validate.mono _ _)
      | (with_reducible exact LeO.refl _)
      | (with_reducible exact LeO.none _)
      | (with_reducible refine LeO.ite ?_ ?_)
      | (with_reducible refine LeO.bind ?_ (fun _ => ?_))
      | exact ih0 _ _ _ _
      | exact verditerref08_Validate.mono _ _
      | exact LeO.none _
      | refine LeO.ite ?_ ?_
      | refine LeO.bind ?_ (fun _ => ?_)
def verditerref08_Add.T13 : Bool × List (List Nat × List Nat) := (true, [([], []), ([], []), ([0, 1], [0, 1]), ([2], [2]), ([3], [3]), ([], []), ([], []), ([5, 6], [5, 6]), ([7], [7]), ([8], [8]), ([4, 9], [4, 9])])
def verditerref08_Add.B13 : List Nat := [0, 0, 3, 7, 15, 0, 0, 96, 224, 480, 1023]
theorem verditerref08_Add.tab13 : rtab .any (opsOf Try.f70 13) = verditerref08_Add.T13 := by kernel_rfl
theorem verditerref08_Add.bits13 : waitsOk verditerref08_Add.T13.2 verditerref08_Add.B13 = true := by kernel_rfl
def verditerref08_Add.T15 : Bool × List (List Nat × List Nat) := (true, [([], []), ([], []), ([], []), ([1, 2], [1, 2]), ([3], [3]), ([4], [4]), ([], []), ([], []), ([6, 7], [6, 7]), ([8], [8]), ([9], [9]), ([], []), ([], []), ([11, 12], [11, 12]), ([13], [13]), ([14], [14]), ([10, 15], [10, 15]), ([16], [16]), ([5, 17], [5, 17]), ([18], [18]), ([0, 19, 17], [0, 19]), ([20, 20, 0, 1, 2, 3, 4, 5, 6, 7, 8, 9, 10, 11, 12, 13, 14, 15, 16, 17, 18, 19, 20], [0, 20])])
def verditerref08_Add.B15 : List Nat := [0, 0, 0, 6, 14, 30, 0, 0, 192, 448, 960, 0, 0, 6144, 14336, 30720, 65472, 131008, 262142, 524286, 1048575, 2097151]
theorem verditerref08_Add.tab15 : rtab .any (opsOf Try.f70 15) = verditerref08_Add.T15 := by kernel_rfl
theorem verditerref08_Add.bits15 : waitsOk verditerref08_Add.T15.2 verditerref08_Add.B15 = true := by kernel_rfl
set_option maxHeartbeats 8000000 in
set_option maxRecDepth 100000 in
theorem verditerref08_Add.calls (k : Nat) (A0 : Option Addr) (c0 : Nat) (l0 : List (S43)) (A1 : Option Addr) (c1 : Nat) (l1 : List (S43)) (r1 : List (S43)) (r2 : Int) (w : World) (hr0 : Kd.C k43 w A0 l0.length l0) (hc0 : l0.length ≤ c0) (hr1 : Kd.C k43 w A1 l1.length l1) (hc1 : l1.length ≤ c1) (h : verditerref08_Add.f k l0 l1 = some (r1, r2)) :
    Calls Try.prog 70 #[.slice A0 l0.length c0, .slice A1 l1.length c1] w fun e w' => ∃ v0_ : Value, e = .returned (.tuple #[v0_, .int .i64 r2]) ∧ Kd.R k43 43 w' w.heap.size (fun _ => True) v0_ r1 ∧ Below w.heap.size w w' := by
  have hu43 := Try.underlying43
  have HR0 := Aside0.mk hr0
  have HC0 := Aside0.mk hc0
  clear hr0 hc0
  have HR1 := Aside0.mk hr1
  have HC1 := Aside0.mk hc1
  clear hr1 hc1
  have HB := Aside0.mk (Below.refl w.heap.size w)
  have H : ((verditerref08_Validate.f k l0).bind fun t566 => (if t566 = 0 then ((verditerref08_Validate.f k l1).bind fun t567 => (if t567 = 0 then (if (l0.length : Int) = (l1.length : Int) then (verditerref08_Add.l0 k l0 l1 ([] : List (S43)) 0) else (some (([] : List (S43)), 5))) else (some (([] : List (S43)), t567)))) else (some (([] : List (S43)), t566)))) = some (r1, r2) := h
  clear h
  replace H := Option.bind_eq_some_iff.mp H
  obtain ⟨t566, A30, H⟩ := H
  replace H : (if t566 = 0 then ((verditerref08_Validate.f k l1).bind fun t567 => (if t567 = 0 then (if (l0.length : Int) = (l1.length : Int) then (verditerref08_Add.l0 k l0 l1 ([] : List (S43)) 0) else (some (([] : List (S43)), 5))) else (some (([] : List (S43)), t567)))) else (some (([] : List (S43)), t566))) = some (r1, r2) := H
  have A3 := Aside0.mk A30
  clear A30
  by_cases c4 : t566 = 0
  · rw [if_pos c4] at H
    have c4b0 : (t566 == 0) = true := beq_iff_eq.mpr c4
    have c4b1 : (t566 != 0) = false := bne_eq_false_iff_eq.mpr c4
    clear c4
    replace H := Option.bind_eq_some_iff.mp H
    obtain ⟨t567, A50, H⟩ := H
    replace H : (if t567 = 0 then (if (l0.length : Int) = (l1.length : Int) then (verditerref08_Add.l0 k l0 l1 ([] : List (S43)) 0) else (some (([] : List (S43)), 5))) else (some (([] : List (S43)), t567))) = some (r1, r2) := H
    have A5 := Aside0.mk A50
    clear A50
    by_cases c6 : t567 = 0
    · rw [if_pos c6] at H
      have c6b0 : (t567 == 0) = true := beq_iff_eq.mpr c6
      have c6b1 : (t567 != 0) = false := bne_eq_false_iff_eq.mpr c6
      clear c6
      by_cases c7 : (l0.length : Int) = (l1.length : Int)
      · rw [if_pos c7] at H
        have c7b0 : ((l0.length : Int) == (l1.length : Int)) = true := beq_iff_eq.mpr c7
        have c7b1 : ((l0.length : Int) != (l1.length : Int)) = false := bne_eq_false_iff_eq.mpr c7
        have c7b2 : (l0.length == l1.length) = true := by first | simpa using c7 | (simp at c7 ⊢; omega)
        clear c7
        have H' := Aside0.mk H
        clear H
        go_enter Try.func70, Try.ntmps70
        go_wp2_with (first | ((with_reducible refine gate_callee (f := 66) rfl ?_); refine goesL_ (some 10) rfl rfl Try.func66 (by kernel_rfl) rfl #[.slice A0 l0.length c0] rfl (by (try simp only [List.map_toArray, List.map_cons, List.map_nil]); first | done | rfl | (simp only [List.length_drop, List.length_take]; rfl)) ?_; (with_reducible refine (verditerref08_Validate.calls k _ _ l0 t566 _ ?side1 ?side2 A3.out).mono ?_); (case side1 => repeat (first | exact HR0.out | (with_reducible refine Kd.C_alloc ?_ _) | (with_reducible refine Kd.C_drewN ?_ _) | (with_reducible refine Kd.C_drew ?_))); (case side2 => exact HC0.out); rintro e w' ⟨rfl, ⟨nd, rfl⟩⟩; refine ⟨_, rfl, ?_⟩) | ((with_reducible refine gate_callee (f := 66) rfl ?_); refine goesL_ (some 15) rfl rfl Try.func66 (by kernel_rfl) rfl #[.slice A1 l1.length c1] rfl (by (try simp only [List.map_toArray, List.map_cons, List.map_nil]); first | done | rfl | (simp only [List.length_drop, List.length_take]; rfl)) ?_; (with_reducible refine (verditerref08_Validate.calls k _ _ l1 t567 _ ?side1 ?side2 A5.out).mono ?_); (case side1 => repeat (first | exact HR1.out | (with_reducible refine Kd.C_alloc ?_ _) | (with_reducible refine Kd.C_drewN ?_ _) | (with_reducible refine Kd.C_drew ?_))); (case side2 => exact HC1.out); rintro e w' ⟨rfl, ⟨nd, rfl⟩⟩; refine ⟨_, rfl, ?_⟩))
        go_loopg [7, 8] k (fun kq v7 v8 w' => ∃ (x7_1 : List (S43)) (x8_1 : Int), v8 = .int .i64 x8_1 ∧ Aside0 (verditerref08_Add.l0 kq l0 l1 x7_1 x8_1 = some (r1, r2)) ∧ Aside0 (kq ≤ k) ∧ Aside0 (Kd.R k43 43 w' w.heap.size (fun _ => True) v7 x7_1) ∧ Aside0 (Below w.heap.size w w'))
        case atStart => exact ⟨(([] : List (S43))), (0), (by first | rfl | (simp; done) | (simp [*]; done)), H', ⟨Nat.le_refl _⟩, ⟨by first | exact Kd.R_nil _ _ _ _ _ | exact Kd.N_nil _ _ _ _ _ | exact Kd.V_nil _ _ _ _ _ | exact Kd.Q_nil _ _ _ _ _ | exact Kd.S_nil _ _ _ _ _⟩, ⟨by repeat (first | (with_reducible first | exact HB.out | apply below_alloc | apply pw_below_drewN | apply below_drew1) | exact HB.out)⟩⟩
        case round =>
          clear H'
          try clear c1
          try clear p2
          try clear c4
          try clear c4b0
          try clear c4b1
          try clear c6
          try clear c6b0
          try clear c6b1
          try clear c7
          try clear c7b0
          try clear c7b1
          try clear c7b2
          obtain ⟨x7_1, x8_1, rfl, HA, HK1, HO_7, HB⟩ := hrel
          cases gk with
          | zero => exact absurd HA.out (by simp [verditerref08_Add.l0])
          | succ k1 =>
            have H := HA.out
            clear HA
            simp only [verditerref08_Add.l0] at H
            by_cases c8 : x8_1 < (l0.length : Int)
            · rw [if_pos c8] at H
              have c8b0 : decide (x8_1 < (l0.length : Int)) = true := decide_eq_true c8
              clear c8
              by_cases c9 : 0 ≤ x8_1
              · rw [if_pos c9] at H
                have c9b0 : decide (0 ≤ x8_1) = true := decide_eq_true c9
                clear c9
                by_cases c10 : x8_1 < (l1.length : Int)
                · rw [if_pos c10] at H
                  have c10b0 : decide (x8_1 < (l1.length : Int)) = true := decide_eq_true c10
                  clear c10
                  by_cases c11 : ((rd_T43 l0 x8_1).f0) = ((rd_T43 l1 x8_1).f0)
                  · rw [if_pos c11] at H
                    have c11b0 : (((rd_T43 l0 x8_1).f0) == ((rd_T43 l1 x8_1).f0)) = true := beq_iff_eq.mpr c11
                    have c11b1 : (((rd_T43 l0 x8_1).f0) != ((rd_T43 l1 x8_1).f0)) = false := bne_eq_false_iff_eq.mpr c11
                    clear c11
                    replace H := Option.bind_eq_some_iff.mp H
                    obtain ⟨t573, A120, H⟩ := H
                    replace H : (if x7_1.length < 8796093022208 then (verditerref08_Add.l0 k1 l0 l1 (x7_1 ++ [(⟨(rd_T43 l0 x8_1).f0, t573⟩ : S43)]) (wrap64 (x8_1 + 1))) else (none)) = some (r1, r2) := H
                    have A12 := Aside0.mk A120
                    clear A120
                    by_cases c13 : x7_1.length < 8796093022208
                    · rw [if_pos c13] at H
                      have LMc13 := Aside0.mk c13
                      clear c13
                      obtain ⟨y574, hy574⟩ : ∃ y_ : List (S43), y_ = (x7_1 ++ [(⟨(rd_T43 l0 x8_1).f0, t573⟩ : S43)]) := ⟨_, rfl⟩
                      replace H : (verditerref08_Add.l0 k1 l0 l1 y574 (wrap64 (x8_1 + 1))) = some (r1, r2) := by first | (rw [hy574]; with_reducible exact H) | (have H2_ := (Option.bind_some _ _).symm.trans H; rw [hy574]; with_reducible exact H2_) | (have H2_ := (Option.bind_some _ _).symm.trans H; with_reducible exact H2_) | with_reducible exact H | (rw [hy574]; exact H) | exact H
                      have Ny574 := Aside0.mk hy574
                      clear hy574
                      have H' := Aside0.mk H
                      clear H
                      try go_wp2
                      have n0_ := Aside0.mk (Kd.R_drew HO_7.out)
                      have n1_ := Aside0.mk (below_drew1 HB.out)
                      clear HO_7
                      clear HB
                      have HO_7 := n0_
                      have HB := n1_
                      clear n0_ n1_
                      have p568 : 0 ≤ (x8_1 : Int) := of_decide_eq_true (by first | (with_reducible assumption) | assumption)
                      have q568 : x8_1 < (l0.length : Int) := of_decide_eq_true (by first | (with_reducible assumption) | assumption)
                      obtain ⟨ad568, e568, hx568_0, hx568_1⟩ := at_T43 HR0.out x8_1 p568 q568
                      have hw568_1 := hx568_1
                      have hw568_0 := hx568_0
                      cases e568
                      replace hx568_0 := (HB.out.cell (World.block_lt_of_cell? w _ hx568_0)).trans hx568_0
                      replace hx568_1 := (HB.out.cell (World.block_lt_of_cell? w _ hx568_1)).trans hx568_1
                      replace p568 := eq_true p568
                      replace q568 := eq_true q568
                      have p569 : 0 ≤ (x8_1 : Int) := of_decide_eq_true (by first | (with_reducible assumption) | assumption)
                      have q569 : x8_1 < (l1.length : Int) := of_decide_eq_true (by first | (with_reducible assumption) | assumption)
                      obtain ⟨ad569, e569, hx569_0, hx569_1⟩ := at_T43 HR1.out x8_1 p569 q569
                      have hw569_1 := hx569_1
                      have hw569_0 := hx569_0
                      cases e569
                      replace hx569_0 := (HB.out.cell (World.block_lt_of_cell? w _ hx569_0)).trans hx569_0
                      replace hx569_1 := (HB.out.cell (World.block_lt_of_cell? w _ hx569_1)).trans hx569_1
                      replace p569 := eq_true p569
                      replace q569 := eq_true q569
                      refine start_ (n := 11) (S := fun w' => w'.cell? (ad568.add ((x8_1).toNat * 2)) = some (.int .i64 ((rd_T43 l0 x8_1).f0)) ∧ w'.cell? ⟨(ad568.add ((x8_1).toNat * 2)).block, (ad568.add ((x8_1).toNat * 2)).off + 1, none⟩ = some (.int .i64 ((rd_T43 l0 x8_1).f1)) ∧ w'.cell? (ad569.add ((x8_1).toNat * 2)) = some (.int .i64 ((rd_T43 l1 x8_1).f0)) ∧ w'.cell? ⟨(ad569.add ((x8_1).toNat * 2)).block, (ad569.add ((x8_1).toNat * 2)).off + 1, none⟩ = some (.int .i64 ((rd_T43 l1 x8_1).f1))) (ds := []) #[false, false, false, false, false, false, false, false, false, false, false] (by kernel_rfl) rfl rfl ⟨((HB.out.cell (World.block_lt_of_cell? w _ hw568_0)).trans hw568_0), ((HB.out.cell (World.block_lt_of_cell? w _ hw568_1)).trans hw568_1), ((HB.out.cell (World.block_lt_of_cell? w _ hw569_0)).trans hw569_0), ((HB.out.cell (World.block_lt_of_cell? w _ hw569_1)).trans hw569_1)⟩ (fun hHeld => ?_); refine with_tabW verditerref08_Add.tab13 verditerref08_Add.bits13 (fun HT_ HW_ => ?_)
                      generalize wr.drew = w14 at HO_7 HB hx568_0 hx568_1 hx569_0 hx569_1 hHeld ⊢
                      refine pure_ (i := 0) (N := some 30) (v := ?_) (a' := ?_) #[true, false, false, false, false, false, false, false, false, false, false] rfl rfl (any_of HT_.out (by kernel_rfl)) (fun _ _ _ h => h) (Or.inl ⟨by rfl, ?_⟩) ?_ ?_
                      rotate_left
                      · intro w'
                        go_simp
                        with_reducible rfl
                      rotate_left
                      · simp only [Act.put, List.setIfInBounds_toArray, List.set_cons_zero, List.set_cons_succ, i64_w, i32_w]
                        rfl
                      refine pure_ (i := 1) (N := some 31) (v := ?_) (a' := ?_) #[true, true, false, false, false, false, false, false, false, false, false] rfl rfl (any_of HT_.out (by kernel_rfl)) (fun _ _ _ h => h) (Or.inl ⟨by rfl, ?_⟩) ?_ ?_
                      rotate_left
                      · intro w'
                        go_simp
                        with_reducible rfl
                      rotate_left
                      · simp only [Act.put, List.setIfInBounds_toArray, List.set_cons_zero, List.set_cons_succ, i64_w, i32_w]
                        rfl
                      refine pure_ (i := 2) (N := some 32) (v := ?_) (a' := ?_) #[true, true, true, false, false, false, false, false, false, false, false] rfl rfl (any_of HT_.out (by kernel_rfl)) (fun _ _ _ h => h) (Or.inl ⟨by rfl, ?_⟩) ?_ ?_
                      rotate_left
                      · intro w'
                        go_simp
                        with_reducible rfl
                      rotate_left
                      · simp only [Act.put, List.setIfInBounds_toArray, List.set_cons_zero, List.set_cons_succ, i64_w, i32_w]
                        rfl
                      refine pure_ (i := 3) (N := some 33) (v := ?_) (a' := ?_) #[true, true, true, true, false, false, false, false, false, false, false] rfl rfl (any_of HT_.out (by kernel_rfl)) (fun _ _ _ h => h) (Or.inl ⟨by rfl, ?_⟩) ?_ ?_
                      rotate_left
                      · intro w'
                        go_simp
                        with_reducible rfl
                      rotate_left
                      · simp only [Act.put, List.setIfInBounds_toArray, List.set_cons_zero, List.set_cons_succ, i64_w, i32_w]
                        rfl
                      refine pure_ (i := 5) (N := some 35) (v := ?_) (a' := ?_) #[true, true, true, true, false, true, false, false, false, false, false] rfl rfl (any_of HT_.out (by kernel_rfl)) (fun _ _ _ h => h) (Or.inl ⟨by rfl, ?_⟩) ?_ ?_
                      rotate_left
                      · intro w'
                        go_simp
                        with_reducible rfl
                      rotate_left
                      · simp only [Act.put, List.setIfInBounds_toArray, List.set_cons_zero, List.set_cons_succ, i64_w, i32_w]
                        rfl
                      refine pure_ (i := 6) (N := some 36) (v := ?_) (a' := ?_) #[true, true, true, true, false, true, true, false, false, false, false] rfl rfl (any_of HT_.out (by kernel_rfl)) (fun _ _ _ h => h) (Or.inl ⟨by rfl, ?_⟩) ?_ ?_
                      rotate_left
                      · intro w'
                        go_simp
                        with_reducible rfl
                      rotate_left
                      · simp only [Act.put, List.setIfInBounds_toArray, List.set_cons_zero, List.set_cons_succ, i64_w, i32_w]
                        rfl
                      refine pure_ (i := 7) (N := some 37) (v := ?_) (a' := ?_) #[true, true, true, true, false, true, true, true, false, false, false] rfl rfl (any_of HT_.out (by kernel_rfl)) (fun _ _ _ h => h) (Or.inl ⟨by rfl, ?_⟩) ?_ ?_
                      rotate_left
                      · intro w'
                        go_simp
                        with_reducible rfl
                      rotate_left
                      · simp only [Act.put, List.setIfInBounds_toArray, List.set_cons_zero, List.set_cons_succ, i64_w, i32_w]
                        rfl
                      refine pure_ (i := 8) (N := some 38) (v := ?_) (a' := ?_) #[true, true, true, true, false, true, true, true, true, false, false] rfl rfl (any_of HT_.out (by kernel_rfl)) (fun _ _ _ h => h) (Or.inl ⟨by rfl, ?_⟩) ?_ ?_
                      rotate_left
                      · intro w'
                        go_simp
                        with_reducible rfl
                      rotate_left
                      · simp only [Act.put, List.setIfInBounds_toArray, List.set_cons_zero, List.set_cons_succ, i64_w, i32_w]
                        rfl
                      refine take_ (i := 4) (N := some 34) (v := ?_) (a' := ?_) #[true, true, true, true, true, true, true, true, true, false, false] rfl rfl (take_ofW HT_.out HW_.out (by kernel_rfl)) (fun _ _ _ h => h) (Or.inl ⟨by rfl, ?_⟩) hHeld ?_ ?_
                      rotate_left
                      · rintro w' ⟨s0, s1, s2, s3⟩
                        go_simp
                        with_reducible rfl
                      rotate_left
                      · simp only [Act.put, List.setIfInBounds_toArray, List.set_cons_zero, List.set_cons_succ, i64_w, i32_w]
                        rfl
                      refine take_ (i := 9) (N := some 39) (v := ?_) (a' := ?_) #[true, true, true, true, true, true, true, true, true, true, false] rfl rfl (take_ofW HT_.out HW_.out (by kernel_rfl)) (fun _ _ _ h => h) (Or.inl ⟨by rfl, ?_⟩) hHeld ?_ ?_
                      rotate_left
                      · rintro w' ⟨s0, s1, s2, s3⟩
                        go_simp
                        with_reducible rfl
                      rotate_left
                      · simp only [Act.put, List.setIfInBounds_toArray, List.set_cons_zero, List.set_cons_succ, i64_w, i32_w]
                        rfl
                      refine pure_ (i := 10) (N := some 40) (v := ?_) (a' := ?_) #[true, true, true, true, true, true, true, true, true, true, true] rfl rfl (any_of HT_.out (by kernel_rfl)) (fun _ _ _ h => h) (Or.inl ⟨by rfl, ?_⟩) ?_ ?_
                      rotate_left
                      · intro w'
                        go_simp
                        with_reducible rfl
                      rotate_left
                      · simp only [Act.put, List.setIfInBounds_toArray, List.set_cons_zero, List.set_cons_succ, i64_w, i32_w]
                        rfl
                      refine done_ (done_of HT_.out (by kernel_rfl)) ?_
                      try go_wp2
                      have n0_ := Aside0.mk (Kd.R_drew HO_7.out)
                      have n1_ := Aside0.mk (below_drew1 HB.out)
                      clear HO_7
                      clear HB
                      have HO_7 := n0_
                      have HB := n1_
                      clear n0_ n1_
                      have p570 : 0 ≤ (x8_1 : Int) := of_decide_eq_true (by first | (with_reducible assumption) | assumption)
                      have q570 : x8_1 < (l0.length : Int) := of_decide_eq_true (by first | (with_reducible assumption) | assumption)
                      obtain ⟨ad570, e570, hx570_0, hx570_1⟩ := at_T43 HR0.out x8_1 p570 q570
                      have hw570_1 := hx570_1
                      have hw570_0 := hx570_0
                      obtain rfl : ad568 = ad570 := (by injection e570)
                      replace hx570_0 := (HB.out.cell (World.block_lt_of_cell? w _ hx570_0)).trans hx570_0
                      replace hx570_1 := (HB.out.cell (World.block_lt_of_cell? w _ hx570_1)).trans hx570_1
                      replace p570 := eq_true p570
                      replace q570 := eq_true q570
                      have p571 : 0 ≤ (x8_1 : Int) := of_decide_eq_true (by first | (with_reducible assumption) | assumption)
                      have q571 : x8_1 < (l0.length : Int) := of_decide_eq_true (by first | (with_reducible assumption) | assumption)
                      obtain ⟨ad571, e571, hx571_0, hx571_1⟩ := at_T43 HR0.out x8_1 p571 q571
                      have hw571_1 := hx571_1
                      have hw571_0 := hx571_0
                      obtain rfl : ad568 = ad571 := (by injection e571)
                      replace hx571_0 := (HB.out.cell (World.block_lt_of_cell? w _ hx571_0)).trans hx571_0
                      replace hx571_1 := (HB.out.cell (World.block_lt_of_cell? w _ hx571_1)).trans hx571_1
                      replace p571 := eq_true p571
                      replace q571 := eq_true q571
                      have p572 : 0 ≤ (x8_1 : Int) := of_decide_eq_true (by first | (with_reducible assumption) | assumption)
                      have q572 : x8_1 < (l1.length : Int) := of_decide_eq_true (by first | (with_reducible assumption) | assumption)
                      obtain ⟨ad572, e572, hx572_0, hx572_1⟩ := at_T43 HR1.out x8_1 p572 q572
                      have hw572_1 := hx572_1
                      have hw572_0 := hx572_0
                      obtain rfl : ad569 = ad572 := (by injection e572)
                      replace hx572_0 := (HB.out.cell (World.block_lt_of_cell? w _ hx572_0)).trans hx572_0
                      replace hx572_1 := (HB.out.cell (World.block_lt_of_cell? w _ hx572_1)).trans hx572_1
                      replace p572 := eq_true p572
                      replace q572 := eq_true q572
                      refine start_ (n := 22) (S := fun w' => w'.cell? (ad568.add ((x8_1).toNat * 2)) = some (.int .i64 ((rd_T43 l0 x8_1).f0)) ∧ w'.cell? ⟨(ad568.add ((x8_1).toNat * 2)).block, (ad568.add ((x8_1).toNat * 2)).off + 1, none⟩ = some (.int .i64 ((rd_T43 l0 x8_1).f1)) ∧ w'.cell? (ad568.add ((x8_1).toNat * 2)) = some (.int .i64 ((rd_T43 l0 x8_1).f0)) ∧ w'.cell? ⟨(ad568.add ((x8_1).toNat * 2)).block, (ad568.add ((x8_1).toNat * 2)).off + 1, none⟩ = some (.int .i64 ((rd_T43 l0 x8_1).f1)) ∧ w'.cell? (ad569.add ((x8_1).toNat * 2)) = some (.int .i64 ((rd_T43 l1 x8_1).f0)) ∧ w'.cell? ⟨(ad569.add ((x8_1).toNat * 2)).block, (ad569.add ((x8_1).toNat * 2)).off + 1, none⟩ = some (.int .i64 ((rd_T43 l1 x8_1).f1))) (ds := []) #[false, false, false, false, false, false, false, false, false, false, false, false, false, false, false, false, false, false, false, false, false, false] (by kernel_rfl) rfl rfl ⟨((HB.out.cell (World.block_lt_of_cell? w _ hw570_0)).trans hw570_0), ((HB.out.cell (World.block_lt_of_cell? w _ hw570_1)).trans hw570_1), ((HB.out.cell (World.block_lt_of_cell? w _ hw571_0)).trans hw571_0), ((HB.out.cell (World.block_lt_of_cell? w _ hw571_1)).trans hw571_1), ((HB.out.cell (World.block_lt_of_cell? w _ hw572_0)).trans hw572_0), ((HB.out.cell (World.block_lt_of_cell? w _ hw572_1)).trans hw572_1)⟩ (fun hHeld => ?_); refine with_tabW verditerref08_Add.tab15 verditerref08_Add.bits15 (fun HT_ HW_ => ?_)
                      generalize w14.drew = w15 at HO_7 HB hx570_0 hx570_1 hx571_0 hx571_1 hx572_0 hx572_1 hHeld ⊢
                      refine pure_ (i := 0) (N := some 41) (v := ?_) (a' := ?_) #[true, false, false, false, false, false, false, false, false, false, false, false, false, false, false, false, false, false, false, false, false, false] rfl rfl (any_of HT_.out (by kernel_rfl)) (fun _ _ _ h => h) (Or.inl ⟨by rfl, ?_⟩) ?_ ?_
                      rotate_left
                      · intro w'
                        go_simp
                        with_reducible rfl
                      rotate_left
                      · simp only [Act.put, List.setIfInBounds_toArray, List.set_cons_zero, List.set_cons_succ, i64_w, i32_w]
                        rfl
                      refine pure_ (i := 1) (N := some 42) (v := ?_) (a' := ?_) #[true, true, false, false, false, false, false, false, false, false, false, false, false, false, false, false, false, false, false, false, false, false] rfl rfl (any_of HT_.out (by kernel_rfl)) (fun _ _ _ h => h) (Or.inl ⟨by rfl, ?_⟩) ?_ ?_
                      rotate_left
                      · intro w'
                        go_simp
                        with_reducible rfl
                      rotate_left
                      · simp only [Act.put, List.setIfInBounds_toArray, List.set_cons_zero, List.set_cons_succ, i64_w, i32_w]
                        rfl
                      refine pure_ (i := 2) (N := some 43) (v := ?_) (a' := ?_) #[true, true, true, false, false, false, false, false, false, false, false, false, false, false, false, false, false, false, false, false, false, false] rfl rfl (any_of HT_.out (by kernel_rfl)) (fun _ _ _ h => h) (Or.inl ⟨by rfl, ?_⟩) ?_ ?_
                      rotate_left
                      · intro w'
                        go_simp
                        with_reducible rfl
                      rotate_left
                      · simp only [Act.put, List.setIfInBounds_toArray, List.set_cons_zero, List.set_cons_succ, i64_w, i32_w]
                        rfl
                      refine pure_ (i := 3) (N := some 44) (v := ?_) (a' := ?_) #[true, true, true, true, false, false, false, false, false, false, false, false, false, false, false, false, false, false, false, false, false, false] rfl rfl (any_of HT_.out (by kernel_rfl)) (fun _ _ _ h => h) (Or.inl ⟨by rfl, ?_⟩) ?_ ?_
                      rotate_left
                      · intro w'
                        go_simp
                        with_reducible rfl
                      rotate_left
                      · simp only [Act.put, List.setIfInBounds_toArray, List.set_cons_zero, List.set_cons_succ, i64_w, i32_w]
                        rfl
                      refine pure_ (i := 4) (N := some 45) (v := ?_) (a' := ?_) #[true, true, true, true, true, false, false, false, false, false, false, false, false, false, false, false, false, false, false, false, false, false] rfl rfl (any_of HT_.out (by kernel_rfl)) (fun _ _ _ h => h) (Or.inl ⟨by rfl, ?_⟩) ?_ ?_
                      rotate_left
                      · intro w'
                        go_simp
                        with_reducible rfl
                      rotate_left
                      · simp only [Act.put, List.setIfInBounds_toArray, List.set_cons_zero, List.set_cons_succ, i64_w, i32_w]
                        rfl
                      refine pure_ (i := 6) (N := some 47) (v := ?_) (a' := ?_) #[true, true, true, true, true, false, true, false, false, false, false, false, false, false, false, false, false, false, false, false, false, false] rfl rfl (any_of HT_.out (by kernel_rfl)) (fun _ _ _ h => h) (Or.inl ⟨by rfl, ?_⟩) ?_ ?_
                      rotate_left
                      · intro w'
                        go_simp
                        with_reducible rfl
                      rotate_left
                      · simp only [Act.put, List.setIfInBounds_toArray, List.set_cons_zero, List.set_cons_succ, i64_w, i32_w]
                        rfl
                      refine pure_ (i := 7) (N := some 48) (v := ?_) (a' := ?_) #[true, true, true, true, true, false, true, true, false, false, false, false, false, false, false, false, false, false, false, false, false, false] rfl rfl (any_of HT_.out (by kernel_rfl)) (fun _ _ _ h => h) (Or.inl ⟨by rfl, ?_⟩) ?_ ?_
                      rotate_left
                      · intro w'
                        go_simp
                        with_reducible rfl
                      rotate_left
                      · simp only [Act.put, List.setIfInBounds_toArray, List.set_cons_zero, List.set_cons_succ, i64_w, i32_w]
                        rfl
                      refine pure_ (i := 8) (N := some 49) (v := ?_) (a' := ?_) #[true, true, true, true, true, false, true, true, true, false, false, false, false, false, false, false, false, false, false, false, false, false] rfl rfl (any_of HT_.out (by kernel_rfl)) (fun _ _ _ h => h) (Or.inl ⟨by rfl, ?_⟩) ?_ ?_
                      rotate_left
                      · intro w'
                        go_simp
                        with_reducible rfl
                      rotate_left
                      · simp only [Act.put, List.setIfInBounds_toArray, List.set_cons_zero, List.set_cons_succ, i64_w, i32_w]
                        rfl
                      refine pure_ (i := 9) (N := some 50) (v := ?_) (a' := ?_) #[true, true, true, true, true, false, true, true, true, true, false, false, false, false, false, false, false, false, false, false, false, false] rfl rfl (any_of HT_.out (by kernel_rfl)) (fun _ _ _ h => h) (Or.inl ⟨by rfl, ?_⟩) ?_ ?_
                      rotate_left
                      · intro w'
                        go_simp
                        with_reducible rfl
                      rotate_left
                      · simp only [Act.put, List.setIfInBounds_toArray, List.set_cons_zero, List.set_cons_succ, i64_w, i32_w]
                        rfl
                      refine pure_ (i := 11) (N := some 52) (v := ?_) (a' := ?_) #[true, true, true, true, true, false, true, true, true, true, false, true, false, false, false, false, false, false, false, false, false, false] rfl rfl (any_of HT_.out (by kernel_rfl)) (fun _ _ _ h => h) (Or.inl ⟨by rfl, ?_⟩) ?_ ?_
                      rotate_left
                      · intro w'
                        go_simp
                        with_reducible rfl
                      rotate_left
                      · simp only [Act.put, List.setIfInBounds_toArray, List.set_cons_zero, List.set_cons_succ, i64_w, i32_w]
                        rfl
                      refine pure_ (i := 12) (N := some 53) (v := ?_) (a' := ?_) #[true, true, true, true, true, false, true, true, true, true, false, true, true, false, false, false, false, false, false, false, false, false] rfl rfl (any_of HT_.out (by kernel_rfl)) (fun _ _ _ h => h) (Or.inl ⟨by rfl, ?_⟩) ?_ ?_
                      rotate_left
                      · intro w'
                        go_simp
                        with_reducible rfl
                      rotate_left
                      · simp only [Act.put, List.setIfInBounds_toArray, List.set_cons_zero, List.set_cons_succ, i64_w, i32_w]
                        rfl
                      refine pure_ (i := 13) (N := some 54) (v := ?_) (a' := ?_) #[true, true, true, true, true, false, true, true, true, true, false, true, true, true, false, false, false, false, false, false, false, false] rfl rfl (any_of HT_.out (by kernel_rfl)) (fun _ _ _ h => h) (Or.inl ⟨by rfl, ?_⟩) ?_ ?_
                      rotate_left
                      · intro w'
                        go_simp
                        with_reducible rfl
                      rotate_left
                      · simp only [Act.put, List.setIfInBounds_toArray, List.set_cons_zero, List.set_cons_succ, i64_w, i32_w]
                        rfl
                      refine pure_ (i := 14) (N := some 55) (v := ?_) (a' := ?_) #[true, true, true, true, true, false, true, true, true, true, false, true, true, true, true, false, false, false, false, false, false, false] rfl rfl (any_of HT_.out (by kernel_rfl)) (fun _ _ _ h => h) (Or.inl ⟨by rfl, ?_⟩) ?_ ?_
                      rotate_left
                      · intro w'
                        go_simp
                        with_reducible rfl
                      rotate_left
                      · simp only [Act.put, List.setIfInBounds_toArray, List.set_cons_zero, List.set_cons_succ, i64_w, i32_w]
                        rfl
                      refine take_ (i := 5) (N := some 46) (v := ?_) (a' := ?_) #[true, true, true, true, true, true, true, true, true, true, false, true, true, true, true, false, false, false, false, false, false, false] rfl rfl (take_ofW HT_.out HW_.out (by kernel_rfl)) (fun _ _ _ h => h) (Or.inl ⟨by rfl, ?_⟩) hHeld ?_ ?_
                      rotate_left
                      · rintro w' ⟨s0, s1, s2, s3, s4, s5⟩
                        go_simp
                        with_reducible rfl
                      rotate_left
                      · simp only [Act.put, List.setIfInBounds_toArray, List.set_cons_zero, List.set_cons_succ, i64_w, i32_w]
                        rfl
                      refine take_ (i := 10) (N := some 51) (v := ?_) (a' := ?_) #[true, true, true, true, true, true, true, true, true, true, true, true, true, true, true, false, false, false, false, false, false, false] rfl rfl (take_ofW HT_.out HW_.out (by kernel_rfl)) (fun _ _ _ h => h) (Or.inl ⟨by rfl, ?_⟩) hHeld ?_ ?_
                      rotate_left
                      · rintro w' ⟨s0, s1, s2, s3, s4, s5⟩
                        go_simp
                        with_reducible rfl
                      rotate_left
                      · simp only [Act.put, List.setIfInBounds_toArray, List.set_cons_zero, List.set_cons_succ, i64_w, i32_w]
                        rfl
                      refine take_ (i := 15) (N := some 56) (v := ?_) (a' := ?_) #[true, true, true, true, true, true, true, true, true, true, true, true, true, true, true, true, false, false, false, false, false, false] rfl rfl (take_ofW HT_.out HW_.out (by kernel_rfl)) (fun _ _ _ h => h) (Or.inl ⟨by rfl, ?_⟩) hHeld ?_ ?_
                      rotate_left
                      · rintro w' ⟨s0, s1, s2, s3, s4, s5⟩
                        go_simp
                        with_reducible rfl
                      rotate_left
                      · simp only [Act.put, List.setIfInBounds_toArray, List.set_cons_zero, List.set_cons_succ, i64_w, i32_w]
                        rfl
                      refine pure_ (i := 16) (N := some 57) (v := ?_) (a' := ?_) #[true, true, true, true, true, true, true, true, true, true, true, true, true, true, true, true, true, false, false, false, false, false] rfl rfl (any_of HT_.out (by kernel_rfl)) (fun _ _ _ h => h) (Or.inl ⟨by rfl, ?_⟩) ?_ ?_
                      rotate_left
                      · intro w'
                        go_simp
                        with_reducible rfl
                      rotate_left
                      · simp only [Act.put, List.setIfInBounds_toArray, List.set_cons_zero, List.set_cons_succ, i64_w, i32_w]
                        rfl
                      refine one_ (i := 17) (N := some 58) #[true, true, true, true, true, true, true, true, true, true, true, true, true, true, true, true, true, true, false, false, false, false] rfl rfl (one_of HT_.out (by kernel_rfl)) (by decide) (fun K hK => ?_)
                      refine goes_ Try.func104 (by kernel_rfl) rfl #[.int .i64 (wrap64 (((rd_T43 l0 x8_1).f1) + ((rd_T43 l1 x8_1).f1)))] (by rfl) rfl rfl (by (try simp only [List.map_toArray, List.map_cons, List.map_nil]); first | done | rfl | (simp only [List.length_drop, List.length_take]; rfl)) ?_
                      with_reducible refine (verditerref08_mod.calls (wrap64 (((rd_T43 l0 x8_1).f1) + ((rd_T43 l1 x8_1).f1))) t573 _ A12.out).mono ?_
                      rintro e w' ⟨rfl, ⟨nd, rfl⟩⟩
                      refine ⟨_, rfl, ?_⟩
                      refine hK.out _ _ ⟨((HB.out.cell (World.block_lt_of_cell? w _ hw570_0)).trans hw570_0), ((HB.out.cell (World.block_lt_of_cell? w _ hw570_1)).trans hw570_1), ((HB.out.cell (World.block_lt_of_cell? w _ hw571_0)).trans hw571_0), ((HB.out.cell (World.block_lt_of_cell? w _ hw571_1)).trans hw571_1), ((HB.out.cell (World.block_lt_of_cell? w _ hw572_0)).trans hw572_0), ((HB.out.cell (World.block_lt_of_cell? w _ hw572_1)).trans hw572_1)⟩ (fun hHeld => ?_)
                      clear hK K
                      refine norm_ (a' := ?_) ?_ ?_
                      rotate_left
                      · show Act.put _ (some 58) _ = _
                        simp only [Act.put, List.setIfInBounds_toArray, List.set_cons_zero, List.set_cons_succ, i64_w, i32_w]
                        rfl
                      refine pure_ (i := 18) (N := some 59) (v := ?_) (a' := ?_) #[true, true, true, true, true, true, true, true, true, true, true, true, true, true, true, true, true, true, true, false, false, false] rfl rfl (any_of HT_.out (by kernel_rfl)) (fun _ _ _ h => h) (Or.inl ⟨by rfl, ?_⟩) ?_ ?_
                      rotate_left
                      · intro w'
                        go_simp
                        with_reducible rfl
                      rotate_left
                      · simp only [Act.put, List.setIfInBounds_toArray, List.set_cons_zero, List.set_cons_succ, i64_w, i32_w]
                        rfl
                      refine one_ (i := 19) (N := some 60) #[true, true, true, true, true, true, true, true, true, true, true, true, true, true, true, true, true, true, true, true, false, false] rfl rfl (one_of HT_.out (by kernel_rfl)) (by decide) (fun K hK => ?_)
                      refine value_ (w1 := ?_) (v := ?_) (by rfl) rfl ?_ ?_
                      rotate_left 2
                      · go_simp
                        constructor
                        · rfl
                        · rfl
                      refine hK.out _ _ ⟨(World.cell?_alloc_lt _ _ _ (World.block_lt_of_cell? _ _ (((HB.out.cell (World.block_lt_of_cell? w _ hw570_0)).trans hw570_0)))).trans (((HB.out.cell (World.block_lt_of_cell? w _ hw570_0)).trans hw570_0)), (World.cell?_alloc_lt _ _ _ (World.block_lt_of_cell? _ _ (((HB.out.cell (World.block_lt_of_cell? w _ hw570_1)).trans hw570_1)))).trans (((HB.out.cell (World.block_lt_of_cell? w _ hw570_1)).trans hw570_1)), (World.cell?_alloc_lt _ _ _ (World.block_lt_of_cell? _ _ (((HB.out.cell (World.block_lt_of_cell? w _ hw571_0)).trans hw571_0)))).trans (((HB.out.cell (World.block_lt_of_cell? w _ hw571_0)).trans hw571_0)), (World.cell?_alloc_lt _ _ _ (World.block_lt_of_cell? _ _ (((HB.out.cell (World.block_lt_of_cell? w _ hw571_1)).trans hw571_1)))).trans (((HB.out.cell (World.block_lt_of_cell? w _ hw571_1)).trans hw571_1)), (World.cell?_alloc_lt _ _ _ (World.block_lt_of_cell? _ _ (((HB.out.cell (World.block_lt_of_cell? w _ hw572_0)).trans hw572_0)))).trans (((HB.out.cell (World.block_lt_of_cell? w _ hw572_0)).trans hw572_0)), (World.cell?_alloc_lt _ _ _ (World.block_lt_of_cell? _ _ (((HB.out.cell (World.block_lt_of_cell? w _ hw572_1)).trans hw572_1)))).trans (((HB.out.cell (World.block_lt_of_cell? w _ hw572_1)).trans hw572_1))⟩ (fun hHeld => ?_)
                      clear hK K
                      refine norm_ (a' := ?_) ?_ ?_
                      rotate_left
                      · show Act.put _ (some 60) _ = _
                        simp only [Act.put, List.setIfInBounds_toArray, List.set_cons_zero, List.set_cons_succ, i64_w, i32_w]
                        rfl
                      refine one_ (i := 20) (N := some 61) #[true, true, true, true, true, true, true, true, true, true, true, true, true, true, true, true, true, true, true, true, true, false] rfl rfl (one_of HT_.out (by kernel_rfl)) (by decide) (fun K hK => ?_)
                      refine Kd.R_append_step k43 (w0 := w) w.heap.size (by rfl) (.tmp 41) (.tmp 60) 22 43 (.agg #[(.int .i64 0), (.int .i64 0)]) 16 rfl Try.underlying22 info43 rfl (by decide) (by omega) u7 x7_1 (⟨(rd_T43 l0 x8_1).f0, t573⟩ : S43) [.int .i64 ((rd_T43 l0 x8_1).f0), .int .i64 t573] (fun _ => True) (fun _ => False) rfl rfl ?aP (fun _ hk => hk.elim) ?aF ?aO ?aB ?aS ?aL ?_
                      (case aP => exact k43_mkM _ _ _ (⟨(rd_T43 l0 x8_1).f0, t573⟩ : S43))
                      (case aB => exact (by repeat (first | (with_reducible first | exact HB.out | apply below_alloc | apply pw_below_drewN | apply below_drew1) | exact HB.out)))
                      (case aF => exact (fun _ _ => trivial))
                      (case aO => exact (by (with_reducible repeat (first | apply Kd.R_alloc | apply Kd.R_drewN | apply Kd.R_drew)); exact HO_7.out))
                      (case aS => exact (below_size (by repeat (first | (with_reducible first | exact HB.out | apply below_alloc | apply pw_below_drewN | apply below_drew1) | exact HB.out))))
                      (case aL => have := LMc13.out; omega)
                      intro v575 w16 ho hb hg hat
                      rw [← Ny574.out] at ho
                      have n0_ := Aside0.mk (hb)
                      have n1_ := Aside0.mk (ho)
                      clear HB
                      clear HO_7
                      have HB := n0_
                      have HO576 := n1_
                      clear n0_ n1_
                      clear ho hb hg hat
                      refine hK.out _ _ ⟨((HB.out.cell (World.block_lt_of_cell? w _ hw570_0)).trans hw570_0), ((HB.out.cell (World.block_lt_of_cell? w _ hw570_1)).trans hw570_1), ((HB.out.cell (World.block_lt_of_cell? w _ hw571_0)).trans hw571_0), ((HB.out.cell (World.block_lt_of_cell? w _ hw571_1)).trans hw571_1), ((HB.out.cell (World.block_lt_of_cell? w _ hw572_0)).trans hw572_0), ((HB.out.cell (World.block_lt_of_cell? w _ hw572_1)).trans hw572_1)⟩ (fun hHeld => ?_)
                      clear hK K
                      refine norm_ (a' := ?_) ?_ ?_
                      rotate_left
                      · show Act.put _ (some 61) _ = _
                        simp only [Act.put, List.setIfInBounds_toArray, List.set_cons_zero, List.set_cons_succ, i64_w, i32_w]
                        rfl
                      refine pure_ (i := 21) (N := some 7) (v := ?_) (a' := ?_) #[true, true, true, true, true, true, true, true, true, true, true, true, true, true, true, true, true, true, true, true, true, true] rfl rfl (any_of HT_.out (by kernel_rfl)) (fun _ _ _ h => h) (Or.inl ⟨by rfl, ?_⟩) ?_ ?_
                      rotate_left
                      · intro w'
                        go_simp
                        with_reducible rfl
                      rotate_left
                      · simp only [Act.put, List.setIfInBounds_toArray, List.set_cons_zero, List.set_cons_succ, i64_w, i32_w]
                        rfl
                      refine done_ (done_of HT_.out (by kernel_rfl)) ?_
                      try go_wp2
                      go_roundg k1
                      case measure => have := HK1.out; omega
                      case rel => exact ⟨(y574), (wrap64 (x8_1 + 1)), (by first | rfl | (simp; done) | (simp [*]; done)), H', ⟨by have := HK1.out; omega⟩, ⟨by (with_reducible repeat (first | apply Kd.R_alloc | apply Kd.R_drewN | apply Kd.R_drew)); exact HO576.out⟩, ⟨by repeat (first | (with_reducible first | exact HB.out | apply below_alloc | apply pw_below_drewN | apply below_drew1) | exact HB.out)⟩⟩
                    · rw [if_neg c13] at H
                      exact absurd H (by simp)
                  · rw [if_neg c11] at H
                    have c11b0 : (((rd_T43 l0 x8_1).f0) == ((rd_T43 l1 x8_1).f0)) = false := beq_eq_false_iff_ne.mpr c11
                    have c11b1 : (((rd_T43 l0 x8_1).f0) != ((rd_T43 l1 x8_1).f0)) = true := bne_iff_ne.mpr c11
                    simp only [Option.some.injEq, Prod.mk.injEq] at H
                    obtain ⟨rfl, rfl⟩ := H
                    try go_wp2
                    have n0_ := Aside0.mk (Kd.R_drew HO_7.out)
                    have n1_ := Aside0.mk (below_drew1 HB.out)
                    clear HO_7
                    clear HB
                    have HO_7 := n0_
                    have HB := n1_
                    clear n0_ n1_
                    have p568 : 0 ≤ (x8_1 : Int) := of_decide_eq_true (by first | (with_reducible assumption) | assumption)
                    have q568 : x8_1 < (l0.length : Int) := of_decide_eq_true (by first | (with_reducible assumption) | assumption)
                    obtain ⟨ad568, e568, hx568_0, hx568_1⟩ := at_T43 HR0.out x8_1 p568 q568
                    have hw568_1 := hx568_1
                    have hw568_0 := hx568_0
                    cases e568
                    replace hx568_0 := (HB.out.cell (World.block_lt_of_cell? w _ hx568_0)).trans hx568_0
                    replace hx568_1 := (HB.out.cell (World.block_lt_of_cell? w _ hx568_1)).trans hx568_1
                    replace p568 := eq_true p568
                    replace q568 := eq_true q568
                    have p569 : 0 ≤ (x8_1 : Int) := of_decide_eq_true (by first | (with_reducible assumption) | assumption)
                    have q569 : x8_1 < (l1.length : Int) := of_decide_eq_true (by first | (with_reducible assumption) | assumption)
                    obtain ⟨ad569, e569, hx569_0, hx569_1⟩ := at_T43 HR1.out x8_1 p569 q569
                    have hw569_1 := hx569_1
                    have hw569_0 := hx569_0
                    cases e569
                    replace hx569_0 := (HB.out.cell (World.block_lt_of_cell? w _ hx569_0)).trans hx569_0
                    replace hx569_1 := (HB.out.cell (World.block_lt_of_cell? w _ hx569_1)).trans hx569_1
                    replace p569 := eq_true p569
                    replace q569 := eq_true q569
                    refine start_ (n := 11) (S := fun w' => w'.cell? (ad568.add ((x8_1).toNat * 2)) = some (.int .i64 ((rd_T43 l0 x8_1).f0)) ∧ w'.cell? ⟨(ad568.add ((x8_1).toNat * 2)).block, (ad568.add ((x8_1).toNat * 2)).off + 1, none⟩ = some (.int .i64 ((rd_T43 l0 x8_1).f1)) ∧ w'.cell? (ad569.add ((x8_1).toNat * 2)) = some (.int .i64 ((rd_T43 l1 x8_1).f0)) ∧ w'.cell? ⟨(ad569.add ((x8_1).toNat * 2)).block, (ad569.add ((x8_1).toNat * 2)).off + 1, none⟩ = some (.int .i64 ((rd_T43 l1 x8_1).f1))) (ds := []) #[false, false, false, false, false, false, false, false, false, false, false] (by kernel_rfl) rfl rfl ⟨((HB.out.cell (World.block_lt_of_cell? w _ hw568_0)).trans hw568_0), ((HB.out.cell (World.block_lt_of_cell? w _ hw568_1)).trans hw568_1), ((HB.out.cell (World.block_lt_of_cell? w _ hw569_0)).trans hw569_0), ((HB.out.cell (World.block_lt_of_cell? w _ hw569_1)).trans hw569_1)⟩ (fun hHeld => ?_); refine with_tabW verditerref08_Add.tab13 verditerref08_Add.bits13 (fun HT_ HW_ => ?_)
                    generalize wr.drew = w17 at HO_7 HB hx568_0 hx568_1 hx569_0 hx569_1 hHeld ⊢
                    refine pure_ (i := 0) (N := some 30) (v := ?_) (a' := ?_) #[true, false, false, false, false, false, false, false, false, false, false] rfl rfl (any_of HT_.out (by kernel_rfl)) (fun _ _ _ h => h) (Or.inl ⟨by rfl, ?_⟩) ?_ ?_
                    rotate_left
                    · intro w'
                      go_simp
                      with_reducible rfl
                    rotate_left
                    · simp only [Act.put, List.setIfInBounds_toArray, List.set_cons_zero, List.set_cons_succ, i64_w, i32_w]
                      rfl
                    refine pure_ (i := 1) (N := some 31) (v := ?_) (a' := ?_) #[true, true, false, false, false, false, false, false, false, false, false] rfl rfl (any_of HT_.out (by kernel_rfl)) (fun _ _ _ h => h) (Or.inl ⟨by rfl, ?_⟩) ?_ ?_
                    rotate_left
                    · intro w'
                      go_simp
                      with_reducible rfl
                    rotate_left
                    · simp only [Act.put, List.setIfInBounds_toArray, List.set_cons_zero, List.set_cons_succ, i64_w, i32_w]
                      rfl
                    refine pure_ (i := 2) (N := some 32) (v := ?_) (a' := ?_) #[true, true, true, false, false, false, false, false, false, false, false] rfl rfl (any_of HT_.out (by kernel_rfl)) (fun _ _ _ h => h) (Or.inl ⟨by rfl, ?_⟩) ?_ ?_
                    rotate_left
                    · intro w'
                      go_simp
                      with_reducible rfl
                    rotate_left
                    · simp only [Act.put, List.setIfInBounds_toArray, List.set_cons_zero, List.set_cons_succ, i64_w, i32_w]
                      rfl
                    refine pure_ (i := 3) (N := some 33) (v := ?_) (a' := ?_) #[true, true, true, true, false, false, false, false, false, false, false] rfl rfl (any_of HT_.out (by kernel_rfl)) (fun _ _ _ h => h) (Or.inl ⟨by rfl, ?_⟩) ?_ ?_
                    rotate_left
                    · intro w'
                      go_simp
                      with_reducible rfl
                    rotate_left
                    · simp only [Act.put, List.setIfInBounds_toArray, List.set_cons_zero, List.set_cons_succ, i64_w, i32_w]
                      rfl
                    refine pure_ (i := 5) (N := some 35) (v := ?_) (a' := ?_) #[true, true, true, true, false, true, false, false, false, false, false] rfl rfl (any_of HT_.out (by kernel_rfl)) (fun _ _ _ h => h) (Or.inl ⟨by rfl, ?_⟩) ?_ ?_
                    rotate_left
                    · intro w'
                      go_simp
                      with_reducible rfl
                    rotate_left
                    · simp only [Act.put, List.setIfInBounds_toArray, List.set_cons_zero, List.set_cons_succ, i64_w, i32_w]
                      rfl
                    refine pure_ (i := 6) (N := some 36) (v := ?_) (a' := ?_) #[true, true, true, true, false, true, true, false, false, false, false] rfl rfl (any_of HT_.out (by kernel_rfl)) (fun _ _ _ h => h) (Or.inl ⟨by rfl, ?_⟩) ?_ ?_
                    rotate_left
                    · intro w'
                      go_simp
                      with_reducible rfl
                    rotate_left
                    · simp only [Act.put, List.setIfInBounds_toArray, List.set_cons_zero, List.set_cons_succ, i64_w, i32_w]
                      rfl
                    refine pure_ (i := 7) (N := some 37) (v := ?_) (a' := ?_) #[true, true, true, true, false, true, true, true, false, false, false] rfl rfl (any_of HT_.out (by kernel_rfl)) (fun _ _ _ h => h) (Or.inl ⟨by rfl, ?_⟩) ?_ ?_
                    rotate_left
                    · intro w'
                      go_simp
                      with_reducible rfl
                    rotate_left
                    · simp only [Act.put, List.setIfInBounds_toArray, List.set_cons_zero, List.set_cons_succ, i64_w, i32_w]
                      rfl
                    refine pure_ (i := 8) (N := some 38) (v := ?_) (a' := ?_) #[true, true, true, true, false, true, true, true, true, false, false] rfl rfl (any_of HT_.out (by kernel_rfl)) (fun _ _ _ h => h) (Or.inl ⟨by rfl, ?_⟩) ?_ ?_
                    rotate_left
                    · intro w'
                      go_simp
                      with_reducible rfl
                    rotate_left
                    · simp only [Act.put, List.setIfInBounds_toArray, List.set_cons_zero, List.set_cons_succ, i64_w, i32_w]
                      rfl
                    refine take_ (i := 4) (N := some 34) (v := ?_) (a' := ?_) #[true, true, true, true, true, true, true, true, true, false, false] rfl rfl (take_ofW HT_.out HW_.out (by kernel_rfl)) (fun _ _ _ h => h) (Or.inl ⟨by rfl, ?_⟩) hHeld ?_ ?_
                    rotate_left
                    · rintro w' ⟨s0, s1, s2, s3⟩
                      go_simp
                      with_reducible rfl
                    rotate_left
                    · simp only [Act.put, List.setIfInBounds_toArray, List.set_cons_zero, List.set_cons_succ, i64_w, i32_w]
                      rfl
                    refine take_ (i := 9) (N := some 39) (v := ?_) (a' := ?_) #[true, true, true, true, true, true, true, true, true, true, false] rfl rfl (take_ofW HT_.out HW_.out (by kernel_rfl)) (fun _ _ _ h => h) (Or.inl ⟨by rfl, ?_⟩) hHeld ?_ ?_
                    rotate_left
                    · rintro w' ⟨s0, s1, s2, s3⟩
                      go_simp
                      with_reducible rfl
                    rotate_left
                    · simp only [Act.put, List.setIfInBounds_toArray, List.set_cons_zero, List.set_cons_succ, i64_w, i32_w]
                      rfl
                    refine pure_ (i := 10) (N := some 40) (v := ?_) (a' := ?_) #[true, true, true, true, true, true, true, true, true, true, true] rfl rfl (any_of HT_.out (by kernel_rfl)) (fun _ _ _ h => h) (Or.inl ⟨by rfl, ?_⟩) ?_ ?_
                    rotate_left
                    · intro w'
                      go_simp
                      with_reducible rfl
                    rotate_left
                    · simp only [Act.put, List.setIfInBounds_toArray, List.set_cons_zero, List.set_cons_succ, i64_w, i32_w]
                      rfl
                    refine done_ (done_of HT_.out (by kernel_rfl)) ?_
                    try go_wp2
                    go_ret2
                    exact ⟨_, by first | rfl | (simp [errW_none, errW_some] <;> rfl) | (simp [*, errW_none, errW_some] <;> rfl), by first | exact Kd.R_nil _ _ _ _ _ | exact Kd.N_nil _ _ _ _ _ | exact Kd.V_nil _ _ _ _ _ | exact Kd.Q_nil _ _ _ _ _ | exact Kd.S_nil _ _ _ _ _, by repeat (first | (with_reducible first | exact HB.out | apply below_alloc | apply pw_below_drewN | apply below_drew1) | exact HB.out)⟩
                · rw [if_neg c10] at H
                  exact absurd H (by simp)
              · rw [if_neg c9] at H
                exact absurd H (by simp)
            · rw [if_neg c8] at H
              have c8b0 : decide (x8_1 < (l0.length : Int)) = false := decide_eq_false c8
              clear c8
              simp only [Option.some.injEq, Prod.mk.injEq] at H
              obtain ⟨rfl, rfl⟩ := H
              go_wp2
              go_ret2
              exact ⟨_, by first | rfl | (simp [errW_none, errW_some] <;> rfl) | (simp [*, errW_none, errW_some] <;> rfl), by (with_reducible repeat (first | apply Kd.R_alloc | apply Kd.R_drewN | apply Kd.R_drew)); exact HO_7.out, by repeat (first | (with_reducible first | exact HB.out | apply below_alloc | apply pw_below_drewN | apply below_drew1) | exact HB.out)⟩
      · rw [if_neg c7] at H
        have c7b0 : ((l0.length : Int) == (l1.length : Int)) = false := beq_eq_false_iff_ne.mpr c7
        have c7b1 : ((l0.length : Int) != (l1.length : Int)) = true := bne_iff_ne.mpr c7
        have c7b2 : (l0.length == l1.length) = false := by first | simpa using c7 | (simp at c7 ⊢; omega)
        simp only [Option.some.injEq, Prod.mk.injEq] at H
        obtain ⟨rfl, rfl⟩ := H
        go_enter Try.func70, Try.ntmps70
        go_wp2_with (first | ((with_reducible refine gate_callee (f := 66) rfl ?_); refine goesL_ (some 10) rfl rfl Try.func66 (by kernel_rfl) rfl #[.slice A0 l0.length c0] rfl (by (try simp only [List.map_toArray, List.map_cons, List.map_nil]); first | done | rfl | (simp only [List.length_drop, List.length_take]; rfl)) ?_; (with_reducible refine (verditerref08_Validate.calls k _ _ l0 t566 _ ?side1 ?side2 A3.out).mono ?_); (case side1 => repeat (first | exact HR0.out | (with_reducible refine Kd.C_alloc ?_ _) | (with_reducible refine Kd.C_drewN ?_ _) | (with_reducible refine Kd.C_drew ?_))); (case side2 => exact HC0.out); rintro e w' ⟨rfl, ⟨nd, rfl⟩⟩; refine ⟨_, rfl, ?_⟩) | ((with_reducible refine gate_callee (f := 66) rfl ?_); refine goesL_ (some 15) rfl rfl Try.func66 (by kernel_rfl) rfl #[.slice A1 l1.length c1] rfl (by (try simp only [List.map_toArray, List.map_cons, List.map_nil]); first | done | rfl | (simp only [List.length_drop, List.length_take]; rfl)) ?_; (with_reducible refine (verditerref08_Validate.calls k _ _ l1 t567 _ ?side1 ?side2 A5.out).mono ?_); (case side1 => repeat (first | exact HR1.out | (with_reducible refine Kd.C_alloc ?_ _) | (with_reducible refine Kd.C_drewN ?_ _) | (with_reducible refine Kd.C_drew ?_))); (case side2 => exact HC1.out); rintro e w' ⟨rfl, ⟨nd, rfl⟩⟩; refine ⟨_, rfl, ?_⟩))
        go_ret2
        exact ⟨_, by first | rfl | (simp [errW_none, errW_some] <;> rfl) | (simp [*, errW_none, errW_some] <;> rfl), by first | exact Kd.R_nil _ _ _ _ _ | exact Kd.N_nil _ _ _ _ _ | exact Kd.V_nil _ _ _ _ _ | exact Kd.Q_nil _ _ _ _ _ | exact Kd.S_nil _ _ _ _ _, by repeat (first | (with_reducible first | exact HB.out | apply below_alloc | apply pw_below_drewN | apply below_drew1) | exact HB.out)⟩
    · rw [if_neg c6] at H
      have c6b0 : (t567 == 0) = false := beq_eq_false_iff_ne.mpr c6
      have c6b1 : (t567 != 0) = true := bne_iff_ne.mpr c6
      simp only [Option.some.injEq, Prod.mk.injEq] at H
      obtain ⟨rfl, rfl⟩ := H
      go_enter Try.func70, Try.ntmps70
      go_wp2_with (first | ((with_reducible refine gate_callee (f := 66) rfl ?_); refine goesL_ (some 10) rfl rfl Try.func66 (by kernel_rfl) rfl #[.slice A0 l0.length c0] rfl (by (try simp only [List.map_toArray, List.map_cons, List.map_nil]); first | done | rfl | (simp only [List.length_drop, List.length_take]; rfl)) ?_; (with_reducible refine (verditerref08_Validate.calls k _ _ l0 t566 _ ?side1 ?side2 A3.out).mono ?_); (case side1 => repeat (first | exact HR0.out | (with_reducible refine Kd.C_alloc ?_ _) | (with_reducible refine Kd.C_drewN ?_ _) | (with_reducible refine Kd.C_drew ?_))); (case side2 => exact HC0.out); rintro e w' ⟨rfl, ⟨nd, rfl⟩⟩; refine ⟨_, rfl, ?_⟩) | ((with_reducible refine gate_callee (f := 66) rfl ?_); refine goesL_ (some 15) rfl rfl Try.func66 (by kernel_rfl) rfl #[.slice A1 l1.length c1] rfl (by (try simp only [List.map_toArray, List.map_cons, List.map_nil]); first | done | rfl | (simp only [List.length_drop, List.length_take]; rfl)) ?_; (with_reducible refine (verditerref08_Validate.calls k _ _ l1 t567 _ ?side1 ?side2 A5.out).mono ?_); (case side1 => repeat (first | exact HR1.out | (with_reducible refine Kd.C_alloc ?_ _) | (with_reducible refine Kd.C_drewN ?_ _) | (with_reducible refine Kd.C_drew ?_))); (case side2 => exact HC1.out); rintro e w' ⟨rfl, ⟨nd, rfl⟩⟩; refine ⟨_, rfl, ?_⟩))
      go_ret2
      exact ⟨_, by first | rfl | (simp [errW_none, errW_some] <;> rfl) | (simp [*, errW_none, errW_some] <;> rfl), by first | exact Kd.R_nil _ _ _ _ _ | exact Kd.N_nil _ _ _ _ _ | exact Kd.V_nil _ _ _ _ _ | exact Kd.Q_nil _ _ _ _ _ | exact Kd.S_nil _ _ _ _ _, by repeat (first | (with_reducible first | exact HB.out | apply below_alloc | apply pw_below_drewN | apply below_drew1) | exact HB.out)⟩
  · rw [if_neg c4] at H
    have c4b0 : (t566 == 0) = false := beq_eq_false_iff_ne.mpr c4
    have c4b1 : (t566 != 0) = true := bne_iff_ne.mpr c4
    simp only [Option.some.injEq, Prod.mk.injEq] at H
    obtain ⟨rfl, rfl⟩ := H
    go_enter Try.func70, Try.ntmps70
    go_wp2_with (first | ((with_reducible refine gate_callee (f := 66) rfl ?_); refine goesL_ (some 10) rfl rfl Try.func66 (by kernel_rfl) rfl #[.slice A0 l0.length c0] rfl (by (try simp only [List.map_toArray, List.map_cons, List.map_nil]); first | done | rfl | (simp only [List.length_drop, List.length_take]; rfl)) ?_; (with_reducible refine (verditerref08_Validate.calls k _ _ l0 t566 _ ?side1 ?side2 A3.out).mono ?_); (case side1 => repeat (first | exact HR0.out | (with_reducible refine Kd.C_alloc ?_ _) | (with_reducible refine Kd.C_drewN ?_ _) | (with_reducible refine Kd.C_drew ?_))); (case side2 => exact HC0.out); rintro e w' ⟨rfl, ⟨nd, rfl⟩⟩; refine ⟨_, rfl, ?_⟩))
    go_ret2
    exact ⟨_, by first | rfl | (simp [errW_none, errW_some] <;> rfl) | (simp [*, errW_none, errW_some] <;> rfl), by first | exact Kd.R_nil _ _ _ _ _ | exact Kd.N_nil _ _ _ _ _ | exact Kd.V_nil _ _ _ _ _ | exact Kd.Q_nil _ _ _ _ _ | exact Kd.S_nil _ _ _ _ _, by repeat (first | (with_reducible first | exact HB.out | apply below_alloc | apply pw_below_drewN | apply below_drew1) | exact HB.out)⟩

end Go.Proofs.Ythlbjdiicmojfaa.P

/-! Part H94. -/
namespace Go.Proofs.Ythlbjdiicmojfaa.P
open Go.RowKit Go.Proofs.YthlbjdiicmojfaaW.PrintWords Go.Proofs.YthlbjdiicmojfaaW.PrintLast Go.Proofs.YthlbjdiicmojfaaW.PrintMore
set_option linter.unusedVariables false

set_option maxHeartbeats 2000000 in
set_option maxRecDepth 100000 in
theorem same95 (x y a b : Int) (w : World) : Calls Try.prog 95 #[.agg #[.int .i64 x, .int .i64 y], .agg #[.int .i64 a, .int .i64 b]] w fun e w' => e = .returned (.bool (x == a)) ∧ Below w.heap.size w w' := by
  have hu43 := Try.underlying43
  go_enter Try.func95, Try.ntmps95
  go_wp2_with fail
  go_ret
  exact ⟨rfl, below_alloc (below_alloc (Below.refl _ _) _) _⟩
theorem eg95 : ∀ args w, (callFunc 95 args).run Try.prog w = .ok (.enter 95 args) w := enters_of Try.func95 (by kernel_rfl) rfl

theorem eqX_step {l m : List S43} {k : Nat} (hk : k < l.length) (hm : k < m.length) (h : (l.take k).map S43.f0 = (m.take k).map S43.f0) (he : (l[k].f0 == m[k].f0) = true) : (l.take (k + 1)).map S43.f0 = (m.take (k + 1)).map S43.f0 := by
  rw [List.take_succ_eq_append_getElem hk, List.take_succ_eq_append_getElem hm, List.map_append, List.map_append, h]
  simp [beq_iff_eq.1 he]
theorem eqX_fell {l m : List S43} {k : Nat} (hk : k < l.length) (hm : k < m.length) (he : (l[k].f0 == m[k].f0) = false) : ¬ l.map S43.f0 = m.map S43.f0 := by
  intro h
  have h1 := congrArg (fun x : List Int => x[k]?) h
  simp only [List.getElem?_map, List.getElem?_eq_getElem hk, List.getElem?_eq_getElem hm, Option.map_some, Option.some.injEq] at h1
  rw [h1] at he; simp at he

set_option maxHeartbeats 4000000 in
set_option maxRecDepth 100000 in
theorem equalX (A0 : Option Addr) (c0 : Nat) (l0 : List S43) (A1 : Option Addr) (c1 : Nat) (l1 : List S43) (w : World) (hr0 : Kd.C k43 w A0 l0.length l0) (hr1 : Kd.C k43 w A1 l1.length l1) :
    Calls Try.prog 94 #[.slice A0 l0.length c0, .slice A1 l1.length c1, .func (.func 95) #[] #[]] w fun e w' => e = .returned (.bool (decide (l0.map S43.f0 = l1.map S43.f0))) ∧ Below w.heap.size w w' := by
  have hu43 := Try.underlying43
  have HR0 := Aside0.mk hr0
  have HR1 := Aside0.mk hr1
  have hmax := Kd.C_max hr0
  have heg := eg95
  have HB := Aside0.mk (Below.refl w.heap.size w)
  clear hr0 hr1
  by_cases hlen : l0.length = l1.length
  · have hb1 : ((l0.length : Int) != (l1.length : Int)) = false := by rw [hlen]; simp
    have hb2 : (l0.length != l1.length) = false := by rw [hlen]; simp
    have hle1 : l0.length ≤ l1.length := by omega
    have HLEN := Aside0.mk hlen
    clear hlen
    go_enter Try.func94, Try.ntmps94
    go_wp2_with fail
    go_loopg [17] l0.length (fun gg s17 wr => ∃ kk : Nat, kk ≤ l0.length ∧ l0.length - kk ≤ gg ∧ s17 = .int .i64 kk ∧ Aside0 (Below w.heap.size w wr) ∧ Aside0 ((l0.take kk).map S43.f0 = (l1.take kk).map S43.f0))
    case atStart => exact ⟨0, Nat.zero_le _, by omega, rfl, HB, ⟨by simp⟩⟩
    case round =>
      clear HB
      obtain ⟨kk, hkk, hg, rfl, HB, HA⟩ := hrel
      by_cases hlt : kk < l0.length
      · have hlt1 : kk < l1.length := by omega
        have hltz : (kk : Int) < (l0.length : Int) := by omega
        have hltz1 : (kk : Int) < (l1.length : Int) := by omega
        have hq0 : (0 : Int) ≤ (kk : Int) := by omega
        obtain ⟨ad, e1, hx0, hx1⟩ := at_T43 (Kd.C_below HR0.out HB.out) (kk : Int) hq0 hltz
        cases e1
        obtain ⟨ad1, e2, hy0, hy1⟩ := at_T43 (Kd.C_below (Kd.C_below HR1.out HB.out) (below_alloc (Below.refl _ wr) (.cells #[.int .i64 l0[kk].f0, .int .i64 l0[kk].f1] 43))) (kk : Int) hq0 hltz1
        cases e2
        rw [rd43_get l0 kk hlt] at hx0 hx1
        rw [rd43_get l1 kk hlt1] at hy0 hy1
        simp only [Int.toNat_natCast] at hx0 hx1 hy0 hy1
        have hstep := eqX_step hlt hlt1 HA.out
        have hfell := eqX_fell hlt hlt1
        cases hq : (l0[kk].f0 == l1[kk].f0) with
        | true =>
          have HS := Aside0.mk (hstep hq)
          have HQ := Aside0.mk hq
          clear hstep hfell hq
          go_wp2_with fail
          with_reducible refine (same95 l0[kk].f0 l0[kk].f1 l1[kk].f0 l1[kk].f1 _).mono ?_
          rw [HQ.out]
          rintro e w' ⟨rfl, hb⟩
          have HB2 := Aside0.mk (below_step (below_alloc (below_alloc HB.out _) _) hb)
          clear hb
          go_wp2_with fail
          go_roundg (l0.length - (kk + 1))
          case measure => omega
          case rel => exact ⟨kk + 1, by omega, by omega, by go_num, HB2, HS⟩
        | false =>
          have HS := Aside0.mk (hfell hq)
          have HQ := Aside0.mk hq
          clear hstep hfell hq
          go_wp2_with fail
          with_reducible refine (same95 l0[kk].f0 l0[kk].f1 l1[kk].f0 l1[kk].f1 _).mono ?_
          rw [HQ.out]
          rintro e w' ⟨rfl, hb⟩
          have HB2 := Aside0.mk (below_step (below_alloc (below_alloc HB.out _) _) hb)
          clear hb
          go_wp2_with fail
          go_ret
          exact ⟨by rw [decide_eq_false HS.out]; rfl, HB2.out⟩
      · have hltz : ¬ (kk : Int) < (l0.length : Int) := by omega
        have HT : Aside0 (l0.map S43.f0 = l1.map S43.f0) := ⟨by have h1 := HA.out; have h2 := HLEN.out; rw [List.take_of_length_le (by omega), List.take_of_length_le (by omega)] at h1; exact h1⟩
        go_wp2_with fail
        go_ret
        exact ⟨by rw [decide_eq_true HT.out]; rfl, HB.out⟩
  · have hb1 : ((l0.length : Int) != (l1.length : Int)) = true := by rw [bne_iff_ne]; omega
    have hb2 : (l0.length != l1.length) = true := by rw [bne_iff_ne]; exact hlen
    have HS : Aside0 (¬ l0.map S43.f0 = l1.map S43.f0) := ⟨fun h => hlen (by have := congrArg List.length h; simpa using this)⟩
    clear hlen
    go_enter Try.func94, Try.ntmps94
    go_wp2_with fail
    go_ret
    exact ⟨by rw [decide_eq_false HS.out]; rfl, HB.out⟩
end Go.Proofs.Ythlbjdiicmojfaa.P

/-! Part H100. -/
namespace Go.Proofs.Ythlbjdiicmojfaa.P
open Go.RowKit Go.Proofs.YthlbjdiicmojfaaW.PrintWords Go.Proofs.YthlbjdiicmojfaaW.PrintLast Go.Proofs.YthlbjdiicmojfaaW.PrintMore
set_option linter.unusedVariables false

/-- The cells of parts. -/
def fl : List S43 → List Value
  | [] => []
  | p :: l => .int .i64 p.f0 :: .int .i64 p.f1 :: fl l
theorem fl_length : ∀ l, (fl l).length = l.length * 2
  | [] => rfl
  | p :: l => by simp [fl, fl_length l]; omega
theorem fl_append : ∀ l m, fl (l ++ m) = fl l ++ fl m
  | [], m => rfl
  | p :: l, m => by simp [fl, fl_append l m]
theorem fl_drop : ∀ (l : List S43) (k : Nat), fl (l.drop k) = (fl l).drop (k * 2)
  | l, 0 => by simp
  | [], k + 1 => by simp [fl]
  | p :: l, k + 1 => by
    rw [List.drop_succ_cons, fl_drop l k, show (k + 1) * 2 = k * 2 + 1 + 1 by omega]
    simp [fl]
theorem fl_take : ∀ (l : List S43) (k : Nat), fl (l.take k) = (fl l).take (k * 2)
  | l, 0 => by simp [fl]
  | [], k + 1 => by simp [fl]
  | p :: l, k + 1 => by
    rw [List.take_succ_cons, show (k + 1) * 2 = k * 2 + 1 + 1 by omega]
    simp [fl, fl_take l k]
theorem fl_one : ∀ (l : List S43), ∀ u ∈ fl l, u.oneCell' = true
  | [], u, h => by simp [fl] at h
  | p :: l, u, h => by
    simp only [fl, List.mem_cons] at h
    rcases h with rfl | rfl | h
    · rfl
    · rfl
    · exact fl_one l u h
theorem fl_seg : ∀ (l : List S43) (j : Nat) (p : S43), l[j]? = some p → ((fl l).drop (j * 2)).take 2 = [.int .i64 p.f0, .int .i64 p.f1] := by
  intro l j p h
  rw [← fl_drop]
  obtain ⟨hj, rfl⟩ := List.getElem?_eq_some_iff.1 h
  rw [List.drop_eq_getElem_cons hj]
  rfl

theorem own43 {w : World} {base : Nat} {v : Value} {l : List S43} {ok : Nat → Prop} (h : Kd.R k43 43 w base ok v l) : w.ownsRow base 43 2 v l.length (fl l) := by
  obtain ⟨_, inner, ho, hr⟩ := h
  have e : inner = fl l := by
    apply List.ext_getElem?
    intro i
    have hl : inner.length = l.length * 2 := hr.1
    rcases Nat.lt_or_ge (i / 2) l.length with hj | hj
    · have h2 := k43_openM (hr.2 (i / 2) _ (List.getElem?_eq_getElem hj))
      have h3 := fl_seg l (i / 2) _ (List.getElem?_eq_getElem hj)
      have h4 : ((inner.drop (i / 2 * 2)).take 2)[i % 2]? = (((fl l).drop (i / 2 * 2)).take 2)[i % 2]? := by
        rw [h3]; exact congrArg (fun x : List Value => x[i % 2]?) h2
      rw [List.getElem?_take, List.getElem?_take, List.getElem?_drop, List.getElem?_drop, if_pos (by omega), if_pos (by omega), show i / 2 * 2 + i % 2 = i by omega] at h4
      exact h4
    · rw [List.getElem?_eq_none (by omega), List.getElem?_eq_none (by rw [fl_length]; omega)]
  rw [← e]; exact ho
theorem R43 {w : World} {base : Nat} {v : Value} {l : List S43} (h : w.ownsRow base 43 2 v l.length (fl l)) : Kd.R k43 43 w base (fun _ => True) v l :=
  ⟨fun _ _ => trivial, fl l, h, fl_length l, fun j p hp => by
    have := fl_seg l j p hp
    show k43.M w base _ p (((fl l).drop (j * 2)).take 2)
    rw [this]
    exact k43_mkM _ _ _ p⟩

theorem clear1 (W : World) (ty : TypeId) (b o c : Nat) (hc : ∀ j, j < 2 → (W.cell? ⟨b, o + j, none⟩).isSome = true) (hf : ∀ j, j < 2 → W.frozen? ⟨b, o + j, none⟩ = false) :
    (Builtin.clear_ #[22] ty #[.slice (some ⟨b, o, none⟩) 1 c]).run Try.prog W = .ok (.tuple #[]) (W.setCells b o [.int .i64 0, .int .i64 0]) := by
  obtain ⟨i0, hi, hz0, hz1, hz2⟩ := info_parts info43
  have hv : ∀ W : World, (zeroValue 43).run Try.prog W = .ok (.agg #[.int .i64 0, .int .i64 0]) W := fun W => by kernel_rfl
  have hzc : (Builtin.zeroCells (Value.agg #[.int .i64 0, .int .i64 0]).cells 1).toList = [.int .i64 0, .int .i64 0] := by kernel_rfl
  have hst := run_storeCells_cells (P := Try.prog) b o [.int .i64 0, .int .i64 0] 0 W (by simpa using hc) (by simpa using hf) (by intro v hv'; simp at hv'; subst hv'; rfl)
  simp only [Nat.add_zero] at hst
  simp [Builtin.clear_, run_underlying Try.underlying22, hv, hzc, hst]

theorem grown_setCells (W : World) (g o : Nat) (vs : List Value) : W.grownBy (W.setCells g o vs) (some g) := by
  obtain ⟨h1, h2, h3, h4⟩ := setCells_same g vs o W
  exact ⟨h1, h2, h3, by rw [h4]; exact Nat.le_refl _, fun k _ hk => setCells_far vs o k (fun e => hk (by rw [e]))⟩
theorem frozen_row {w : World} {g : Nat} {t : TypeId} {cs : Array Value} (h : w.heap[g]? = some (.cells cs t (0, 0))) (i : Nat) : w.frozen? ⟨g, i, none⟩ = false := blk_frozen h i

set_option maxHeartbeats 4000000 in
set_option maxRecDepth 100000 in
theorem delete43 (w : World) (base g cap : Nat) (l : List S43) (k : Nat) (hk : k < l.length) (hle : l.length ≤ 12) (hown : w.ownsRow base 43 2 (.slice (some ⟨g, 0, none⟩) l.length cap) l.length (fl l)) :
    Calls Try.prog 114 #[.slice (some ⟨g, 0, none⟩) l.length cap, .int .i64 k, .int .i64 (k + 1)] w fun e w' => e = .returned (.slice (some ⟨g, 0, none⟩) (k + (l.length - (k + 1))) cap) ∧
      w'.ownsRow base 43 2 (.slice (some ⟨g, 0, none⟩) (l.eraseIdx k).length cap) (l.eraseIdx k).length (fl (l.eraseIdx k)) ∧ Below base w w' := by
  have hu43 := Try.underlying43
  obtain ⟨i0, hi0, _, hz1, _⟩ := info_parts info43
  obtain ⟨hlen0, h2⟩ := hown
  obtain ⟨cur, hbase, hcur, hnc, hcm, hcs, htk⟩ : ∃ cur, base ≤ g ∧ w.heap[g]? = some (.cells cur 43 (0, 0)) ∧ l.length ≤ cap ∧ cap ≤ maxLen ∧ cur.size = cap * 2 ∧ cur.toList.take (l.length * 2) = fl l := by
    rcases h2 with ⟨he, _⟩ | ⟨g', cap', cur, he, h3, h4, h5, h6, h7, h8⟩
    · cases he
    · cases he
      exact ⟨cur, h3, h4, h5, h6, h7, h8⟩
  clear h2 hlen0
  have hcmax : cap ≤ 9223372036854775807 := hcm
  have hcl : ∀ (t : Nat) (u : Value), (fl l)[t]? = some u → cur[t]? = some u := by
    intro t u hu
    have ht : t < l.length * 2 := by
      have := (List.getElem?_eq_some_iff.1 hu).1
      rwa [fl_length] at this
    rw [← htk, List.getElem?_take, if_pos ht, Array.getElem?_toList] at hu
    exact hu
  obtain ⟨news, hnews⟩ : ∃ news, news = fl (l.drop (k + 1)) := ⟨_, rfl⟩
  have hlen : news.length = (l.length - (k + 1)) * 2 := by rw [hnews, fl_length, List.length_drop]
  obtain ⟨A, hA, hsrc⟩ : ∃ A : Addr, (if cap = k + 1 then (some (⟨g, 0, none⟩ : Addr)) else some ⟨g, (k + 1) * 2, none⟩) = some A ∧ Aside0 (∀ (t : Nat) (u : Value), news[t]? = some u → w.drew.cell? (A.add t) = some u) := by
    by_cases h : cap = k + 1
    · refine ⟨⟨g, 0, none⟩, by simp [h], ⟨fun t u hu => ?_⟩⟩
      have h0 : news.length = 0 := by rw [hlen]; omega
      rw [List.length_eq_zero_iff.1 h0] at hu
      simp at hu
    · refine ⟨⟨g, (k + 1) * 2, none⟩, by simp [h], ⟨fun t u hu => ?_⟩⟩
      rw [hnews, fl_drop, List.getElem?_drop] at hu
      rw [add_at]
      exact (blk_cell hcur _).trans (hcl _ _ hu)
  have s1 : Aside0 (news.length = (l.length - (k + 1)) * 2) := ⟨hlen⟩
  have s2 : Aside0 (∀ u ∈ news, u.oneCell' = true) := ⟨by rw [hnews]; exact fl_one _⟩
  have s3 : Aside0 (∀ t, t < news.length → (w.drew.cell? ⟨g, 0 + k * 2 + t, none⟩).isSome = true ∧ w.drew.frozen? ⟨g, 0 + k * 2 + t, none⟩ = false) := by
    refine ⟨fun t ht => ?_⟩
    rw [hlen] at ht
    refine ⟨?_, blk_frozen hcur _⟩
    have : w.drew.cell? ⟨g, 0 + k * 2 + t, none⟩ = cur[0 + k * 2 + t]? := blk_cell hcur _
    rw [this, Array.getElem?_eq_getElem (by omega)]
    rfl
  obtain ⟨W1, hW1⟩ : ∃ W1, W1 = w.drew.setCells g (0 + k * 2) news := ⟨_, rfl⟩
  obtain ⟨cur1, hc1, hs1, ht1⟩ := setCells_row news (0 + k * 2) w.drew cur hcur (by rw [hlen]; omega)
  have hg1 := grown_setCells w.drew g (0 + k * 2) news
  rw [← hW1] at hc1 hg1
  have hclr : ∀ ty, (Builtin.clear_ #[22] ty #[.slice (some ⟨g, (k + (l.length - (k + 1))) * 2, none⟩) (l.length - (k + (l.length - (k + 1)))) (cap - (k + (l.length - (k + 1))))]).run Try.prog W1 = .ok (.tuple #[]) (W1.setCells g ((k + (l.length - (k + 1))) * 2) [.int .i64 0, .int .i64 0]) := by
    intro ty
    rw [show l.length - (k + (l.length - (k + 1))) = 1 by omega]
    refine clear1 W1 ty g _ _ (fun j hj => ?_) (fun j _ => blk_frozen hc1 _)
    rw [blk_cell hc1, Array.getElem?_eq_getElem (by omega)]
    rfl
  have X : Aside0 (Below base w (W1.setCells g ((k + (l.length - (k + 1))) * 2) [.int .i64 0, .int .i64 0]) ∧ (W1.setCells g ((k + (l.length - (k + 1))) * 2) [.int .i64 0, .int .i64 0]).ownsRow base 43 2 (.slice (some ⟨g, 0, none⟩) (l.eraseIdx k).length cap) (l.eraseIdx k).length (fl (l.eraseIdx k))) := by
    obtain ⟨cur2, hc2, hs2, ht2⟩ := setCells_row [.int .i64 0, .int .i64 0] ((k + (l.length - (k + 1))) * 2) W1 cur1 hc1 (by simp only [List.length_cons, List.length_nil]; omega)
    have hg2 := grown_setCells W1 g ((k + (l.length - (k + 1))) * 2) [.int .i64 0, .int .i64 0]
    have hle' : (l.eraseIdx k).length = k + (l.length - (k + 1)) := by rw [List.length_eraseIdx, if_pos hk]; omega
    have hblk := blk_lt hcur
    refine ⟨⟨⟨hg2.os.trans hg1.os, hg2.tape.trans hg1.tape, hg2.output.trans hg1.output, Nat.le_trans hg1.size hg2.size, fun i hi => ?_⟩, fl_length _, .inr ⟨g, cap, cur2, rfl, hbase, hc2, by omega, hcm, by omega, ?_⟩⟩⟩
    · have hne : some i ≠ some g := by intro e; have := Option.some.inj e; omega
      have h1 := hg1.block i (show i < w.heap.size by omega) hne
      have h2 := hg2.block i (Nat.lt_of_lt_of_le (show i < w.heap.size by omega) hg1.size) hne
      exact h2.trans h1
    · have hA1 : cur.toList.take (0 + k * 2) = fl (l.take k) := by
        rw [fl_take, ← htk, List.take_take, Nat.zero_add, Nat.min_eq_left (by omega)]
      have hlA : (fl (l.take k)).length = k * 2 := by rw [fl_length, List.length_take]; omega
      rw [ht2, ht1, hA1, hle']
      have hl1 : (fl (l.take k) ++ news ++ List.drop (0 + k * 2 + news.length) cur.toList).length ≥ (k + (l.length - (k + 1))) * 2 := by
        rw [List.length_append, List.length_append, hlA, hlen]; omega
      have hl2 : (fl (l.take k) ++ news).length = (k + (l.length - (k + 1))) * 2 := by rw [List.length_append, hlA, hlen]; omega
      rw [List.append_assoc (List.take _ _), List.take_append_of_le_length (by rw [List.length_take]; omega), List.take_take, Nat.min_self, List.take_append_of_le_length (by omega), List.take_of_length_le (by omega), hnews, ← fl_append, ← List.eraseIdx_eq_take_drop_succ]
  have hW : Aside0 (W1 = w.drew.setCells g (0 + k * 2) news) := ⟨hW1⟩
  have hkc : k ≤ cap := by omega
  have hk1c : k + 1 ≤ cap := by omega
  have HI := Aside0.mk hi0
  have hq1 : (0 : Int) ≤ (k : Int) + 1 := by omega
  have hq2 : (k : Int) + 1 ≤ (l.length : Int) := by omega
  clear hW1 hg1 hc1 hs1 ht1 hcl hcur hcs htk hnews hlen hcm
  go_enter Try.func114, Try.ntmps114
  go_wp2_with fail
  go_region_law (refine step_append_room rfl (.tmp 22) (.tmp 25) 22 rfl 43 i0 2 Try.underlying22 HI.out hz1 g 0 k cap (by simp [Act.eval, Act.put]) A (l.length - (k + 1)) (cap - (k + 1)) news (by simp [Act.eval, Act.put]) s1.out hsrc.out s2.out (by omega) s3.out ?_; rw [← hW.out])
  go_wp2_with fail
  go_ret
  exact ⟨rfl, X.out.2, X.out.1⟩

set_option maxHeartbeats 4000000 in
set_option maxRecDepth 100000 in
theorem secret_without.calls (A0 : Option Addr) (c0 : Nat) (l0 : List (S43)) (a1 : Int) (r : List (S43)) (w : World) (hr0 : Kd.C k43 w A0 l0.length l0) (hc0 : l0.length ≤ c0) (h : secret_without.f l0 a1 = some r) :
    Calls Try.prog 100 #[.slice A0 l0.length c0, .int .i64 a1] w fun e w' => ∃ v0_ : Value, e = .returned (v0_) ∧ Kd.R k43 43 w' w.heap.size (fun _ => True) v0_ r ∧ Below w.heap.size w w' := by
  unfold secret_without.f at h
  split at h
  · rename_i hg
    obtain ⟨hle, h0, h1⟩ := hg
    obtain ⟨k, rfl⟩ := Int.eq_ofNat_of_zero_le h0
    have hk : k < l0.length := by omega
    simp only [Int.toNat_natCast] at h
    obtain rfl := Option.some.inj h
    clear h h0 h1
    have HCL := Aside0.mk (api_Part_93.calls A0 c0 l0 l0 w hr0 hc0 (by unfold api_Part_93.f; rw [if_pos hle]))
    clear hr0 hc0
    go_enter Try.func100, Try.ntmps100
    go_wp2_with fail
    with_reducible refine HCL.out.mono ?_
    rintro e w1 ⟨v0, rfl, hR, hb⟩
    obtain ⟨g, cap, hv⟩ : ∃ g cap, v0 = .slice (some ⟨g, 0, none⟩) l0.length cap := by
      rcases (own43 hR).2 with ⟨_, h0⟩ | ⟨g, cap, _, rfl, _⟩
      · omega
      · exact ⟨g, cap, rfl⟩
    subst hv
    have HD := Aside0.mk (delete43 w1 w.heap.size g cap l0 k hk hle (own43 hR))
    have HB := Aside0.mk hb
    clear hR hb
    go_wp2_with fail
    with_reducible refine HD.out.mono ?_
    rintro e w2 ⟨rfl, ho2, hb2⟩
    have HO2 := Aside0.mk ho2
    have HB2 := Aside0.mk hb2
    clear ho2 hb2
    have HL : Aside0 ((l0.eraseIdx k).length = k + (l0.length - (k + 1))) := ⟨by rw [List.length_eraseIdx, if_pos hk]; omega⟩
    go_wp2_with fail
    go_ret
    refine ⟨_, rfl, ?_, HB.out.trans HB2.out⟩
    have := R43 HO2.out
    rw [HL.out] at this
    exact this
  · cases h
end Go.Proofs.Ythlbjdiicmojfaa.P

/-! Part H57. -/
namespace Go.Proofs.Ythlbjdiicmojfaa.P
open Go.RowKit Go.Proofs.YthlbjdiicmojfaaW.PrintWords Go.Proofs.YthlbjdiicmojfaaW.PrintLast Go.Proofs.YthlbjdiicmojfaaW.PrintMore
set_option linter.unusedVariables false

theorem fl_set : ∀ (l : List S43) (k : Nat) (hk : k < l.length) (s : Int), fl (l.set k ⟨l[k].f0, s⟩) = (fl l).take (k * 2 + 1) ++ [.int .i64 s] ++ (fl l).drop (k * 2 + 1 + 1)
  | p :: l, 0, _, s => by simp [fl]
  | p :: l, k + 1, hk, s => by
    have h := fl_set l k (by simpa using hk) s
    rw [show (k + 1) * 2 + 1 = k * 2 + 1 + 1 + 1 by omega]
    simp only [List.set_cons_succ, List.getElem_cons_succ, fl, List.take_succ_cons, List.drop_succ_cons, List.cons_append]
    rw [h]
theorem own43_set {w : World} {base g cap : Nat} {l : List S43} (h : w.ownsRow base 43 2 (.slice (some ⟨g, 0, none⟩) l.length cap) l.length (fl l)) (k : Nat) (hk : k < l.length) (s : Int) :
    (w.setCell ⟨g, k * 2 + 1, none⟩ (.int .i64 s)).ownsRow base 43 2 (.slice (some ⟨g, 0, none⟩) (l.set k ⟨l[k].f0, s⟩).length cap) (l.set k ⟨l[k].f0, s⟩).length (fl (l.set k ⟨l[k].f0, s⟩)) := by
  obtain ⟨hlen0, h2⟩ := h
  rcases h2 with ⟨he, _⟩ | ⟨g', cap', cur, he, h3, h4, h5, h6, h7, h8⟩
  · cases he
  · cases he
    obtain ⟨cur2, hc2, hs2, ht2⟩ := setCells_row [.int .i64 s] (k * 2 + 1) w cur h4 (by simp only [List.length_cons, List.length_nil]; omega)
    have hsz : cur.toList.length = cap * 2 := by rw [Array.length_toList]; exact h7
    refine ⟨fl_length _, .inr ⟨g, cap, cur2, rfl, h3, hc2, by rw [List.length_set]; omega, h6, by rw [hs2]; exact h7, ?_⟩⟩
    rw [List.length_set, ht2, fl_set l k hk s, ← h8, List.take_take, Nat.min_eq_left (by omega)]
    simp only [List.length_cons, List.length_nil, Nat.zero_add]
    have hl1 : (cur.toList.take (k * 2 + 1) ++ [Value.int .i64 s]).length = k * 2 + 1 + 1 := by
      rw [List.length_append, List.length_take]; simp only [List.length_cons, List.length_nil]; omega
    rw [List.take_append, List.take_of_length_le (by rw [hl1]; omega), hl1, List.drop_take]
theorem own43_cell {w : World} {base g cap : Nat} {l : List S43} (h : w.ownsRow base 43 2 (.slice (some ⟨g, 0, none⟩) l.length cap) l.length (fl l)) (k : Nat) (hk : k < l.length) :
    w.cell? ⟨g, k * 2, none⟩ = some (.int .i64 l[k].f0) ∧ w.cell? ⟨g, k * 2 + 1, none⟩ = some (.int .i64 l[k].f1) ∧ ∀ i, w.frozen? ⟨g, i, none⟩ = false := by
  obtain ⟨hlen0, h2⟩ := h
  rcases h2 with ⟨he, _⟩ | ⟨g', cap', cur, he, h3, h4, h5, h6, h7, h8⟩
  · cases he
  · cases he
    have hseg := fl_seg l k _ (List.getElem?_eq_getElem hk)
    have hget : ∀ j, j < 2 → cur[k * 2 + j]? = ([Value.int .i64 l[k].f0, .int .i64 l[k].f1] : List Value)[j]? := by
      intro j hj
      rw [← hseg, List.getElem?_take, if_pos hj, List.getElem?_drop, ← h8, List.getElem?_take, if_pos (by omega), Array.getElem?_toList]
    exact ⟨(blk_cell h4 _).trans (hget 0 (by omega)), (blk_cell h4 _).trans (hget 1 (by omega)), fun i => blk_frozen h4 i⟩
theorem own43_below {w : World} {base g cap : Nat} {l : List S43} (h : w.ownsRow base 43 2 (.slice (some ⟨g, 0, none⟩) l.length cap) l.length (fl l)) : base ≤ g := by
  rcases h.2 with ⟨he, _⟩ | ⟨g', cap', cur, he, h3, _⟩
  · cases he
  · cases he; exact h3

/-- The parts of two lists added, up to place i. -/
def addTo (l m : List S43) (i : Nat) : List S43 := List.zipWith (fun p q => (⟨p.f0, (p.f1 + q.f1) % 251⟩ : S43)) (l.take i) (m.take i) ++ l.drop i
theorem addTo_length (l m : List S43) (i : Nat) (hi : i ≤ l.length) (h : l.length = m.length) : (addTo l m i).length = l.length := by
  unfold addTo; simp; omega
theorem addTo_get (l m : List S43) (i : Nat) (hi : i < l.length) (h : l.length = m.length) : (addTo l m i)[i]? = some l[i] := by
  unfold addTo
  rw [List.getElem?_append_right (by simp; omega)]
  simp only [List.length_zipWith, List.length_take]
  rw [show i - min (min i l.length) (min i m.length) = 0 by omega, List.getElem?_drop]
  simp [hi]
theorem addTo_succ (l m : List S43) (i : Nat) (hi : i < l.length) (h : l.length = m.length) (hg : i < (addTo l m i).length) : (addTo l m i).set i ⟨(addTo l m i)[i].f0, (l[i].f1 + (m[i]'(by omega)).f1) % 251⟩ = addTo l m (i + 1) := by
  have h1 : (addTo l m i)[i] = l[i] := by have := addTo_get l m i hi h; rw [List.getElem?_eq_getElem hg] at this; exact Option.some.inj this
  rw [h1]
  unfold addTo
  have hz : (List.zipWith (fun p q => (⟨p.f0, (p.f1 + q.f1) % 251⟩ : S43)) (l.take i) (m.take i)).length = i := by simp; omega
  rw [List.set_append_right _ _ (by omega), hz, Nat.sub_self, List.drop_eq_getElem_cons hi, List.set_cons_zero, List.take_succ_eq_append_getElem hi, List.take_succ_eq_append_getElem (show i < m.length by omega), List.zipWith_append (by simp; omega)]
  simp

set_option maxHeartbeats 4000000 in
set_option maxRecDepth 100000 in
theorem secret_Add.calls (A0 : Option Addr) (c0 : Nat) (l0 : List (S43)) (A1 : Option Addr) (c1 : Nat) (l1 : List (S43)) (r1 : List (S43)) (r2 : Int) (w : World) (hr0 : Kd.C k43 w A0 l0.length l0) (hc0 : l0.length ≤ c0) (hr1 : Kd.C k43 w A1 l1.length l1) (hc1 : l1.length ≤ c1) (h : secret_Add.f l0 l1 = some (r1, r2)) :
    Calls Try.prog 57 #[.slice A0 l0.length c0, .slice A1 l1.length c1] w fun e w' => ∃ v0_ : Value, e = .returned (.tuple #[v0_, .int .i64 r2]) ∧ Kd.R k43 43 w' w.heap.size (fun _ => True) v0_ r1 ∧ Below w.heap.size w w' := by
  have HV0 := Aside0.mk (secret_Validate.calls A0 c0 l0 (valid l0) w hr0 hc0 rfl)
  have HV1 : Aside0 (∀ W, Below w.heap.size w W → Calls Try.prog 65 #[.slice A1 l1.length c1] W fun e w' => e = .returned (.int .i64 (valid l1)) ∧ Below W.heap.size W w') := ⟨fun W hW => secret_Validate.calls A1 c1 l1 (valid l1) W (Kd.C_below hr1 hW) hc1 rfl⟩
  have HR0 := Aside0.mk hr0
  have HR1 := Aside0.mk hr1
  have HC0 := Aside0.mk hc0
  have HC1 := Aside0.mk hc1
  have hu43 := Try.underlying43
  clear hr0 hr1 hc0 hc1
  unfold secret_Add.f at h
  split at h
  · rename_i hv
    obtain ⟨hlen, -, -⟩ := valid_iff.1 hv
    have hok0 := (valid_iff.1 hv).2.1
    rw [hv] at HV0
    have HOK0 := Aside0.mk hok0
    clear hv hok0
    split at h
    · rename_i hv1
      have HOK1 := Aside0.mk (valid_iff.1 hv1).2.1
      rw [hv1] at HV1
      clear hv1
      split at h
      · rename_i heq
        simp only [Option.some.injEq, Prod.mk.injEq] at h
        obtain ⟨hr, rfl⟩ := h
        have HR := Aside0.mk hr
        have hll : l0.length = l1.length := by have := congrArg List.length heq; simpa using this
        have HLL := Aside0.mk hll
        have hle : l0.length ≤ l1.length := by omega
        have HEQ := Aside0.mk (decide_eq_true heq)
        clear hr heq hll
        go_enter Try.func57, Try.ntmps57
        go_wp2_with fail
        with_reducible refine HV0.out.mono ?_
        rintro e w1 ⟨rfl, hb⟩
        have HB1 := Aside0.mk hb
        clear hb
        go_wp2_with fail
        with_reducible refine (HV1.out w1 HB1.out).mono ?_
        rintro e w2 ⟨rfl, hb⟩
        have HB2 := Aside0.mk (below_step HB1.out hb)
        clear hb
        go_wp2_with fail
        with_reducible refine (equalX A0 c0 l0 A1 c1 l1 _ (Kd.C_below HR0.out HB2.out) (Kd.C_below HR1.out HB2.out)).mono ?_
        rw [HEQ.out]
        rintro e w3 ⟨rfl, hb⟩
        have HB3 := Aside0.mk (below_step HB2.out hb)
        clear hb
        go_wp2_with fail
        with_reducible refine (api_Part_93.calls A0 c0 l0 l0 _ (Kd.C_below HR0.out HB3.out) HC0.out (by unfold api_Part_93.f; rw [if_pos hlen])).mono ?_
        rintro e w4 ⟨v, rfl, hR, hb⟩
        have HB4 := Aside0.mk (below_step HB3.out hb)
        have HO := Aside0.mk (own43 (Kd.R_lower hR (below_size HB3.out)))
        obtain ⟨Av, cv, ev⟩ := Kd.R_slice hR
        subst ev
        clear hb hR
        go_wp2_with fail
        go_loopg [28] l0.length (fun gg s28 wr => ∃ i : Nat, i ≤ l0.length ∧ l0.length - i ≤ gg ∧ s28 = .int .i64 i ∧ Aside0 (wr.ownsRow w.heap.size 43 2 (.slice Av l0.length cv) l0.length (fl (addTo l0 l1 i))) ∧ Aside0 (Below w.heap.size w wr))
        case atStart => exact ⟨0, Nat.zero_le _, by omega, rfl, ⟨by have := HO.out; simpa [addTo] using this⟩, HB4⟩
        case round =>
          clear HO HB4 HB3 HB2 HB1
          obtain ⟨i, hi, hg, rfl, HO, HB⟩ := hrel
          by_cases hlt : i < l0.length
          · have hltz : (i : Int) < (l0.length : Int) := by omega
            have hlt1 : i < l1.length := by omega
            have hltz1 : (i : Int) < (l1.length : Int) := by omega
            have hq0 : (0 : Int) ≤ (i : Int) := by omega
            obtain ⟨g, hAv⟩ : ∃ g, Av = some ⟨g, 0, none⟩ := by
              rcases HO.out.2 with ⟨_, h0⟩ | ⟨g, cap, _, he, _⟩
              · omega
              · cases he; exact ⟨g, rfl⟩
            subst hAv
            have hal : (addTo l0 l1 i).length = l0.length := addTo_length l0 l1 i hi HLL.out
            have hown := HO.out
            rw [← hal] at hown
            have hia : i < (addTo l0 l1 i).length := by rw [hal]; exact hlt
            obtain ⟨-, hcy, hfz⟩ := own43_cell hown i hia
            have hgi : (addTo l0 l1 i)[i] = l0[i] := by have := addTo_get l0 l1 i hlt HLL.out; rw [List.getElem?_eq_getElem hia] at this; exact Option.some.inj this
            have HGB := Aside0.mk (own43_below hown)
            have hset := own43_set hown i hia ((l0[i].f1 + l1[i].f1) % 251)
            rw [addTo_succ l0 l1 i hlt HLL.out hia, addTo_length l0 l1 (i + 1) (by omega) HLL.out] at hset
            have HSET := Aside0.mk hset
            rw [hgi] at hcy
            have hfz1 := hfz (i * 2 + 1)
            obtain ⟨ad1, e1, -, hm1⟩ := at_T43 (Kd.C_below HR1.out HB.out) (i : Int) hq0 hltz1
            cases e1
            rw [rd43_get l1 i hlt1] at hm1
            simp only [Int.toNat_natCast] at hm1
            have hy0 := okP_iff.1 (HOK0.out l0[i] (List.getElem_mem hlt))
            have hy1 := okP_iff.1 (HOK1.out l1[i] (List.getElem_mem hlt1))
            generalize l0[i].f1 = y0 at hcy hy0 HSET
            generalize l1[i].f1 = y1 at hm1 hy1 HSET
            obtain ⟨-, -, hy00, hy01⟩ := hy0
            obtain ⟨-, -, hy10, hy11⟩ := hy1
            have hsum : IntKind.i64.wrap (y0 + y1) = y0 + y1 := IntWalk.i64_in _ (by omega)
            clear hown hfz hset hal hia hgi
            go_wp2_with fail
            go_region_with (go_at_call 96; refine (secret_rest.calls _ _ _ (rest_eq _)).mono ?_; rintro e w' ⟨rfl, ⟨nd, rfl⟩⟩)
            all_goals
              go_wp2_with fail
              go_roundg (l0.length - (i + 1))
              case measure => omega
              case rel => exact ⟨i + 1, by omega, by omega, by go_num, ⟨HSET.out⟩, ⟨(pw_below_drewN HB.out _).setCell (p := ⟨g, i * 2 + 1, none⟩) HGB.out _⟩⟩
          · have hltz : ¬ (i : Int) < (l0.length : Int) := by omega
            have HE : Aside0 (addTo l0 l1 i = List.zipWith (fun p q => (⟨p.f0, (p.f1 + q.f1) % 251⟩ : S43)) l0 l1) := ⟨by unfold addTo; have h2 := HLL.out; rw [List.take_of_length_le (by omega), List.take_of_length_le (by omega), List.drop_of_length_le (by omega), List.append_nil]⟩
            go_wp2_with fail
            go_ret2
            refine ⟨_, rfl, ?_, HB.out⟩
            rw [← HR.out, ← HE.out]
            refine R43 ?_
            rw [addTo_length l0 l1 i hi HLL.out]
            exact HO.out
      · rename_i heq
        simp only [Option.some.injEq, Prod.mk.injEq] at h
        obtain ⟨rfl, rfl⟩ := h
        have HEQ := Aside0.mk (decide_eq_false heq)
        clear heq
        go_enter Try.func57, Try.ntmps57
        go_wp2_with fail
        with_reducible refine HV0.out.mono ?_
        rintro e w1 ⟨rfl, hb⟩
        have HB1 := Aside0.mk hb
        clear hb
        go_wp2_with fail
        with_reducible refine (HV1.out w1 HB1.out).mono ?_
        rintro e w2 ⟨rfl, hb⟩
        have HB2 := Aside0.mk (below_step HB1.out hb)
        clear hb
        go_wp2_with fail
        with_reducible refine (equalX A0 c0 l0 A1 c1 l1 _ (Kd.C_below HR0.out HB2.out) (Kd.C_below HR1.out HB2.out)).mono ?_
        rw [HEQ.out]
        rintro e w3 ⟨rfl, hb⟩
        have HB3 := Aside0.mk (below_step HB2.out hb)
        clear hb
        go_wp2_with fail
        go_ret2
        exact ⟨_, rfl, Kd.R_nil _ _ _ _ _, HB3.out⟩
    · rename_i hv1
      simp only [Option.some.injEq, Prod.mk.injEq] at h
      obtain ⟨rfl, rfl⟩ := h
      have hw1 : (valid l1 == 0) = false := by simpa using hv1
      have hw2 : (valid l1 != 0) = true := by simpa using hv1
      obtain ⟨vv, hvv⟩ : ∃ vv, valid l1 = vv := ⟨_, rfl⟩
      rw [hvv] at HV1 hw1 hw2 ⊢
      clear hv1 hvv
      go_enter Try.func57, Try.ntmps57
      go_wp2_with fail
      with_reducible refine HV0.out.mono ?_
      rintro e w1 ⟨rfl, hb⟩
      have HB1 := Aside0.mk hb
      clear hb
      go_wp2_with fail
      with_reducible refine (HV1.out w1 HB1.out).mono ?_
      rintro e w2 ⟨rfl, hb⟩
      have HB2 := Aside0.mk (below_step HB1.out hb)
      clear hb
      go_wp2_with fail
      go_ret2
      exact ⟨_, rfl, Kd.R_nil _ _ _ _ _, HB2.out⟩
  · rename_i hv
    simp only [Option.some.injEq, Prod.mk.injEq] at h
    obtain ⟨rfl, rfl⟩ := h
    have hw1 : (valid l0 == 0) = false := by simpa using hv
    have hw2 : (valid l0 != 0) = true := by simpa using hv
    obtain ⟨vv, hvv⟩ : ∃ vv, valid l0 = vv := ⟨_, rfl⟩
    rw [hvv] at HV0 hw1 hw2 ⊢
    clear hv hvv
    go_enter Try.func57, Try.ntmps57
    go_wp2_with fail
    with_reducible refine HV0.out.mono ?_
    rintro e w1 ⟨rfl, hb⟩
    have HB1 := Aside0.mk hb
    clear hb
    go_wp2_with fail
    go_ret2
    exact ⟨_, rfl, Kd.R_nil _ _ _ _ _, HB1.out⟩
end Go.Proofs.Ythlbjdiicmojfaa.P
