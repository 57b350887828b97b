/- Parts of the proof of the law SecretWrongs: walks of functions that it reaches, and plain facts about numbers, lists and curves; without a condition. -/
import Derived.Test.YthlbjdiicmojfaaSecretWrongsM1
import Derived.Test.YthlbjdiicmojfaaSecretWrongsM5
import Derived.Test.YthlbjdiicmojfaaSecretWrongsM4
import Derived.Test.YthlbjdiicmojfaaSecretWrongsM3
import Derived.Test.YthlbjdiicmojfaaVSized
import Derived.Deep.SlicePairs
/-! Part PF82. -/
-- Written for this claim by wip/print_more.py (a session's program that runs the kit's printer with hand-proved functions beside). Lean checks it.
namespace Go.Proofs.Ythlbjdiicmojfaa.P
open Go.RowKit Go.Proofs.YthlbjdiicmojfaaW.PrintWords Go.Proofs.YthlbjdiicmojfaaW.PrintLast Go.Proofs.YthlbjdiicmojfaaW.PrintMore
attribute [local go_sem] max2_int min2_int max_two min_two max_three min_three max_four min_four   -- for this text's walks alone
set_option linter.unusedVariables false
set_option linter.unusedSimpArgs false

/-! ### verditerref08_at: function 82 -/
def verditerref08_at.l0 : Nat → List Int → Int → Int → Int → Int → Option (Int)
  | 0, _, _, _, _, _ => none
  | k + 1, x0, x1, x5, x6, x7 => if x7 < (x0.length : Int) then (if 0 ≤ x7 then ((verditerref08_mod.f (wrap64 (x5 + (wrap64 ((rd x0 x7) * x6))))).bind fun t245 => ((verditerref08_mod.f (wrap64 (x6 * x1))).bind fun t246 => (verditerref08_at.l0 k x0 x1 t245 t246 (wrap64 (x7 + 1))))) else (none)) else (some x5)
def verditerref08_at.f (k : Nat) (l0 : List Int) (a1 : Int) : Option (Int) := verditerref08_at.l0 k l0 a1 0 1 0
theorem verditerref08_at.mono_l : ∀ k, (∀ y0 y1 y2 y3 y4, LeO (verditerref08_at.l0 k y0 y1 y2 y3 y4) (verditerref08_at.l0 (k + 1) y0 y1 y2 y3 y4))
  | 0 => fun _ _ _ _ _ r h => by simp [verditerref08_at.l0] at h
  | k + 1 => by
    have ih0 := verditerref08_at.mono_l k
    · intro y0 y1 y2 y3 y4
      unfold verditerref08_at.l0
      repeat' first
      | (with_reducible exact ih0 _ _ _ _ _)
      | (with_reducible exact LeO.refl _)
      | (with_reducible exact LeO.none _)
      | (with_reducible refine LeO.ite ?_ ?_)
      | (with_reducible refine LeO.bind ?_ (fun _ => ?_))
      | exact ih0 _ _ _ _ _
      | exact LeO.none _
      | refine LeO.ite ?_ ?_
      | refine LeO.bind ?_ (fun _ => ?_)
theorem verditerref08_at.mono : ∀ a0 a1 k, LeO (verditerref08_at.f k a0 a1) (verditerref08_at.f (k + 1) a0 a1) := by
  intro a0 a1 k
  have ih0 := verditerref08_at.mono_l k
  unfold verditerref08_at.f
  repeat' first
      | (with_reducible exact ih0 _ _ _ _ _)
      | (with_reducible exact LeO.refl _)
      | (with_reducible exact LeO.none _)
      | (with_reducible refine LeO.ite ?_ ?_)
      | (with_reducible refine LeO.bind ?_ (fun _ => ?_))
      | exact ih0 _ _ _ _ _
      | exact LeO.none _
      | refine LeO.ite ?_ ?_
      | refine LeO.bind ?_ (fun _ => ?_)
set_option maxHeartbeats 8000000 in
set_option maxRecDepth 100000 in
theorem verditerref08_at.calls (k : Nat) (A0 : Option Addr) (c0 : Nat) (l0 : List Int) (a1 : Int) (r : Int) (w : World) (hr0 : Kd.C (Kd.int .i64) w A0 l0.length l0) (hc0 : l0.length ≤ c0) (h : verditerref08_at.f k l0 a1 = some r) :
    Calls Try.prog 82 #[.slice A0 l0.length c0, .int .i64 a1] w fun e w' => e = .returned (.int .i64 r) ∧ Drawn0 w w' := by
  have HR0 := Aside0.mk hr0
  have HC0 := Aside0.mk hc0
  clear hr0 hc0
  have H : (verditerref08_at.l0 k l0 a1 0 1 0) = some r := h
  clear h
  have H' := Aside0.mk H
  clear H
  go_enter Try.func82, Try.ntmps82
  go_wp2
  go_loopg [5, 6, 7] k (fun kq v5 v6 v7 w' => ∃ (x5_1 : Int) (x6_1 : Int) (x7_1 : Int), v5 = .int .i64 x5_1 ∧ v6 = .int .i64 x6_1 ∧ v7 = .int .i64 x7_1 ∧ Aside0 (verditerref08_at.l0 kq l0 a1 x5_1 x6_1 x7_1 = some r) ∧ Aside0 (kq ≤ k) ∧ Drawn0 w w')
  case atStart => exact ⟨(0), (1), (0), (by first | rfl | (simp; done) | (simp [*]; done)), (by first | rfl | (simp; done) | (simp [*]; done)), (by first | rfl | (simp; done) | (simp [*]; done)), H', ⟨Nat.le_refl _⟩, by repeat (first | exact Drawn0.refl _ | apply Drawn0.step)⟩
  case round =>
    clear H'
    try clear p2
    obtain ⟨x5_1, x6_1, x7_1, rfl, rfl, rfl, HA, HK1, ⟨m1, rfl⟩⟩ := hrel
    cases gk with
    | zero => exact absurd HA.out (by simp [verditerref08_at.l0])
    | succ k1 =>
      have H := HA.out
      clear HA
      simp only [verditerref08_at.l0] at H
      by_cases c3 : x7_1 < (l0.length : Int)
      · rw [if_pos c3] at H
        have c3b0 : decide (x7_1 < (l0.length : Int)) = true := decide_eq_true c3
        clear c3
        by_cases c4 : 0 ≤ x7_1
        · rw [if_pos c4] at H
          have c4b0 : decide (0 ≤ x7_1) = true := decide_eq_true c4
          clear c4
          replace H := Option.bind_eq_some_iff.mp H
          obtain ⟨t245, A50, H⟩ := H
          replace H : ((verditerref08_mod.f (wrap64 (x6_1 * a1))).bind fun t246 => (verditerref08_at.l0 k1 l0 a1 t245 t246 (wrap64 (x7_1 + 1)))) = some r := H
          have A5 := Aside0.mk A50
          clear A50
          replace H := Option.bind_eq_some_iff.mp H
          obtain ⟨t246, A60, H⟩ := H
          replace H : (verditerref08_at.l0 k1 l0 a1 t245 t246 (wrap64 (x7_1 + 1))) = some r := H
          have A6 := Aside0.mk A60
          clear A60
          have H' := Aside0.mk H
          clear H
          have p244 : 0 ≤ (x7_1 : Int) := of_decide_eq_true (by first | (with_reducible assumption) | assumption)
          have q244 : x7_1 < (l0.length : Int) := of_decide_eq_true (by first | (with_reducible assumption) | assumption)
          obtain ⟨ad244, e244, hx244_0⟩ := Kd.at_int HR0.out x7_1 p244 q244
          cases e244
          replace p244 := eq_true p244
          replace q244 := eq_true q244
          go_wp2_with (first | ((with_reducible refine gate_callee (f := 104) rfl ?_); refine goesL_ (some 22) rfl rfl Try.func104 (by kernel_rfl) rfl #[.int .i64 (wrap64 (x5_1 + (wrap64 ((rd l0 x7_1) * x6_1))))] rfl (by (try simp only [List.map_toArray, List.map_cons, List.map_nil]); first | done | rfl | (simp only [List.length_drop, List.length_take]; rfl)) ?_; (with_reducible refine (verditerref08_mod.calls (wrap64 (x5_1 + (wrap64 ((rd l0 x7_1) * x6_1)))) t245 _ A5.out).mono ?_); rintro e w' ⟨rfl, ⟨nd, rfl⟩⟩; refine ⟨_, rfl, ?_⟩) | ((with_reducible refine gate_callee (f := 104) rfl ?_); refine goesL_ (some 26) rfl rfl Try.func104 (by kernel_rfl) rfl #[.int .i64 (wrap64 (x6_1 * a1))] rfl (by (try simp only [List.map_toArray, List.map_cons, List.map_nil]); first | done | rfl | (simp only [List.length_drop, List.length_take]; rfl)) ?_; (with_reducible refine (verditerref08_mod.calls (wrap64 (x6_1 * a1)) t246 _ A6.out).mono ?_); rintro e w' ⟨rfl, ⟨nd, rfl⟩⟩; refine ⟨_, rfl, ?_⟩))
          go_roundg k1
          case measure => have := HK1.out; omega
          case rel => exact ⟨(t245), (t246), (wrap64 (x7_1 + 1)), (by first | rfl | (simp; done) | (simp [*]; done)), (by first | rfl | (simp; done) | (simp [*]; done)), (by first | rfl | (simp; done) | (simp [*]; done)), H', ⟨by have := HK1.out; omega⟩, by repeat (first | exact Drawn0.refl _ | apply Drawn0.step)⟩
        · rw [if_neg c4] at H
          exact absurd H (by simp)
      · rw [if_neg c3] at H
        have c3b0 : decide (x7_1 < (l0.length : Int)) = false := decide_eq_false c3
        clear c3
        obtain rfl := Option.some.inj H
        go_wp2
        go_ret
        exact ⟨by first | rfl | (simp; done) | (simp [*]; done), by repeat (first | exact Drawn0.refl _ | apply Drawn0.step)⟩

end Go.Proofs.Ythlbjdiicmojfaa.P

/-! Part PF92. -/
-- Written for this claim by wip/print_more.py (a session's program that runs the kit's printer with hand-proved functions beside). Lean checks it.
namespace Go.Proofs.Ythlbjdiicmojfaa.P
open Go.RowKit Go.Proofs.YthlbjdiicmojfaaW.PrintWords Go.Proofs.YthlbjdiicmojfaaW.PrintLast Go.Proofs.YthlbjdiicmojfaaW.PrintMore
attribute [local go_sem] max2_int min2_int max_two min_two max_three min_three max_four min_four   -- for this text's walks alone
set_option linter.unusedVariables false
set_option linter.unusedSimpArgs false

/-! ### verditerref08_lie: function 92 -/
def verditerref08_lie.l0 : Nat → List (S43) → List Int → Int → Option (Bool)
  | 0, _, _, _ => none
  | k + 1, x0, x5, x6 => if x6 < (x0.length : Int) then (if 0 ≤ x6 then ((verditerref08_at.f k x5 ((rd_T43 x0 x6).f0)).bind fun t332 => (if t332 = ((rd_T43 x0 x6).f1) then (verditerref08_lie.l0 k x0 x5 (wrap64 (x6 + 1))) else (some false))) else (none)) else (some true)
def verditerref08_lie.f (k : Nat) (l0 : List (S43)) (a1 : Int) : Option (Bool) := if (l0.length : Int) ≤ a1 then (some true) else (if 0 ≤ a1 then (if a1 ≤ (l0.length : Int) then ((verditerref08_through.f k (l0.take (a1 : Int).toNat)).bind fun t328 => (verditerref08_lie.l0 k l0 t328 a1)) else (none)) else (none))
theorem verditerref08_lie.mono_l : ∀ k, (∀ y0 y1 y2, LeO (verditerref08_lie.l0 k y0 y1 y2) (verditerref08_lie.l0 (k + 1) y0 y1 y2))
  | 0 => fun _ _ _ r h => by simp [verditerref08_lie.l0] at h
  | k + 1 => by
    have ih0 := verditerref08_lie.mono_l k
    · intro y0 y1 y2
      unfold verditerref08_lie.l0
      repeat' first
      | (with_reducible exact ih0 _ _ _)
      | (with_reducible exact verditerref08_at.mono _ _ _)
      | (with_reducible exact verditerref08_through.mono _ _)
      | (with_reducible exact LeO.refl _)
      | (with_reducible exact LeO.none _)
      | (with_reducible refine LeO.ite ?_ ?_)
      | (with_reducible refine LeO.bind ?_ (fun _ => ?_))
      | exact ih0 _ _ _
      | exact verditerref08_at.mono _ _ _
      | exact verditerref08_through.mono _ _
      | exact LeO.none _
      | refine LeO.ite ?_ ?_
      | refine LeO.bind ?_ (fun _ => ?_)
theorem verditerref08_lie.mono : ∀ a0 a1 k, LeO (verditerref08_lie.f k a0 a1) (verditerref08_lie.f (k + 1) a0 a1) := by
  intro a0 a1 k
  have ih0 := verditerref08_lie.mono_l k
  unfold verditerref08_lie.f
  repeat' first
      | (with_reducible exact ih0 _ _ _)
      | (with_reducible exact verditerref08_at.mono _ _ _)
      | (with_reducible exact verditerref08_through.mono _ _)
      | (with_reducible exact LeO.refl _)
      | (with_reducible exact LeO.none _)
      | (with_reducible refine LeO.ite ?_ ?_)
      | (with_reducible refine LeO.bind ?_ (fun _ => ?_))
      | exact ih0 _ _ _
      | exact verditerref08_at.mono _ _ _
      | exact verditerref08_through.mono _ _
      | exact LeO.none _
      | refine LeO.ite ?_ ?_
      | refine LeO.bind ?_ (fun _ => ?_)
set_option maxHeartbeats 8000000 in
set_option maxRecDepth 100000 in
theorem verditerref08_lie.calls (k : Nat) (A0 : Option Addr) (c0 : Nat) (l0 : List (S43)) (a1 : Int) (r : Bool) (w : World) (hr0 : Kd.C k43 w A0 l0.length l0) (hc0 : l0.length ≤ c0) (h : verditerref08_lie.f k l0 a1 = some r) :
    Calls Try.prog 92 #[.slice A0 l0.length c0, .int .i64 a1] w fun e w' => e = .returned (.bool r) ∧ Below w.heap.size w w' := by
  have HR0 := Aside0.mk hr0
  have HC0 := Aside0.mk hc0
  clear hr0 hc0
  have HB := Aside0.mk (Below.refl w.heap.size w)
  have H : (if (l0.length : Int) ≤ a1 then (some true) else (if 0 ≤ a1 then (if a1 ≤ (l0.length : Int) then ((verditerref08_through.f k (l0.take (a1 : Int).toNat)).bind fun t328 => (verditerref08_lie.l0 k l0 t328 a1)) else (none)) else (none))) = some r := h
  clear h
  by_cases c3 : (l0.length : Int) ≤ a1
  · rw [if_pos c3] at H
    have c3b0 : decide ((l0.length : Int) ≤ a1) = true := decide_eq_true c3
    clear c3
    obtain rfl := Option.some.inj H
    go_enter Try.func92, Try.ntmps92
    go_wp2
    repeat (go_quiet (fail); try go_wp2)
    go_ret
    exact ⟨by first | rfl | (simp [errW_none, errW_some] <;> rfl) | (simp [*, errW_none, errW_some] <;> rfl), by repeat (first | (with_reducible first | exact HB.out | apply below_alloc | apply pw_below_drewN | apply below_drew1) | exact HB.out)⟩
  · rw [if_neg c3] at H
    have c3b0 : decide ((l0.length : Int) ≤ a1) = false := decide_eq_false c3
    clear c3
    by_cases c4 : 0 ≤ a1
    · rw [if_pos c4] at H
      have c4b0 := eq_true c4
      have c4b1 : decide (0 ≤ a1) = true := decide_eq_true c4
      clear c4
      by_cases c5 : a1 ≤ (l0.length : Int)
      · rw [if_pos c5] at H
        have c5b0 := eq_true c5
        have c5b1 : decide (a1 ≤ (l0.length : Int)) = true := decide_eq_true c5
        clear c5
        obtain ⟨y324, hy324⟩ : ∃ y_ : List (S43), y_ = (l0.take (a1 : Int).toNat) := ⟨_, rfl⟩
        replace H : ((verditerref08_through.f k y324).bind fun t328 => (verditerref08_lie.l0 k l0 t328 a1)) = some r := by first | (rw [hy324]; with_reducible exact H) | (have H2_ := (Option.bind_some _ _).symm.trans H; rw [hy324]; with_reducible exact H2_) | (have H2_ := (Option.bind_some _ _).symm.trans H; with_reducible exact H2_) | with_reducible exact H | (rw [hy324]; exact H) | exact H
        have Ny324 := Aside0.mk hy324
        clear hy324
        replace H := Option.bind_eq_some_iff.mp H
        obtain ⟨t328, A60, H⟩ := H
        replace H : (verditerref08_lie.l0 k l0 t328 a1) = some r := H
        have A6 := Aside0.mk A60
        clear A60
        have H' := Aside0.mk H
        clear H
        have q7 : (a1 : Int) ≤ ((l0.length : Int) : Int) := of_decide_eq_true (by first | (with_reducible assumption) | assumption)
        obtain ⟨i07, hi07, _, hsz7, _⟩ := info_parts info43
        have hroom7 : l0.length ≤ c0 := HC0.out
        have hC7 : Kd.C k43 _ A0 l0.length l0 := HR0.out
        have hcut7 := cut_to (P := Try.prog) 22 43 .i64 Try.underlying22 hi07 A0 l0.length c0 a1 (of_decide_eq_true (by first | (with_reducible assumption) | assumption)) q7 hroom7
        have hr7 := Kd.C_take (m := (a1 : Int).toNat) hC7 (by omega)
        have hy7 : y324.length = (a1 : Int).toNat := (by rw [Ny324.out, List.length_take]; omega)
        rw [← Ny324.out] at hr7
        rw [← hy7] at hcut7
        have HR327 := Aside0.mk hr7
        have HC327 := Aside0.mk (show y324.length ≤ c0 from by omega)
        clear hr7 hC7 hroom7 hi07 hsz7
        have KY7 := Aside0.mk hy7
        clear hy7
        replace q7 := eq_true q7
        go_enter Try.func92, Try.ntmps92
        go_wp2_with (first | (go_at_call 76; (with_reducible refine (verditerref08_through.calls k _ _ y324 t328 _ ?side1 ?side2 A6.out).mono ?_); (case side1 => repeat (first | exact HR327.out | (with_reducible refine Kd.C_alloc ?_ _) | (with_reducible refine Kd.C_drewN ?_ _) | (with_reducible refine Kd.C_drew ?_))); (case side2 => exact HC327.out); rintro e w8 ⟨v329, rfl, ho0, hb⟩; have n0_ := Aside0.mk (Kd.R_lower ho0 (below_size (by repeat (first | (with_reducible first | exact HB.out | apply below_alloc | apply pw_below_drewN | apply below_drew1) | exact HB.out)))); have n1_ := Aside0.mk (below_step (by repeat (first | (with_reducible first | exact HB.out | apply below_alloc | apply pw_below_drewN | apply below_drew1) | exact HB.out)) hb); clear HB; have HO330 := n0_; have HB := n1_; clear n0_ n1_; (try clear hb); (try clear hb2); (try clear hk); (try clear hi); (try clear ho0)))
        repeat (go_quiet (first | (go_at_call 76; (with_reducible refine (verditerref08_through.calls k _ _ y324 t328 _ ?side1 ?side2 A6.out).mono ?_); (case side1 => repeat (first | exact HR327.out | (with_reducible refine Kd.C_alloc ?_ _) | (with_reducible refine Kd.C_drewN ?_ _) | (with_reducible refine Kd.C_drew ?_))); (case side2 => exact HC327.out); rintro e w8 ⟨v329, rfl, ho0, hb⟩; have n0_ := Aside0.mk (Kd.R_lower ho0 (below_size (by repeat (first | (with_reducible first | exact HB.out | apply below_alloc | apply pw_below_drewN | apply below_drew1) | exact HB.out)))); have n1_ := Aside0.mk (below_step (by repeat (first | (with_reducible first | exact HB.out | apply below_alloc | apply pw_below_drewN | apply below_drew1) | exact HB.out)) hb); clear HB; have HO330 := n0_; have HB := n1_; clear n0_ n1_; (try clear hb); (try clear hb2); (try clear hk); (try clear hi); (try clear ho0))); try go_wp2_with (first | (go_at_call 76; (with_reducible refine (verditerref08_through.calls k _ _ y324 t328 _ ?side1 ?side2 A6.out).mono ?_); (case side1 => repeat (first | exact HR327.out | (with_reducible refine Kd.C_alloc ?_ _) | (with_reducible refine Kd.C_drewN ?_ _) | (with_reducible refine Kd.C_drew ?_))); (case side2 => exact HC327.out); rintro e w8 ⟨v329, rfl, ho0, hb⟩; have n0_ := Aside0.mk (Kd.R_lower ho0 (below_size (by repeat (first | (with_reducible first | exact HB.out | apply below_alloc | apply pw_below_drewN | apply below_drew1) | exact HB.out)))); have n1_ := Aside0.mk (below_step (by repeat (first | (with_reducible first | exact HB.out | apply below_alloc | apply pw_below_drewN | apply below_drew1) | exact HB.out)) hb); clear HB; have HO330 := n0_; have HB := n1_; clear n0_ n1_; (try clear hb); (try clear hb2); (try clear hk); (try clear hi); (try clear ho0))))
        go_loopg [6] k (fun kq v6 w' => ∃ (x6_1 : Int), v6 = .int .i64 x6_1 ∧ Aside0 (verditerref08_lie.l0 kq l0 t328 x6_1 = some r) ∧ Aside0 (kq ≤ k) ∧ Aside0 (Kd.R (Kd.int .i64) 3 w' w.heap.size (fun _ => True) v329 t328) ∧ Aside0 (Below w.heap.size w w'))
        case atStart => exact ⟨(a1), (by first | rfl | (simp; done) | (simp [*]; done)), H', ⟨Nat.le_refl _⟩, ⟨by (with_reducible repeat (first | apply Kd.R_alloc | apply Kd.R_drewN | apply Kd.R_drew)); exact HO330.out⟩, ⟨by repeat (first | (with_reducible first | exact HB.out | apply below_alloc | apply pw_below_drewN | apply below_drew1) | exact HB.out)⟩⟩
        case round =>
          clear H'
          try clear p2
          try clear c3
          try clear c3b0
          try clear c4
          try clear c4b0
          try clear c4b1
          try clear c5
          try clear c5b0
          try clear c5b1
          try clear q7
          try clear q7
          obtain ⟨x6_1, rfl, HA, HK1, HO_5, HB⟩ := hrel
          cases gk with
          | zero => exact absurd HA.out (by simp [verditerref08_lie.l0])
          | succ k1 =>
            have H := HA.out
            clear HA
            simp only [verditerref08_lie.l0] at H
            by_cases c9 : x6_1 < (l0.length : Int)
            · rw [if_pos c9] at H
              have c9b0 : decide (x6_1 < (l0.length : Int)) = true := decide_eq_true c9
              clear c9
              by_cases c10 : 0 ≤ x6_1
              · rw [if_pos c10] at H
                have c10b0 : decide (0 ≤ x6_1) = true := decide_eq_true c10
                clear c10
                replace H := Option.bind_eq_some_iff.mp H
                obtain ⟨t332, A110, H⟩ := H
                replace H : (if t332 = ((rd_T43 l0 x6_1).f1) then (verditerref08_lie.l0 k1 l0 t328 (wrap64 (x6_1 + 1))) else (some false)) = some r := H
                have A11 := Aside0.mk A110
                clear A110
                by_cases c12 : t332 = ((rd_T43 l0 x6_1).f1)
                · rw [if_pos c12] at H
                  have c12b0 : (t332 == ((rd_T43 l0 x6_1).f1)) = true := beq_iff_eq.mpr c12
                  have c12b1 : (t332 != ((rd_T43 l0 x6_1).f1)) = false := bne_eq_false_iff_eq.mpr c12
                  clear c12
                  have H' := Aside0.mk H
                  clear H
                  have p331 : 0 ≤ (x6_1 : Int) := of_decide_eq_true (by first | (with_reducible assumption) | assumption)
                  have q331 : x6_1 < (l0.length : Int) := of_decide_eq_true (by first | (with_reducible assumption) | assumption)
                  obtain ⟨ad331, e331, hx331_0, hx331_1⟩ := at_T43 HR0.out x6_1 p331 q331
                  cases e331
                  replace hx331_0 := (HB.out.cell (World.block_lt_of_cell? w _ hx331_0)).trans hx331_0
                  replace hx331_1 := (HB.out.cell (World.block_lt_of_cell? w _ hx331_1)).trans hx331_1
                  replace p331 := eq_true p331
                  replace q331 := eq_true q331
                  obtain ⟨Ao13, co13, eo13⟩ := Kd.R_slice HO_5.out
                  subst eo13
                  go_wp2_with (first | (go_at_call 82; (with_reducible refine (verditerref08_at.calls k1 _ _ t328 ((rd_T43 l0 x6_1).f0) t332 _ ?side1 ?side2 A11.out).mono ?_); (case side1 => repeat (first | exact (Kd.R_reads' HO_5.out).2.2 | (with_reducible refine Kd.C_alloc ?_ _) | (with_reducible refine Kd.C_drewN ?_ _) | (with_reducible refine Kd.C_drew ?_))); (case side2 => exact (Kd.R_reads' HO_5.out).2.1); rintro e w' ⟨rfl, ⟨nd, rfl⟩⟩; (try first | exact ⟨rfl, _, World.drewN_drewN _ _ _⟩ | exact ⟨rfl, _, Eq.trans (World.drewN_drewN _ _ _) (congrArg (World.drewN _) (Nat.add_assoc _ _ _))⟩); have p333 : 0 ≤ (x6_1 : Int) := of_decide_eq_true (by first | (with_reducible assumption) | assumption); have q333 : x6_1 < (l0.length : Int) := of_decide_eq_true (by first | (with_reducible assumption) | assumption); obtain ⟨ad333, e333, hx333_0, hx333_1⟩ := at_T43 HR0.out x6_1 p333 q333; obtain rfl : ad331 = ad333 := (by injection e333); replace hx333_0 := (HB.out.cell (World.block_lt_of_cell? w _ hx333_0)).trans hx333_0; replace hx333_1 := (HB.out.cell (World.block_lt_of_cell? w _ hx333_1)).trans hx333_1; replace p333 := eq_true p333; replace q333 := eq_true q333))
                  repeat (go_quiet (first | (go_at_call 82; (with_reducible refine (verditerref08_at.calls k1 _ _ t328 ((rd_T43 l0 x6_1).f0) t332 _ ?side1 ?side2 A11.out).mono ?_); (case side1 => repeat (first | exact (Kd.R_reads' HO_5.out).2.2 | (with_reducible refine Kd.C_alloc ?_ _) | (with_reducible refine Kd.C_drewN ?_ _) | (with_reducible refine Kd.C_drew ?_))); (case side2 => exact (Kd.R_reads' HO_5.out).2.1); rintro e w' ⟨rfl, ⟨nd, rfl⟩⟩; (try first | exact ⟨rfl, _, World.drewN_drewN _ _ _⟩ | exact ⟨rfl, _, Eq.trans (World.drewN_drewN _ _ _) (congrArg (World.drewN _) (Nat.add_assoc _ _ _))⟩); have p333 : 0 ≤ (x6_1 : Int) := of_decide_eq_true (by first | (with_reducible assumption) | assumption); have q333 : x6_1 < (l0.length : Int) := of_decide_eq_true (by first | (with_reducible assumption) | assumption); obtain ⟨ad333, e333, hx333_0, hx333_1⟩ := at_T43 HR0.out x6_1 p333 q333; obtain rfl : ad331 = ad333 := (by injection e333); replace hx333_0 := (HB.out.cell (World.block_lt_of_cell? w _ hx333_0)).trans hx333_0; replace hx333_1 := (HB.out.cell (World.block_lt_of_cell? w _ hx333_1)).trans hx333_1; replace p333 := eq_true p333; replace q333 := eq_true q333)); try go_wp2_with (first | (go_at_call 82; (with_reducible refine (verditerref08_at.calls k1 _ _ t328 ((rd_T43 l0 x6_1).f0) t332 _ ?side1 ?side2 A11.out).mono ?_); (case side1 => repeat (first | exact (Kd.R_reads' HO_5.out).2.2 | (with_reducible refine Kd.C_alloc ?_ _) | (with_reducible refine Kd.C_drewN ?_ _) | (with_reducible refine Kd.C_drew ?_))); (case side2 => exact (Kd.R_reads' HO_5.out).2.1); rintro e w' ⟨rfl, ⟨nd, rfl⟩⟩; (try first | exact ⟨rfl, _, World.drewN_drewN _ _ _⟩ | exact ⟨rfl, _, Eq.trans (World.drewN_drewN _ _ _) (congrArg (World.drewN _) (Nat.add_assoc _ _ _))⟩); have p333 : 0 ≤ (x6_1 : Int) := of_decide_eq_true (by first | (with_reducible assumption) | assumption); have q333 : x6_1 < (l0.length : Int) := of_decide_eq_true (by first | (with_reducible assumption) | assumption); obtain ⟨ad333, e333, hx333_0, hx333_1⟩ := at_T43 HR0.out x6_1 p333 q333; obtain rfl : ad331 = ad333 := (by injection e333); replace hx333_0 := (HB.out.cell (World.block_lt_of_cell? w _ hx333_0)).trans hx333_0; replace hx333_1 := (HB.out.cell (World.block_lt_of_cell? w _ hx333_1)).trans hx333_1; replace p333 := eq_true p333; replace q333 := eq_true q333)))
                  go_roundg k1
                  case measure => have := HK1.out; omega
                  case rel => exact ⟨(wrap64 (x6_1 + 1)), (by first | rfl | (simp; done) | (simp [*]; done)), H', ⟨by have := HK1.out; omega⟩, ⟨by (with_reducible repeat (first | apply Kd.R_alloc | apply Kd.R_drewN | apply Kd.R_drew)); exact HO_5.out⟩, ⟨by repeat (first | (with_reducible first | exact HB.out | apply below_alloc | apply pw_below_drewN | apply below_drew1) | exact HB.out)⟩⟩
                · rw [if_neg c12] at H
                  have c12b0 : (t332 == ((rd_T43 l0 x6_1).f1)) = false := beq_eq_false_iff_ne.mpr c12
                  have c12b1 : (t332 != ((rd_T43 l0 x6_1).f1)) = true := bne_iff_ne.mpr c12
                  obtain rfl := Option.some.inj H
                  have p331 : 0 ≤ (x6_1 : Int) := of_decide_eq_true (by first | (with_reducible assumption) | assumption)
                  have q331 : x6_1 < (l0.length : Int) := of_decide_eq_true (by first | (with_reducible assumption) | assumption)
                  obtain ⟨ad331, e331, hx331_0, hx331_1⟩ := at_T43 HR0.out x6_1 p331 q331
                  cases e331
                  replace hx331_0 := (HB.out.cell (World.block_lt_of_cell? w _ hx331_0)).trans hx331_0
                  replace hx331_1 := (HB.out.cell (World.block_lt_of_cell? w _ hx331_1)).trans hx331_1
                  replace p331 := eq_true p331
                  replace q331 := eq_true q331
                  obtain ⟨Ao14, co14, eo14⟩ := Kd.R_slice HO_5.out
                  subst eo14
                  go_wp2_with (first | (go_at_call 82; (with_reducible refine (verditerref08_at.calls k1 _ _ t328 ((rd_T43 l0 x6_1).f0) t332 _ ?side1 ?side2 A11.out).mono ?_); (case side1 => repeat (first | exact (Kd.R_reads' HO_5.out).2.2 | (with_reducible refine Kd.C_alloc ?_ _) | (with_reducible refine Kd.C_drewN ?_ _) | (with_reducible refine Kd.C_drew ?_))); (case side2 => exact (Kd.R_reads' HO_5.out).2.1); rintro e w' ⟨rfl, ⟨nd, rfl⟩⟩; (try first | exact ⟨rfl, _, World.drewN_drewN _ _ _⟩ | exact ⟨rfl, _, Eq.trans (World.drewN_drewN _ _ _) (congrArg (World.drewN _) (Nat.add_assoc _ _ _))⟩); have p333 : 0 ≤ (x6_1 : Int) := of_decide_eq_true (by first | (with_reducible assumption) | assumption); have q333 : x6_1 < (l0.length : Int) := of_decide_eq_true (by first | (with_reducible assumption) | assumption); obtain ⟨ad333, e333, hx333_0, hx333_1⟩ := at_T43 HR0.out x6_1 p333 q333; obtain rfl : ad331 = ad333 := (by injection e333); replace hx333_0 := (HB.out.cell (World.block_lt_of_cell? w _ hx333_0)).trans hx333_0; replace hx333_1 := (HB.out.cell (World.block_lt_of_cell? w _ hx333_1)).trans hx333_1; replace p333 := eq_true p333; replace q333 := eq_true q333))
                  repeat (go_quiet (first | (go_at_call 82; (with_reducible refine (verditerref08_at.calls k1 _ _ t328 ((rd_T43 l0 x6_1).f0) t332 _ ?side1 ?side2 A11.out).mono ?_); (case side1 => repeat (first | exact (Kd.R_reads' HO_5.out).2.2 | (with_reducible refine Kd.C_alloc ?_ _) | (with_reducible refine Kd.C_drewN ?_ _) | (with_reducible refine Kd.C_drew ?_))); (case side2 => exact (Kd.R_reads' HO_5.out).2.1); rintro e w' ⟨rfl, ⟨nd, rfl⟩⟩; (try first | exact ⟨rfl, _, World.drewN_drewN _ _ _⟩ | exact ⟨rfl, _, Eq.trans (World.drewN_drewN _ _ _) (congrArg (World.drewN _) (Nat.add_assoc _ _ _))⟩); have p333 : 0 ≤ (x6_1 : Int) := of_decide_eq_true (by first | (with_reducible assumption) | assumption); have q333 : x6_1 < (l0.length : Int) := of_decide_eq_true (by first | (with_reducible assumption) | assumption); obtain ⟨ad333, e333, hx333_0, hx333_1⟩ := at_T43 HR0.out x6_1 p333 q333; obtain rfl : ad331 = ad333 := (by injection e333); replace hx333_0 := (HB.out.cell (World.block_lt_of_cell? w _ hx333_0)).trans hx333_0; replace hx333_1 := (HB.out.cell (World.block_lt_of_cell? w _ hx333_1)).trans hx333_1; replace p333 := eq_true p333; replace q333 := eq_true q333)); try go_wp2_with (first | (go_at_call 82; (with_reducible refine (verditerref08_at.calls k1 _ _ t328 ((rd_T43 l0 x6_1).f0) t332 _ ?side1 ?side2 A11.out).mono ?_); (case side1 => repeat (first | exact (Kd.R_reads' HO_5.out).2.2 | (with_reducible refine Kd.C_alloc ?_ _) | (with_reducible refine Kd.C_drewN ?_ _) | (with_reducible refine Kd.C_drew ?_))); (case side2 => exact (Kd.R_reads' HO_5.out).2.1); rintro e w' ⟨rfl, ⟨nd, rfl⟩⟩; (try first | exact ⟨rfl, _, World.drewN_drewN _ _ _⟩ | exact ⟨rfl, _, Eq.trans (World.drewN_drewN _ _ _) (congrArg (World.drewN _) (Nat.add_assoc _ _ _))⟩); have p333 : 0 ≤ (x6_1 : Int) := of_decide_eq_true (by first | (with_reducible assumption) | assumption); have q333 : x6_1 < (l0.length : Int) := of_decide_eq_true (by first | (with_reducible assumption) | assumption); obtain ⟨ad333, e333, hx333_0, hx333_1⟩ := at_T43 HR0.out x6_1 p333 q333; obtain rfl : ad331 = ad333 := (by injection e333); replace hx333_0 := (HB.out.cell (World.block_lt_of_cell? w _ hx333_0)).trans hx333_0; replace hx333_1 := (HB.out.cell (World.block_lt_of_cell? w _ hx333_1)).trans hx333_1; replace p333 := eq_true p333; replace q333 := eq_true q333)))
                  go_ret
                  exact ⟨by first | rfl | (simp [errW_none, errW_some] <;> rfl) | (simp [*, errW_none, errW_some] <;> rfl), by repeat (first | (with_reducible first | exact HB.out | apply below_alloc | apply pw_below_drewN | apply below_drew1) | exact HB.out)⟩
              · rw [if_neg c10] at H
                exact absurd H (by simp)
            · rw [if_neg c9] at H
              have c9b0 : decide (x6_1 < (l0.length : Int)) = false := decide_eq_false c9
              clear c9
              obtain rfl := Option.some.inj H
              go_wp2
              repeat (go_quiet (fail); try go_wp2)
              go_ret
              exact ⟨by first | rfl | (simp [errW_none, errW_some] <;> rfl) | (simp [*, errW_none, errW_some] <;> rfl), by repeat (first | (with_reducible first | exact HB.out | apply below_alloc | apply pw_below_drewN | apply below_drew1) | exact HB.out)⟩
      · rw [if_neg c5] at H
        exact absurd H (by simp)
    · rw [if_neg c4] at H
      exact absurd H (by simp)

end Go.Proofs.Ythlbjdiicmojfaa.P

/-! Part PF97. -/
-- Written for this claim by wip/print_more.py (a session's program that runs the kit's printer with hand-proved functions beside). Lean checks it.
namespace Go.Proofs.Ythlbjdiicmojfaa.P
open Go.RowKit Go.Proofs.YthlbjdiicmojfaaW.PrintWords Go.Proofs.YthlbjdiicmojfaaW.PrintLast Go.Proofs.YthlbjdiicmojfaaW.PrintMore
attribute [local go_sem] max2_int min2_int max_two min_two max_three min_three max_four min_four   -- for this text's walks alone
set_option linter.unusedVariables false
set_option linter.unusedSimpArgs false

/-! ### verditerref08_without: function 97 -/
def verditerref08_without.f (l0 : List (S43)) (a1 : Int) : Option ((List (S43))) := (some (([] : List (S43)) : List (S43))).bind fun y435 => (if 0 ≤ a1 then (if a1 ≤ (l0.length : Int) then ((some (l0.take (a1 : Int).toNat : List (S43))).bind fun y438 => (if y435.length + y438.length < 8796093022208 then ((some (y435 ++ y438 : List (S43))).bind fun y442 => (if 0 ≤ (wrap64 (a1 + 1)) then (if (wrap64 (a1 + 1)) ≤ (l0.length : Int) then ((some (l0.drop ((wrap64 (a1 + 1)) : Int).toNat : List (S43))).bind fun y445 => (if y442.length + y445.length < 8796093022208 then (some (y442 ++ y445)) else (none))) else (none)) else (none))) else (none))) else (none)) else (none))
def verditerref08_without.T1 : Bool × List (List Nat × List Nat) := (true, [([], []), ([], []), ([], []), ([1, 2], [1, 2]), ([0, 3], [0, 3]), ([], []), ([], []), ([6], [6]), ([5, 7], [5, 7]), ([4, 8, 4], [4, 8]), ([9, 9, 0, 1, 2, 3, 4, 5, 6, 7, 8, 9], [9])])
def verditerref08_without.B1 : List Nat := [0, 0, 0, 6, 15, 0, 0, 64, 224, 511, 1023]
theorem verditerref08_without.tab1 : rtab .any (opsOf Try.f97 1) = verditerref08_without.T1 := by kernel_rfl
theorem verditerref08_without.bits1 : waitsOk verditerref08_without.T1.2 verditerref08_without.B1 = true := by kernel_rfl
set_option maxHeartbeats 8000000 in
set_option maxRecDepth 100000 in
theorem verditerref08_without.calls (A0 : Option Addr) (c0 : Nat) (l0 : List (S43)) (a1 : Int) (r : List (S43)) (w : World) (hr0 : Kd.C k43 w A0 l0.length l0) (hc0 : l0.length ≤ c0) (h : verditerref08_without.f l0 a1 = some r) :
    Calls Try.prog 97 #[.slice A0 l0.length c0, .int .i64 a1] w fun e w' => ∃ v0_ : Value, e = .returned (v0_) ∧ Kd.R k43 43 w' w.heap.size (fun _ => True) v0_ r ∧ Below w.heap.size w w' := by
  have HR0 := Aside0.mk hr0
  have HC0 := Aside0.mk hc0
  clear hr0 hc0
  have HB := Aside0.mk (Below.refl w.heap.size w)
  have H : ((some (([] : List (S43)) : List (S43))).bind fun y435 => (if 0 ≤ a1 then (if a1 ≤ (l0.length : Int) then ((some (l0.take (a1 : Int).toNat : List (S43))).bind fun y438 => (if y435.length + y438.length < 8796093022208 then ((some (y435 ++ y438 : List (S43))).bind fun y442 => (if 0 ≤ (wrap64 (a1 + 1)) then (if (wrap64 (a1 + 1)) ≤ (l0.length : Int) then ((some (l0.drop ((wrap64 (a1 + 1)) : Int).toNat : List (S43))).bind fun y445 => (if y442.length + y445.length < 8796093022208 then (some (y442 ++ y445)) else (none))) else (none)) else (none))) else (none))) else (none)) else (none))) = some r := h
  clear h
  obtain ⟨y435, hy435⟩ : ∃ y_ : List (S43), y_ = (([] : List (S43))) := ⟨_, rfl⟩
  replace H : (if 0 ≤ a1 then (if a1 ≤ (l0.length : Int) then ((some (l0.take (a1 : Int).toNat : List (S43))).bind fun y438 => (if y435.length + y438.length < 8796093022208 then ((some (y435 ++ y438 : List (S43))).bind fun y442 => (if 0 ≤ (wrap64 (a1 + 1)) then (if (wrap64 (a1 + 1)) ≤ (l0.length : Int) then ((some (l0.drop ((wrap64 (a1 + 1)) : Int).toNat : List (S43))).bind fun y445 => (if y442.length + y445.length < 8796093022208 then (some (y442 ++ y445)) else (none))) else (none)) else (none))) else (none))) else (none)) else (none)) = some r := by first | (rw [hy435]; with_reducible exact H) | (have H2_ := (Option.bind_some _ _).symm.trans H; rw [hy435]; with_reducible exact H2_) | (have H2_ := (Option.bind_some _ _).symm.trans H; with_reducible exact H2_) | with_reducible exact H | (rw [hy435]; exact H) | exact H
  have Ny435 := Aside0.mk hy435
  clear hy435
  by_cases c3 : 0 ≤ a1
  · rw [if_pos c3] at H
    have c3b0 := eq_true c3
    have c3b1 : decide (0 ≤ a1) = true := decide_eq_true c3
    clear c3
    by_cases c4 : a1 ≤ (l0.length : Int)
    · rw [if_pos c4] at H
      have c4b0 := eq_true c4
      have c4b1 : decide (a1 ≤ (l0.length : Int)) = true := decide_eq_true c4
      clear c4
      obtain ⟨y438, hy438⟩ : ∃ y_ : List (S43), y_ = (l0.take (a1 : Int).toNat) := ⟨_, rfl⟩
      replace H : (if y435.length + y438.length < 8796093022208 then ((some (y435 ++ y438 : List (S43))).bind fun y442 => (if 0 ≤ (wrap64 (a1 + 1)) then (if (wrap64 (a1 + 1)) ≤ (l0.length : Int) then ((some (l0.drop ((wrap64 (a1 + 1)) : Int).toNat : List (S43))).bind fun y445 => (if y442.length + y445.length < 8796093022208 then (some (y442 ++ y445)) else (none))) else (none)) else (none))) else (none)) = some r := by first | (rw [hy438]; with_reducible exact H) | (have H2_ := (Option.bind_some _ _).symm.trans H; rw [hy438]; with_reducible exact H2_) | (have H2_ := (Option.bind_some _ _).symm.trans H; with_reducible exact H2_) | with_reducible exact H | (rw [hy438]; exact H) | exact H
      have Ny438 := Aside0.mk hy438
      clear hy438
      by_cases c5 : y435.length + y438.length < 8796093022208
      · rw [if_pos c5] at H
        have LMc5 := Aside0.mk c5
        clear c5
        obtain ⟨y442, hy442⟩ : ∃ y_ : List (S43), y_ = (y435 ++ y438) := ⟨_, rfl⟩
        replace H : (if 0 ≤ (wrap64 (a1 + 1)) then (if (wrap64 (a1 + 1)) ≤ (l0.length : Int) then ((some (l0.drop ((wrap64 (a1 + 1)) : Int).toNat : List (S43))).bind fun y445 => (if y442.length + y445.length < 8796093022208 then (some (y442 ++ y445)) else (none))) else (none)) else (none)) = some r := by first | (rw [hy442]; with_reducible exact H) | (have H2_ := (Option.bind_some _ _).symm.trans H; rw [hy442]; with_reducible exact H2_) | (have H2_ := (Option.bind_some _ _).symm.trans H; with_reducible exact H2_) | with_reducible exact H | (rw [hy442]; exact H) | exact H
        have Ny442 := Aside0.mk hy442
        clear hy442
        obtain ⟨ji6, hji6⟩ : ∃ j_ : Int, (wrap64 (a1 + 1)) = j_ := ⟨_, rfl⟩
        replace H : (if 0 ≤ (ji6) then (if (ji6) ≤ (l0.length : Int) then ((some (l0.drop ((ji6) : Int).toNat : List (S43))).bind fun y445 => (if y442.length + y445.length < 8796093022208 then (some (y442 ++ y445)) else (none))) else (none)) else (none)) = some r := by first | (rw [hji6] at H; exact H) | (simp only [hji6] at H ⊢; exact H)
        have hji6w : (IntKind.i64.wrap (a1 + 1)) = ji6 := (i64_w _).trans hji6
        by_cases c7 : 0 ≤ (ji6)
        · rw [if_pos c7] at H
          have c7b0 := eq_true c7
          have c7b1 : decide (0 ≤ (ji6)) = true := decide_eq_true c7
          clear c7
          by_cases c8 : (ji6) ≤ (l0.length : Int)
          · rw [if_pos c8] at H
            have c8b0 := eq_true c8
            have c8b1 : decide ((ji6) ≤ (l0.length : Int)) = true := decide_eq_true c8
            clear c8
            obtain ⟨y445, hy445⟩ : ∃ y_ : List (S43), y_ = (l0.drop ((ji6) : Int).toNat) := ⟨_, rfl⟩
            replace H : (if y442.length + y445.length < 8796093022208 then (some (y442 ++ y445)) else (none)) = some r := by first | (rw [hy445]; with_reducible exact H) | (have H2_ := (Option.bind_some _ _).symm.trans H; rw [hy445]; with_reducible exact H2_) | (have H2_ := (Option.bind_some _ _).symm.trans H; with_reducible exact H2_) | with_reducible exact H | (rw [hy445]; exact H) | exact H
            have Ny445 := Aside0.mk hy445
            clear hy445
            by_cases c9 : y442.length + y445.length < 8796093022208
            · rw [if_pos c9] at H
              have LMc9 := Aside0.mk c9
              clear c9
              obtain ⟨y449, hy449⟩ : ∃ y_ : List (S43), y_ = (y442 ++ y445) := ⟨_, rfl⟩
              replace H : (some y449) = some r := by first | (rw [hy449]; with_reducible exact H) | (have H2_ := (Option.bind_some _ _).symm.trans H; rw [hy449]; with_reducible exact H2_) | (have H2_ := (Option.bind_some _ _).symm.trans H; with_reducible exact H2_) | with_reducible exact H | (rw [hy449]; exact H) | exact H
              have Ny449 := Aside0.mk hy449
              clear hy449
              obtain rfl := Option.some.inj H
              go_enter Try.func97, Try.ntmps97
              try go_wp2
              have n0_ := Aside0.mk (below_drew1 HB.out)
              clear HB
              have HB := n0_
              clear n0_
              have q11 : (a1 : Int) ≤ ((l0.length : Int) : Int) := of_decide_eq_true (by first | (with_reducible assumption) | assumption)
              obtain ⟨i011, hi011, _, hsz11, _⟩ := info_parts info43
              have hroom11 : l0.length ≤ c0 := HC0.out
              have hC11 : Kd.C k43 _ A0 l0.length l0 := HR0.out
              have hcut11 := cut_to (P := Try.prog) 22 43 .i64 Try.underlying22 hi011 A0 l0.length c0 a1 (of_decide_eq_true (by first | (with_reducible assumption) | assumption)) q11 hroom11
              have hr11 := Kd.C_take (m := (a1 : Int).toNat) hC11 (by omega)
              have hy11 : y438.length = (a1 : Int).toNat := (by rw [Ny438.out, List.length_take]; omega)
              rw [← Ny438.out] at hr11
              rw [← hy11] at hcut11
              have HR441 := Aside0.mk hr11
              have HC441 := Aside0.mk (show y438.length ≤ c0 from by omega)
              clear hr11 hC11 hroom11 hi011 hsz11
              have KY11 := Aside0.mk hy11
              clear hy11
              replace q11 := eq_true q11
              have q12 : ((ji6) : Int) ≤ ((l0.length : Int) : Int) := of_decide_eq_true (by first | (with_reducible assumption) | assumption)
              obtain ⟨i012, hi012, _, hsz12, _⟩ := info_parts info43
              have hroom12 : l0.length ≤ c0 := HC0.out
              have hC12 : Kd.C k43 _ A0 l0.length l0 := HR0.out
              have q012 : (0 : Int) ≤ ((ji6) : Int) := of_decide_eq_true (by first | (with_reducible assumption) | assumption)
              have hcut12 := cut_from (P := Try.prog) 22 43 .i64 Try.underlying22 hi012 2 hsz12 A0 l0.length c0 (ji6) q012 q12
              have hr12 := Kd.C_drop (m := ((ji6) : Int).toNat) (c := c0) hC12 (by omega) hroom12
              obtain ⟨A12, hA12⟩ : ∃ A1, A1 = (if c0 = ((ji6) : Int).toNat then A0 else (A0 : Option Addr).map (·.add (((ji6) : Int).toNat * 2))) := ⟨_, rfl⟩
              obtain ⟨c12, hc12⟩ : ∃ c1, c1 = c0 - ((ji6) : Int).toNat := ⟨_, rfl⟩
              have hy12 : y445.length = l0.length - ((ji6) : Int).toNat := (by rw [Ny445.out, List.length_drop] <;> omega)
              rw [show (l0).drop ((ji6) : Int).toNat = y445 from Ny445.out.symm] at hr12
              replace hr12 : Kd.C k43 _ A12 y445.length y445 := (by rw [hA12]; exact hr12)
              rw [← hy12, ← hA12, ← hc12] at hcut12
              have HR448 := Aside0.mk hr12
              have HC448 := Aside0.mk (show y445.length ≤ c12 from by rw [hy12, hc12]; exact Nat.sub_le_sub_right hroom12 _)
              clear hr12 hC12 hroom12 hi012 hsz12 hc12
              have KY12 := Aside0.mk hy12
              have KA12 := Aside0.mk hA12
              clear hy12 hA12
              replace q12 := eq_true q12
              refine start_ (n := 11) (S := fun w' => True) (ds := []) #[false, false, false, false, false, false, false, false, false, false, false] (by kernel_rfl) rfl rfl trivial (fun hHeld => ?_); refine with_tabW verditerref08_without.tab1 verditerref08_without.bits1 (fun HT_ HW_ => ?_)
              generalize w.drew = w10 at HB HR441 HR448 hHeld ⊢
              refine pure_ (i := 1) (N := some 6) (v := ?_) (a' := ?_) #[false, true, false, false, false, false, false, false, false, false, false] rfl rfl (any_of HT_.out (by kernel_rfl)) (fun _ _ _ h => h) (Or.inl ⟨by rfl, ?_⟩) ?_ ?_
              rotate_left
              · intro w'
                go_simp
                with_reducible rfl
              rotate_left
              · simp only [Act.put, List.setIfInBounds_toArray, List.set_cons_zero, List.set_cons_succ, i64_w, i32_w]
                rfl
              refine pure_ (i := 2) (N := some 7) (v := ?_) (a' := ?_) #[false, true, true, false, false, false, false, false, false, false, false] rfl rfl (any_of HT_.out (by kernel_rfl)) (fun _ _ _ h => h) (Or.inl ⟨by rfl, ?_⟩) ?_ ?_
              rotate_left
              · intro w'
                go_simp
                with_reducible rfl
              rotate_left
              · simp only [Act.put, List.setIfInBounds_toArray, List.set_cons_zero, List.set_cons_succ, i64_w, i32_w]
                rfl
              refine pure_ (i := 3) (N := some 8) (v := ?_) (a' := ?_) #[false, true, true, true, false, false, false, false, false, false, false] rfl rfl (any_of HT_.out (by kernel_rfl)) (fun _ _ _ h => h) (Or.inl ⟨by rfl, ?_⟩) ?_ ?_
              rotate_left
              · intro w'
                go_simp
                with_reducible rfl
              rotate_left
              · simp only [Act.put, List.setIfInBounds_toArray, List.set_cons_zero, List.set_cons_succ, i64_w, i32_w]
                rfl
              refine pure_ (i := 5) (N := some 10) (v := ?_) (a' := ?_) #[false, true, true, true, false, true, false, false, false, false, false] rfl rfl (any_of HT_.out (by kernel_rfl)) (fun _ _ _ h => h) (Or.inl ⟨by rfl, ?_⟩) ?_ ?_
              rotate_left
              · intro w'
                go_simp
                with_reducible rfl
              rotate_left
              · simp only [Act.put, List.setIfInBounds_toArray, List.set_cons_zero, List.set_cons_succ, i64_w, i32_w]
                rfl
              refine pure_ (i := 6) (N := some 11) (v := ?_) (a' := ?_) #[false, true, true, true, false, true, true, false, false, false, false] rfl rfl (any_of HT_.out (by kernel_rfl)) (fun _ _ _ h => h) (Or.inl ⟨by rfl, ?_⟩) ?_ ?_
              rotate_left
              · intro w'
                go_simp
                with_reducible rfl
              rotate_left
              · simp only [Act.put, List.setIfInBounds_toArray, List.set_cons_zero, List.set_cons_succ, i64_w, i32_w]
                rfl
              refine pure_ (i := 7) (N := some 12) (v := ?_) (a' := ?_) #[false, true, true, true, false, true, true, true, false, false, false] rfl rfl (any_of HT_.out (by kernel_rfl)) (fun _ _ _ h => h) (Or.inl ⟨by rfl, ?_⟩) ?_ ?_
              rotate_left
              · intro w'
                go_simp
                with_reducible rfl
              rotate_left
              · simp only [Act.put, List.setIfInBounds_toArray, List.set_cons_zero, List.set_cons_succ, i64_w, i32_w]
                rfl
              refine pure_ (i := 8) (N := some 13) (v := ?_) (a' := ?_) #[false, true, true, true, false, true, true, true, true, false, false] rfl rfl (any_of HT_.out (by kernel_rfl)) (fun _ _ _ h => h) (Or.inl ⟨by rfl, ?_⟩) ?_ ?_
              rotate_left
              · intro w'
                go_simp
                with_reducible rfl
              rotate_left
              · simp only [Act.put, List.setIfInBounds_toArray, List.set_cons_zero, List.set_cons_succ, i64_w, i32_w]
                rfl
              refine one_ (i := 0) (N := some 5) #[true, true, true, true, false, true, true, true, true, false, false] rfl rfl (one_of HT_.out (by kernel_rfl)) (by decide) (fun K hK => ?_)
              refine Kd.R_lit_step k43 _ 43 ?hg (N := 5) ?hd (xs := ([] : List (S43))) (inner := []) (ok := fun _ => True) (okp := fun _ => True) ?hr ?hp (fun _ hk => hk) trivial (Below.refl _ _) (Nat.le_refl _) (by simp) ?_; (case hd => rfl); (case hg => rfl); (case hr => first | (go_simp; done) | (go_simp; rfl)); (case hp => exact (Reps.none _ _))
              intro v436 w13 ho14 hb hg_ hnew_
              clear hg_ hnew_
              (first | rw [← Ny435.out] at ho14 | (simp only [Int.reduceToNat] at ho14; rw [← Ny435.out] at ho14))
              have n0_ := Aside0.mk (Kd.R_lower ho14 (below_size (by repeat (first | (with_reducible first | exact HB.out | apply below_alloc | apply pw_below_drewN | apply below_drew1) | exact HB.out))))
              have n1_ := Aside0.mk (below_step (by repeat (first | (with_reducible first | exact HB.out | apply below_alloc | apply pw_below_drewN | apply below_drew1) | exact HB.out)) hb)
              clear HB
              have HO437 := n0_
              have HB := n1_
              clear n0_ n1_
              clear hb ho14
              refine hK.out _ _ trivial (fun hHeld => ?_)
              clear hK K
              refine norm_ (a' := ?_) ?_ ?_
              rotate_left
              · show Act.put _ (some 5) _ = _
                simp only [Act.put, List.setIfInBounds_toArray, List.set_cons_zero, List.set_cons_succ, i64_w, i32_w]
                rfl
              refine one_ (i := 4) (N := some 9) #[true, true, true, true, true, true, true, true, true, false, false] rfl rfl (one_of HT_.out (by kernel_rfl)) (by decide) (fun K hK => ?_)
              refine Kd.R_append_rows_step k43 (w0 := w) w.heap.size (by rfl) (.tmp 5) (.tmp 8) 22 43 (.agg #[(.int .i64 0), (.int .i64 0)]) 16 rfl Try.underlying22 info43 rfl (by decide) (by omega) v436 y435 y438 _ _ _ (fun _ => True) (fun _ => False) rfl rfl ?aO ?aR (fun _ _ h => h) (fun _ h => h.elim) ?aF ?aB ?aS ?aL ?_
              (case aR => repeat (first | exact (Kd.C_below HR441.out HB.out) | (with_reducible refine Kd.C_alloc ?_ _) | (with_reducible refine Kd.C_drewN ?_ _) | (with_reducible refine Kd.C_drew ?_)))
              (case aB => exact (by repeat (first | (with_reducible first | exact HB.out | apply below_alloc | apply pw_below_drewN | apply below_drew1) | exact HB.out)))
              (case aF => exact (fun _ _ => trivial))
              (case aO => exact (by (with_reducible repeat (first | apply Kd.R_alloc | apply Kd.R_drewN | apply Kd.R_drew)); exact HO437.out))
              (case aS => exact (below_size (by repeat (first | (with_reducible first | exact HB.out | apply below_alloc | apply pw_below_drewN | apply below_drew1) | exact HB.out))))
              (case aL => have := LMc5.out; omega)
              intro v443 w15 ho hb hg hat
              rw [← Ny442.out] at ho
              have n0_ := Aside0.mk (hb)
              have n1_ := Aside0.mk (ho)
              clear HB
              clear HO437
              have HB := n0_
              have HO444 := n1_
              clear n0_ n1_
              clear ho hb hg hat
              refine hK.out _ _ trivial (fun hHeld => ?_)
              clear hK K
              refine norm_ (a' := ?_) ?_ ?_
              rotate_left
              · show Act.put _ (some 9) _ = _
                simp only [Act.put, List.setIfInBounds_toArray, List.set_cons_zero, List.set_cons_succ, i64_w, i32_w]
                rfl
              refine one_ (i := 9) (N := some 14) #[true, true, true, true, true, true, true, true, true, true, false] rfl rfl (one_of HT_.out (by kernel_rfl)) (by decide) (fun K hK => ?_)
              refine Kd.R_append_rows_step k43 (w0 := w) w.heap.size (by rfl) (.tmp 9) (.tmp 13) 22 43 (.agg #[(.int .i64 0), (.int .i64 0)]) 16 rfl Try.underlying22 info43 rfl (by decide) (by omega) v443 y442 y445 _ _ _ (fun _ => True) (fun _ => False) rfl rfl ?aO ?aR (fun _ _ h => h) (fun _ h => h.elim) ?aF ?aB ?aS ?aL ?_
              (case aR => repeat (first | exact (Kd.C_below HR448.out HB.out) | (with_reducible refine Kd.C_alloc ?_ _) | (with_reducible refine Kd.C_drewN ?_ _) | (with_reducible refine Kd.C_drew ?_)))
              (case aB => exact (by repeat (first | (with_reducible first | exact HB.out | apply below_alloc | apply pw_below_drewN | apply below_drew1) | exact HB.out)))
              (case aF => exact (fun _ _ => trivial))
              (case aO => exact (by (with_reducible repeat (first | apply Kd.R_alloc | apply Kd.R_drewN | apply Kd.R_drew)); exact HO444.out))
              (case aS => exact (below_size (by repeat (first | (with_reducible first | exact HB.out | apply below_alloc | apply pw_below_drewN | apply below_drew1) | exact HB.out))))
              (case aL => have := LMc9.out; omega)
              intro v450 w16 ho hb hg hat
              rw [← Ny449.out] at ho
              have n0_ := Aside0.mk (hb)
              have n1_ := Aside0.mk (ho)
              clear HB
              clear HO444
              have HB := n0_
              have HO451 := n1_
              clear n0_ n1_
              clear ho hb hg hat
              refine hK.out _ _ trivial (fun hHeld => ?_)
              clear hK K
              refine norm_ (a' := ?_) ?_ ?_
              rotate_left
              · show Act.put _ (some 14) _ = _
                simp only [Act.put, List.setIfInBounds_toArray, List.set_cons_zero, List.set_cons_succ, i64_w, i32_w]
                rfl
              refine pure_ (i := 10) (N := some 4) (v := ?_) (a' := ?_) #[true, true, true, true, true, true, true, true, true, true, true] rfl rfl (any_of HT_.out (by kernel_rfl)) (fun _ _ _ h => h) (Or.inl ⟨by rfl, ?_⟩) ?_ ?_
              rotate_left
              · intro w'
                go_simp
                with_reducible rfl
              rotate_left
              · simp only [Act.put, List.setIfInBounds_toArray, List.set_cons_zero, List.set_cons_succ, i64_w, i32_w]
                rfl
              refine done_ (done_of HT_.out (by kernel_rfl)) ?_
              try go_wp2
              go_ret
              exact ⟨_, by first | rfl | (simp [errW_none, errW_some] <;> rfl) | (simp only [← hji6]; first | rfl | (simp [errW_none, errW_some] <;> rfl)) | (simp [*, errW_none, errW_some] <;> rfl), by (with_reducible repeat (first | apply Kd.R_alloc | apply Kd.R_drewN | apply Kd.R_drew)); exact HO451.out, by repeat (first | (with_reducible first | exact HB.out | apply below_alloc | apply pw_below_drewN | apply below_drew1) | exact HB.out)⟩
            · rw [if_neg c9] at H
              exact absurd H (by simp)
          · rw [if_neg c8] at H
            exact absurd H (by simp)
        · rw [if_neg c7] at H
          exact absurd H (by simp)
      · rw [if_neg c5] at H
        exact absurd H (by simp)
    · rw [if_neg c4] at H
      exact absurd H (by simp)
  · rw [if_neg c3] at H
    exact absurd H (by simp)

end Go.Proofs.Ythlbjdiicmojfaa.P

/-! Part PF74. -/
-- Written for this claim by wip/print_more.py (a session's program that runs the kit's printer with hand-proved functions beside). Lean checks it.
namespace Go.Proofs.Ythlbjdiicmojfaa.P
open Go.RowKit Go.Proofs.YthlbjdiicmojfaaW.PrintWords Go.Proofs.YthlbjdiicmojfaaW.PrintLast Go.Proofs.YthlbjdiicmojfaaW.PrintMore
attribute [local go_sem] max2_int min2_int max_two min_two max_three min_three max_four min_four   -- for this text's walks alone
set_option linter.unusedVariables false
set_option linter.unusedSimpArgs false

/-! ### verditerref08_Wrong: function 74 -/
def verditerref08_Wrong.l0 : Nat → List (S43) → Int → Int → Int → Int → Option (Int × Bool × Int)
  | 0, _, _, _, _, _ => none
  | k + 1, x0, x1, x8, x9, x10 => if x10 < (x0.length : Int) then ((verditerref08_without.f x0 x10).bind fun t599 => ((verditerref08_lie.f k t599 x1).bind fun t602 => (if t602 = true then (verditerref08_Wrong.l0 k x0 x1 x10 (wrap64 (x9 + 1)) (wrap64 (x10 + 1))) else (verditerref08_Wrong.l0 k x0 x1 x8 x9 (wrap64 (x10 + 1)))))) else (if x9 = 1 then (some (x8, true, 0)) else (some (0, false, 0)))
def verditerref08_Wrong.f (k : Nat) (l0 : List (S43)) (a1 : Int) : Option (Int × Bool × Int) := (verditerref08_needed.f k l0 a1).bind fun t597 => (if t597 = 0 then (if (l0.length : Int) < (wrap64 (a1 + 2)) then (some (0, false, 9)) else ((verditerref08_lie.f k l0 a1).bind fun t598 => (if t598 = true then (some (0, false, 0)) else (verditerref08_Wrong.l0 k l0 a1 0 0 0)))) else (some (0, false, t597)))
theorem verditerref08_Wrong.mono_l : ∀ k, (∀ y0 y1 y2 y3 y4, LeO (verditerref08_Wrong.l0 k y0 y1 y2 y3 y4) (verditerref08_Wrong.l0 (k + 1) y0 y1 y2 y3 y4))
  | 0 => fun _ _ _ _ _ r h => by simp [verditerref08_Wrong.l0] at h
  | k + 1 => by
    have ih0 := verditerref08_Wrong.mono_l k
    · intro y0 y1 y2 y3 y4
      unfold verditerref08_Wrong.l0
      repeat' first
      | (with_reducible exact ih0 _ _ _ _ _)
      | (with_reducible exact verditerref08_lie.mono _ _ _)
      | (with_reducible exact verditerref08_needed.mono _ _ _)
      | (with_reducible exact LeO.refl _)
      | (with_reducible exact LeO.none _)
      | (with_reducible refine LeO.ite ?_ ?_)
      | (with_reducible refine LeO.bind ?_ (fun _ => ?_))
      | exact ih0 _ _ _ _ _
      | exact verditerref08_lie.mono _ _ _
      | exact verditerref08_needed.mono _ _ _
      | exact LeO.none _
      | refine LeO.ite ?_ ?_
      | refine LeO.bind ?_ (fun _ => ?_)
theorem verditerref08_Wrong.mono : ∀ a0 a1 k, LeO (verditerref08_Wrong.f k a0 a1) (verditerref08_Wrong.f (k + 1) a0 a1) := by
  intro a0 a1 k
  have ih0 := verditerref08_Wrong.mono_l k
  unfold verditerref08_Wrong.f
  repeat' first
      | (with_reducible exact ih0 _ _ _ _ _)
      | (with_reducible exact verditerref08_lie.mono _ _ _)
      | (with_reducible exact verditerref08_needed.mono _ _ _)
      | (with_reducible exact LeO.refl _)
      | (with_reducible exact LeO.none _)
      | (with_reducible refine LeO.ite ?_ ?_)
      | (with_reducible refine LeO.bind ?_ (fun _ => ?_))
      | exact ih0 _ _ _ _ _
      | exact verditerref08_lie.mono _ _ _
      | exact verditerref08_needed.mono _ _ _
      | exact LeO.none _
      | refine LeO.ite ?_ ?_
      | refine LeO.bind ?_ (fun _ => ?_)
set_option maxHeartbeats 8000000 in
set_option maxRecDepth 100000 in
theorem verditerref08_Wrong.calls (k : Nat) (A0 : Option Addr) (c0 : Nat) (l0 : List (S43)) (a1 : Int) (r1 : Int) (r2 : Bool) (r3 : Int) (w : World) (hr0 : Kd.C k43 w A0 l0.length l0) (hc0 : l0.length ≤ c0) (h : verditerref08_Wrong.f k l0 a1 = some (r1, r2, r3)) :
    Calls Try.prog 74 #[.slice A0 l0.length c0, .int .i64 a1] w fun e w' => e = .returned (.tuple #[.int .i64 r1, .bool r2, .int .i64 r3]) ∧ Below w.heap.size w w' := by
  have HR0 := Aside0.mk hr0
  have HC0 := Aside0.mk hc0
  clear hr0 hc0
  have HB := Aside0.mk (Below.refl w.heap.size w)
  have H : ((verditerref08_needed.f k l0 a1).bind fun t597 => (if t597 = 0 then (if (l0.length : Int) < (wrap64 (a1 + 2)) then (some (0, false, 9)) else ((verditerref08_lie.f k l0 a1).bind fun t598 => (if t598 = true then (some (0, false, 0)) else (verditerref08_Wrong.l0 k l0 a1 0 0 0)))) else (some (0, false, t597)))) = some (r1, r2, r3) := h
  clear h
  replace H := Option.bind_eq_some_iff.mp H
  obtain ⟨t597, A30, H⟩ := H
  replace H : (if t597 = 0 then (if (l0.length : Int) < (wrap64 (a1 + 2)) then (some (0, false, 9)) else ((verditerref08_lie.f k l0 a1).bind fun t598 => (if t598 = true then (some (0, false, 0)) else (verditerref08_Wrong.l0 k l0 a1 0 0 0)))) else (some (0, false, t597))) = some (r1, r2, r3) := H
  have A3 := Aside0.mk A30
  clear A30
  by_cases c4 : t597 = 0
  · rw [if_pos c4] at H
    have c4b0 : (t597 == 0) = true := beq_iff_eq.mpr c4
    have c4b1 : (t597 != 0) = false := bne_eq_false_iff_eq.mpr c4
    clear c4
    by_cases c5 : (l0.length : Int) < (wrap64 (a1 + 2))
    · rw [if_pos c5] at H
      have c5b0 : decide ((l0.length : Int) < (wrap64 (a1 + 2))) = true := decide_eq_true c5
      clear c5
      simp only [Option.some.injEq, Prod.mk.injEq] at H
      obtain ⟨rfl, rfl, rfl⟩ := H
      go_enter Try.func74, Try.ntmps74
      go_wp2_with (first | ((with_reducible refine gate_callee (f := 91) rfl ?_); refine goesL_ (some 13) rfl rfl Try.func91 (by kernel_rfl) rfl #[.slice A0 l0.length c0, .int .i64 a1] rfl (by (try simp only [List.map_toArray, List.map_cons, List.map_nil]); first | done | rfl | (simp only [List.length_drop, List.length_take]; rfl)) ?_; (with_reducible refine (verditerref08_needed.calls k _ _ l0 a1 t597 _ ?side1 ?side2 A3.out).mono ?_); (case side1 => repeat (first | exact HR0.out | (with_reducible refine Kd.C_alloc ?_ _) | (with_reducible refine Kd.C_drewN ?_ _) | (with_reducible refine Kd.C_drew ?_))); (case side2 => exact HC0.out); rintro e w' ⟨rfl, ⟨nd, rfl⟩⟩; refine ⟨_, rfl, ?_⟩))
      go_ret3
      exact ⟨by first | rfl | (simp [errW_none, errW_some] <;> rfl) | (simp [*, errW_none, errW_some] <;> rfl), by repeat (first | (with_reducible first | exact HB.out | apply below_alloc | apply pw_below_drewN | apply below_drew1) | exact HB.out)⟩
    · rw [if_neg c5] at H
      have c5b0 : decide ((l0.length : Int) < (wrap64 (a1 + 2))) = false := decide_eq_false c5
      clear c5
      replace H := Option.bind_eq_some_iff.mp H
      obtain ⟨t598, A60, H⟩ := H
      replace H : (if t598 = true then (some (0, false, 0)) else (verditerref08_Wrong.l0 k l0 a1 0 0 0)) = some (r1, r2, r3) := H
      have A6 := Aside0.mk A60
      clear A60
      by_cases c7 : t598 = true
      · subst c7
        have H1 : (some (0, false, 0)) = some (r1, r2, r3) := by rw [if_pos rfl] at H; exact H
        clear H
        have H := H1
        clear H1
        simp only [Option.some.injEq, Prod.mk.injEq] at H
        obtain ⟨rfl, rfl, rfl⟩ := H
        go_enter Try.func74, Try.ntmps74
        go_wp2_with (first | ((with_reducible refine gate_callee (f := 91) rfl ?_); refine goesL_ (some 13) rfl rfl Try.func91 (by kernel_rfl) rfl #[.slice A0 l0.length c0, .int .i64 a1] rfl (by (try simp only [List.map_toArray, List.map_cons, List.map_nil]); first | done | rfl | (simp only [List.length_drop, List.length_take]; rfl)) ?_; (with_reducible refine (verditerref08_needed.calls k _ _ l0 a1 t597 _ ?side1 ?side2 A3.out).mono ?_); (case side1 => repeat (first | exact HR0.out | (with_reducible refine Kd.C_alloc ?_ _) | (with_reducible refine Kd.C_drewN ?_ _) | (with_reducible refine Kd.C_drew ?_))); (case side2 => exact HC0.out); rintro e w' ⟨rfl, ⟨nd, rfl⟩⟩; refine ⟨_, rfl, ?_⟩) | ((with_reducible refine gate_callee (f := 92) rfl ?_); refine goesL_ (some 24) rfl rfl Try.func92 (by kernel_rfl) rfl #[.slice A0 l0.length c0, .int .i64 a1] rfl (by (try simp only [List.map_toArray, List.map_cons, List.map_nil]); first | done | rfl | (simp only [List.length_drop, List.length_take]; rfl)) ?_; (with_reducible refine (verditerref08_lie.calls k _ _ l0 a1 true _ ?side1 ?side2 A6.out).mono ?_); (case side1 => repeat (first | exact HR0.out | (with_reducible refine Kd.C_alloc ?_ _) | (with_reducible refine Kd.C_drewN ?_ _) | (with_reducible refine Kd.C_drew ?_))); (case side2 => exact HC0.out); rintro e w8 ⟨rfl, hb⟩; refine ⟨_, rfl, ?_⟩; have n0_ := Aside0.mk (below_step (by repeat (first | (with_reducible first | exact HB.out | apply below_alloc | apply pw_below_drewN | apply below_drew1) | exact HB.out)) hb); clear HB; have HB := n0_; clear n0_; (try clear hb); (try clear hb2); (try clear hk); (try clear hi)))
        go_ret3
        exact ⟨by first | rfl | (simp [errW_none, errW_some] <;> rfl) | (simp [*, errW_none, errW_some] <;> rfl), by repeat (first | (with_reducible first | exact HB.out | apply below_alloc | apply pw_below_drewN | apply below_drew1) | exact HB.out)⟩
      · replace c7 := Bool.eq_false_iff.mpr c7
        subst c7
        have H1 : (verditerref08_Wrong.l0 k l0 a1 0 0 0) = some (r1, r2, r3) := by rw [if_neg (show ¬ (false = true) by decide)] at H; exact H
        clear H
        have H := H1
        clear H1
        have H' := Aside0.mk H
        clear H
        go_enter Try.func74, Try.ntmps74
        go_wp2_with (first | ((with_reducible refine gate_callee (f := 91) rfl ?_); refine goesL_ (some 13) rfl rfl Try.func91 (by kernel_rfl) rfl #[.slice A0 l0.length c0, .int .i64 a1] rfl (by (try simp only [List.map_toArray, List.map_cons, List.map_nil]); first | done | rfl | (simp only [List.length_drop, List.length_take]; rfl)) ?_; (with_reducible refine (verditerref08_needed.calls k _ _ l0 a1 t597 _ ?side1 ?side2 A3.out).mono ?_); (case side1 => repeat (first | exact HR0.out | (with_reducible refine Kd.C_alloc ?_ _) | (with_reducible refine Kd.C_drewN ?_ _) | (with_reducible refine Kd.C_drew ?_))); (case side2 => exact HC0.out); rintro e w' ⟨rfl, ⟨nd, rfl⟩⟩; refine ⟨_, rfl, ?_⟩) | ((with_reducible refine gate_callee (f := 92) rfl ?_); refine goesL_ (some 24) rfl rfl Try.func92 (by kernel_rfl) rfl #[.slice A0 l0.length c0, .int .i64 a1] rfl (by (try simp only [List.map_toArray, List.map_cons, List.map_nil]); first | done | rfl | (simp only [List.length_drop, List.length_take]; rfl)) ?_; (with_reducible refine (verditerref08_lie.calls k _ _ l0 a1 false _ ?side1 ?side2 A6.out).mono ?_); (case side1 => repeat (first | exact HR0.out | (with_reducible refine Kd.C_alloc ?_ _) | (with_reducible refine Kd.C_drewN ?_ _) | (with_reducible refine Kd.C_drew ?_))); (case side2 => exact HC0.out); rintro e w9 ⟨rfl, hb⟩; refine ⟨_, rfl, ?_⟩; have n0_ := Aside0.mk (below_step (by repeat (first | (with_reducible first | exact HB.out | apply below_alloc | apply pw_below_drewN | apply below_drew1) | exact HB.out)) hb); clear HB; have HB := n0_; clear n0_; (try clear hb); (try clear hb2); (try clear hk); (try clear hi)))
        go_loopg [8, 9, 10] k (fun kq v8 v9 v10 w' => ∃ (x8_1 : Int) (x9_1 : Int) (x10_1 : Int), v8 = .int .i64 x8_1 ∧ v9 = .int .i64 x9_1 ∧ v10 = .int .i64 x10_1 ∧ Aside0 (verditerref08_Wrong.l0 kq l0 a1 x8_1 x9_1 x10_1 = some (r1, r2, r3)) ∧ Aside0 (kq ≤ k) ∧ Aside0 (Below w.heap.size w w'))
        case atStart => exact ⟨(0), (0), (0), (by first | rfl | (simp; done) | (simp [*]; done)), (by first | rfl | (simp; done) | (simp [*]; done)), (by first | rfl | (simp; done) | (simp [*]; done)), H', ⟨Nat.le_refl _⟩, ⟨by repeat (first | (with_reducible first | exact HB.out | apply below_alloc | apply pw_below_drewN | apply below_drew1) | exact HB.out)⟩⟩
        case round =>
          clear H'
          try clear p2
          try clear c4
          try clear c4b0
          try clear c4b1
          try clear c5
          try clear c5b0
          try clear p6
          try clear c7
          try clear c9
          obtain ⟨x8_1, x9_1, x10_1, rfl, rfl, rfl, HA, HK1, HB⟩ := hrel
          cases gk with
          | zero => exact absurd HA.out (by simp [verditerref08_Wrong.l0])
          | succ k1 =>
            have H := HA.out
            clear HA
            simp only [verditerref08_Wrong.l0] at H
            by_cases c10 : x10_1 < (l0.length : Int)
            · rw [if_pos c10] at H
              have c10b0 : decide (x10_1 < (l0.length : Int)) = true := decide_eq_true c10
              clear c10
              replace H := Option.bind_eq_some_iff.mp H
              obtain ⟨t599, A110, H⟩ := H
              replace H : ((verditerref08_lie.f k1 t599 a1).bind fun t602 => (if t602 = true then (verditerref08_Wrong.l0 k1 l0 a1 x10_1 (wrap64 (x9_1 + 1)) (wrap64 (x10_1 + 1))) else (verditerref08_Wrong.l0 k1 l0 a1 x8_1 x9_1 (wrap64 (x10_1 + 1))))) = some (r1, r2, r3) := H
              have A11 := Aside0.mk A110
              clear A110
              replace H := Option.bind_eq_some_iff.mp H
              obtain ⟨t602, A120, H⟩ := H
              replace H : (if t602 = true then (verditerref08_Wrong.l0 k1 l0 a1 x10_1 (wrap64 (x9_1 + 1)) (wrap64 (x10_1 + 1))) else (verditerref08_Wrong.l0 k1 l0 a1 x8_1 x9_1 (wrap64 (x10_1 + 1)))) = some (r1, r2, r3) := H
              have A12 := Aside0.mk A120
              clear A120
              by_cases c13 : t602 = true
              · subst c13
                have H1 : (verditerref08_Wrong.l0 k1 l0 a1 x10_1 (wrap64 (x9_1 + 1)) (wrap64 (x10_1 + 1))) = some (r1, r2, r3) := by rw [if_pos rfl] at H; exact H
                clear H
                have H := H1
                clear H1
                have H' := Aside0.mk H
                clear H
                go_wp2_with (first | ((with_reducible refine gate_callee (f := 97) rfl ?_); refine goesL_ (some 33) rfl rfl Try.func97 (by kernel_rfl) rfl #[.slice A0 l0.length c0, .int .i64 x10_1] rfl (by (try simp only [List.map_toArray, List.map_cons, List.map_nil]); first | done | rfl | (simp only [List.length_drop, List.length_take]; rfl)) ?_; (with_reducible refine (verditerref08_without.calls _ _ l0 x10_1 t599 _ ?side1 ?side2 A11.out).mono ?_); (case side1 => repeat (first | exact (Kd.C_below HR0.out HB.out) | (with_reducible refine Kd.C_alloc ?_ _) | (with_reducible refine Kd.C_drewN ?_ _) | (with_reducible refine Kd.C_drew ?_))); (case side2 => exact HC0.out); rintro e w14 ⟨v600, rfl, ho0, hb⟩; refine ⟨_, rfl, ?_⟩; have n0_ := Aside0.mk (Kd.R_lower ho0 (below_size (by repeat (first | (with_reducible first | exact HB.out | apply below_alloc | apply pw_below_drewN | apply below_drew1) | exact HB.out)))); have n1_ := Aside0.mk (below_step (by repeat (first | (with_reducible first | exact HB.out | apply below_alloc | apply pw_below_drewN | apply below_drew1) | exact HB.out)) hb); clear HB; have HO601 := n0_; have HB := n1_; clear n0_ n1_; (try clear hb); (try clear hb2); (try clear hk); (try clear hi); (try clear ho0); obtain ⟨Ao15, co15, eo15⟩ := Kd.R_slice HO601.out; subst eo15) | ((with_reducible refine gate_callee (f := 92) rfl ?_); refine goesL_ (some 35) rfl rfl Try.func92 (by kernel_rfl) rfl #[.slice Ao15 t599.length co15, .int .i64 a1] rfl (by (try simp only [List.map_toArray, List.map_cons, List.map_nil]); first | done | rfl | (simp only [List.length_drop, List.length_take]; rfl)) ?_; (with_reducible refine (verditerref08_lie.calls k1 _ _ t599 a1 true _ ?side1 ?side2 A12.out).mono ?_); (case side1 => repeat (first | exact (Kd.R_reads' HO601.out).2.2 | (with_reducible refine Kd.C_alloc ?_ _) | (with_reducible refine Kd.C_drewN ?_ _) | (with_reducible refine Kd.C_drew ?_))); (case side2 => exact (Kd.R_reads' HO601.out).2.1); rintro e w16 ⟨rfl, hb⟩; refine ⟨_, rfl, ?_⟩; have n0_ := Aside0.mk (Kd.R_below (by (with_reducible repeat (first | apply Kd.R_alloc | apply Kd.R_drewN | apply Kd.R_drew)); exact HO601.out) hb); have n1_ := Aside0.mk (below_step (by repeat (first | (with_reducible first | exact HB.out | apply below_alloc | apply pw_below_drewN | apply below_drew1) | exact HB.out)) hb); clear HO601; clear HB; have HO601 := n0_; have HB := n1_; clear n0_ n1_; (try clear hb); (try clear hb2); (try clear hk); (try clear hi)))
                go_roundg k1
                case measure => have := HK1.out; omega
                case rel => exact ⟨(x10_1), (wrap64 (x9_1 + 1)), (wrap64 (x10_1 + 1)), (by first | rfl | (simp; done) | (simp [*]; done)), (by first | rfl | (simp; done) | (simp [*]; done)), (by first | rfl | (simp; done) | (simp [*]; done)), H', ⟨by have := HK1.out; omega⟩, ⟨by repeat (first | (with_reducible first | exact HB.out | apply below_alloc | apply pw_below_drewN | apply below_drew1) | exact HB.out)⟩⟩
              · replace c13 := Bool.eq_false_iff.mpr c13
                subst c13
                have H1 : (verditerref08_Wrong.l0 k1 l0 a1 x8_1 x9_1 (wrap64 (x10_1 + 1))) = some (r1, r2, r3) := by rw [if_neg (show ¬ (false = true) by decide)] at H; exact H
                clear H
                have H := H1
                clear H1
                have H' := Aside0.mk H
                clear H
                go_wp2_with (first | ((with_reducible refine gate_callee (f := 97) rfl ?_); refine goesL_ (some 33) rfl rfl Try.func97 (by kernel_rfl) rfl #[.slice A0 l0.length c0, .int .i64 x10_1] rfl (by (try simp only [List.map_toArray, List.map_cons, List.map_nil]); first | done | rfl | (simp only [List.length_drop, List.length_take]; rfl)) ?_; (with_reducible refine (verditerref08_without.calls _ _ l0 x10_1 t599 _ ?side1 ?side2 A11.out).mono ?_); (case side1 => repeat (first | exact (Kd.C_below HR0.out HB.out) | (with_reducible refine Kd.C_alloc ?_ _) | (with_reducible refine Kd.C_drewN ?_ _) | (with_reducible refine Kd.C_drew ?_))); (case side2 => exact HC0.out); rintro e w17 ⟨v600, rfl, ho0, hb⟩; refine ⟨_, rfl, ?_⟩; have n0_ := Aside0.mk (Kd.R_lower ho0 (below_size (by repeat (first | (with_reducible first | exact HB.out | apply below_alloc | apply pw_below_drewN | apply below_drew1) | exact HB.out)))); have n1_ := Aside0.mk (below_step (by repeat (first | (with_reducible first | exact HB.out | apply below_alloc | apply pw_below_drewN | apply below_drew1) | exact HB.out)) hb); clear HB; have HO601 := n0_; have HB := n1_; clear n0_ n1_; (try clear hb); (try clear hb2); (try clear hk); (try clear hi); (try clear ho0); obtain ⟨Ao18, co18, eo18⟩ := Kd.R_slice HO601.out; subst eo18) | ((with_reducible refine gate_callee (f := 92) rfl ?_); refine goesL_ (some 35) rfl rfl Try.func92 (by kernel_rfl) rfl #[.slice Ao18 t599.length co18, .int .i64 a1] rfl (by (try simp only [List.map_toArray, List.map_cons, List.map_nil]); first | done | rfl | (simp only [List.length_drop, List.length_take]; rfl)) ?_; (with_reducible refine (verditerref08_lie.calls k1 _ _ t599 a1 false _ ?side1 ?side2 A12.out).mono ?_); (case side1 => repeat (first | exact (Kd.R_reads' HO601.out).2.2 | (with_reducible refine Kd.C_alloc ?_ _) | (with_reducible refine Kd.C_drewN ?_ _) | (with_reducible refine Kd.C_drew ?_))); (case side2 => exact (Kd.R_reads' HO601.out).2.1); rintro e w19 ⟨rfl, hb⟩; refine ⟨_, rfl, ?_⟩; have n0_ := Aside0.mk (Kd.R_below (by (with_reducible repeat (first | apply Kd.R_alloc | apply Kd.R_drewN | apply Kd.R_drew)); exact HO601.out) hb); have n1_ := Aside0.mk (below_step (by repeat (first | (with_reducible first | exact HB.out | apply below_alloc | apply pw_below_drewN | apply below_drew1) | exact HB.out)) hb); clear HO601; clear HB; have HO601 := n0_; have HB := n1_; clear n0_ n1_; (try clear hb); (try clear hb2); (try clear hk); (try clear hi)))
                go_roundg k1
                case measure => have := HK1.out; omega
                case rel => exact ⟨(x8_1), (x9_1), (wrap64 (x10_1 + 1)), (by first | rfl | (simp; done) | (simp [*]; done)), (by first | rfl | (simp; done) | (simp [*]; done)), (by first | rfl | (simp; done) | (simp [*]; done)), H', ⟨by have := HK1.out; omega⟩, ⟨by repeat (first | (with_reducible first | exact HB.out | apply below_alloc | apply pw_below_drewN | apply below_drew1) | exact HB.out)⟩⟩
            · rw [if_neg c10] at H
              have c10b0 : decide (x10_1 < (l0.length : Int)) = false := decide_eq_false c10
              clear c10
              by_cases c20 : x9_1 = 1
              · rw [if_pos c20] at H
                have c20b0 : (x9_1 == 1) = true := beq_iff_eq.mpr c20
                have c20b1 : (x9_1 != 1) = false := bne_eq_false_iff_eq.mpr c20
                clear c20
                simp only [Option.some.injEq, Prod.mk.injEq] at H
                obtain ⟨rfl, rfl, rfl⟩ := H
                go_wp2
                go_ret3
                exact ⟨by first | rfl | (simp [errW_none, errW_some] <;> rfl) | (simp [*, errW_none, errW_some] <;> rfl), by repeat (first | (with_reducible first | exact HB.out | apply below_alloc | apply pw_below_drewN | apply below_drew1) | exact HB.out)⟩
              · rw [if_neg c20] at H
                have c20b0 : (x9_1 == 1) = false := beq_eq_false_iff_ne.mpr c20
                have c20b1 : (x9_1 != 1) = true := bne_iff_ne.mpr c20
                simp only [Option.some.injEq, Prod.mk.injEq] at H
                obtain ⟨rfl, rfl, rfl⟩ := H
                go_wp2
                go_ret3
                exact ⟨by first | rfl | (simp [errW_none, errW_some] <;> rfl) | (simp [*, errW_none, errW_some] <;> rfl), by repeat (first | (with_reducible first | exact HB.out | apply below_alloc | apply pw_below_drewN | apply below_drew1) | exact HB.out)⟩
  · rw [if_neg c4] at H
    have c4b0 : (t597 == 0) = false := beq_eq_false_iff_ne.mpr c4
    have c4b1 : (t597 != 0) = true := bne_iff_ne.mpr c4
    simp only [Option.some.injEq, Prod.mk.injEq] at H
    obtain ⟨rfl, rfl, rfl⟩ := H
    go_enter Try.func74, Try.ntmps74
    go_wp2_with (first | ((with_reducible refine gate_callee (f := 91) rfl ?_); refine goesL_ (some 13) rfl rfl Try.func91 (by kernel_rfl) rfl #[.slice A0 l0.length c0, .int .i64 a1] rfl (by (try simp only [List.map_toArray, List.map_cons, List.map_nil]); first | done | rfl | (simp only [List.length_drop, List.length_take]; rfl)) ?_; (with_reducible refine (verditerref08_needed.calls k _ _ l0 a1 t597 _ ?side1 ?side2 A3.out).mono ?_); (case side1 => repeat (first | exact HR0.out | (with_reducible refine Kd.C_alloc ?_ _) | (with_reducible refine Kd.C_drewN ?_ _) | (with_reducible refine Kd.C_drew ?_))); (case side2 => exact HC0.out); rintro e w' ⟨rfl, ⟨nd, rfl⟩⟩; refine ⟨_, rfl, ?_⟩))
    go_ret3
    exact ⟨by first | rfl | (simp [errW_none, errW_some] <;> rfl) | (simp [*, errW_none, errW_some] <;> rfl), by repeat (first | (with_reducible first | exact HB.out | apply below_alloc | apply pw_below_drewN | apply below_drew1) | exact HB.out)⟩

end Go.Proofs.Ythlbjdiicmojfaa.P

/-! Part H62. -/
namespace Go.Proofs.Ythlbjdiicmojfaa.P
open Go.RowKit Go.Proofs.YthlbjdiicmojfaaW.PrintWords Go.Proofs.YthlbjdiicmojfaaW.PrintLast Go.Proofs.YthlbjdiicmojfaaW.PrintMore
set_option linter.unusedVariables false

set_option maxHeartbeats 2000000 in
set_option maxRecDepth 100000 in
theorem same99 (x y a : Int) (B : Nat) (w : World) (hB : w.heap[B]? = some (.cells #[.int .i64 a] 3 (0, 0))) :
    Calls Try.prog 99 #[.agg #[.int .i64 x, .int .i64 y], .pointer (some ⟨B, 0, none⟩)] w fun e w' => e = .returned (.bool (x == a)) ∧ Below w.heap.size w w' := by
  have hu43 := Try.underlying43
  have hc1 : (w.alloc (.cells #[.int .i64 x, .int .i64 y] 43)).cell? ⟨B, 0, none⟩ = some (.int .i64 a) := pw_cell_below (below_alloc (Below.refl _ _) _) (blk_cell hB 0)
  clear hB
  go_enter Try.func99, Try.ntmps99
  go_wp2_with fail
  go_ret
  exact ⟨rfl, below_alloc (Below.refl _ _) _⟩
theorem predB_drewN {α : Type} {g : Nat} {lb : Array Value} {enc : α → Value} {p : α → Bool} {xs : List α} {w : World} (h : PredB g lb enc p xs w) (n : Nat) : PredB g lb enc p xs (w.drewN n) := by
  unfold PredB at h ⊢
  exact fun W x hx hb => h W x hx ⟨hb.os, hb.tape, hb.output, hb.size, hb.block⟩
theorem eg99 : ∀ args w, (callFunc 99 args).run Try.prog w = .ok (.enter 99 args) w := enters_of Try.func99 (by kernel_rfl) rfl

set_option maxHeartbeats 4000000 in
set_option maxRecDepth 100000 in
theorem secret_Without.calls (A0 : Option Addr) (c0 : Nat) (l0 : List (S43)) (a1 : Int) (r1 : List (S43)) (r2 : Int) (w : World) (hr0 : Kd.C k43 w A0 l0.length l0) (hc0 : l0.length ≤ c0) (h : secret_Without.f l0 a1 = some (r1, r2)) :
    Calls Try.prog 62 #[.slice A0 l0.length c0, .int .i64 a1] w fun e w' => ∃ v0_ : Value, e = .returned (.tuple #[v0_, .int .i64 r2]) ∧ Kd.R k43 43 w' w.heap.size (fun _ => True) v0_ r1 ∧ Below w.heap.size w w' := by
  have hB0 := below_alloc (Below.refl w.heap.size w) (.cells #[.int .i64 a1] 3)
  have hnew := (alloc_new w (.cells #[.int .i64 a1] 3)).2
  have HR0 := Aside0.mk (Kd.C_alloc hr0 (.cells #[.int .i64 a1] 3))
  have HV := Aside0.mk (secret_Validate.calls A0 c0 l0 (valid l0) _ HR0.out hc0 rfl)
  have HN := Aside0.mk (isNumber_eq a1)
  have HC0 := Aside0.mk hc0
  have HB0 := Aside0.mk hB0
  have HNEW := Aside0.mk hnew
  have hu43 := Try.underlying43
  clear hB0 hnew hr0
  unfold secret_Without.f at h
  split at h
  · rename_i hv
    obtain ⟨hlen, hok, _⟩ := valid_iff.1 hv
    rw [hv] at HV
    clear hok hv
    cases hz : (a1 == 0) with
    | true =>
      have hz0 := beq_iff_eq.1 hz
      rw [if_neg (by omega)] at h
      simp only [Option.some.injEq, Prod.mk.injEq] at h
      obtain ⟨rfl, rfl⟩ := h
      clear hc0 hz0
      go_enter Try.func62, Try.ntmps62
      go_wp2_with fail
      with_reducible refine HV.out.mono ?_
      rintro e w1 ⟨rfl, hb⟩
      have hx : w1.cell? ⟨w.heap.size, 0, none⟩ = some (.int .i64 a1) := pw_cell_below hb (blk_cell HNEW.out 0)
      have HB1 := Aside0.mk (below_step HB0.out hb)
      clear hb
      go_wp2_with fail
      go_ret2
      exact ⟨_, rfl, Kd.R_nil _ _ _ _ _, HB1.out⟩
    | false =>
      have hz0 : a1 ≠ 0 := by simpa using hz
      cases hn : num a1 with
      | false =>
        have hn0 : ¬ (1 ≤ a1 ∧ a1 ≤ 250) := by intro h'; have := num_iff.2 (show 0 ≤ a1 ∧ a1 ≤ 250 by omega); rw [hn] at this; cases this
        rw [if_neg hn0] at h
        rw [hn] at HN
        simp only [Option.some.injEq, Prod.mk.injEq] at h
        obtain ⟨rfl, rfl⟩ := h
        clear hc0 hz0 hn hn0
        go_enter Try.func62, Try.ntmps62
        go_wp2_with fail
        with_reducible refine HV.out.mono ?_
        rintro e w1 ⟨rfl, hb⟩
        have hx : w1.cell? ⟨w.heap.size, 0, none⟩ = some (.int .i64 a1) := pw_cell_below hb (blk_cell HNEW.out 0)
        have HB1 := Aside0.mk (below_step HB0.out hb)
        clear hb
        go_wp2_with fail
        with_reducible refine (secret_isNumber.calls _ _ _ HN.out).mono ?_
        rintro e w' ⟨rfl, ⟨nd, rfl⟩⟩
        go_wp2_with fail
        go_ret2
        exact ⟨_, rfl, Kd.R_nil _ _ _ _ _, pw_below_drewN HB1.out _⟩
      | true =>
        have hn0 := num_iff.1 hn
        rw [if_pos (by omega)] at h
        rw [hn] at HN
        clear hn hz0
        have hpred : ∀ W, Below (w.alloc (.cells #[.int .i64 a1] 3)).heap.size (w.alloc (.cells #[.int .i64 a1] 3)) W → PredB 99 #[.pointer (some ⟨w.heap.size, 0, none⟩)] enc43 (fun q => q.f0 == a1) l0 W := fun W hW W' q hq hb =>
          same99 q.f0 q.f1 a1 w.heap.size W' ((hb.block w.heap.size (Nat.lt_of_lt_of_le (alloc_new w _).1 hW.size)).trans ((hW.block w.heap.size (alloc_new w _).1).trans HNEW.out))
        have HP := Aside0.mk hpred
        clear hpred
        by_cases hf : l0.findIdx (fun p => p.f0 == a1) < l0.length
        · rw [if_pos hf] at h
          simp only [Option.some.injEq, Prod.mk.injEq] at h
          obtain ⟨hr, rfl⟩ := h
          have HR := Aside0.mk hr
          have hi : idxI (fun q : S43 => q.f0 == a1) l0 = (l0.findIdx (fun p => p.f0 == a1) : Int) := by unfold idxI; rw [if_pos hf]
          have HI := Aside0.mk hi
          obtain ⟨k, hk⟩ : ∃ k, l0.findIdx (fun p => p.f0 == a1) = k := ⟨_, rfl⟩
          rw [hk] at HI HR hf
          clear hr hi hk hc0
          go_enter Try.func62, Try.ntmps62
          go_wp2_with fail
          with_reducible refine HV.out.mono ?_
          rintro e w1 ⟨rfl, hb⟩
          have hx : w1.cell? ⟨w.heap.size, 0, none⟩ = some (.int .i64 a1) := pw_cell_below hb (blk_cell HNEW.out 0)
          have HB1 := Aside0.mk (below_step HB0.out hb)
          have HR1 := Aside0.mk (Kd.C_below HR0.out hb)
          have HP1 := Aside0.mk (HP.out w1 hb)
          clear hb
          go_wp2_with fail
          with_reducible refine (secret_isNumber.calls _ _ _ HN.out).mono ?_
          rintro e w' ⟨rfl, ⟨nd, rfl⟩⟩
          clear hx
          go_wp2_with fail
          with_reducible refine (index43 A0 c0 l0 99 _ _ eg99 _ (Kd.C_drewN HR1.out nd) (predB_drewN HP1.out nd)).mono ?_
          rw [HI.out]
          rintro e w2 ⟨rfl, hb2⟩
          have HB2 := Aside0.mk (below_step (pw_below_drewN HB1.out nd) hb2)
          have HR2 := Aside0.mk (Kd.C_below (Kd.C_drewN HR1.out nd) hb2)
          have hk0 : (0 : Int) ≤ (k : Int) := by omega
          clear hb2
          go_wp2_with fail
          with_reducible refine (secret_without.calls A0 c0 l0 (k : Int) (l0.eraseIdx k) _ HR2.out HC0.out (by unfold secret_without.f; rw [if_pos (by omega), Int.toNat_natCast])).mono ?_
          rintro e w3 ⟨v3, rfl, ho3, hb3⟩
          have HO3 := Aside0.mk (Kd.R_lower ho3 (below_size HB2.out))
          have HB3 := Aside0.mk (below_step HB2.out hb3)
          clear ho3 hb3
          go_wp2_with fail
          go_ret2
          exact ⟨_, rfl, by rw [← HR.out]; exact HO3.out, HB3.out⟩
        · rw [if_neg hf] at h
          simp only [Option.some.injEq, Prod.mk.injEq] at h
          obtain ⟨rfl, rfl⟩ := h
          have hi : idxI (fun q : S43 => q.f0 == a1) l0 = -1 := by unfold idxI; rw [if_neg hf]
          have HI := Aside0.mk hi
          clear hi hf hc0
          go_enter Try.func62, Try.ntmps62
          go_wp2_with fail
          with_reducible refine HV.out.mono ?_
          rintro e w1 ⟨rfl, hb⟩
          have hx : w1.cell? ⟨w.heap.size, 0, none⟩ = some (.int .i64 a1) := pw_cell_below hb (blk_cell HNEW.out 0)
          have HB1 := Aside0.mk (below_step HB0.out hb)
          have HR1 := Aside0.mk (Kd.C_below HR0.out hb)
          have HP1 := Aside0.mk (HP.out w1 hb)
          clear hb
          go_wp2_with fail
          with_reducible refine (secret_isNumber.calls _ _ _ HN.out).mono ?_
          rintro e w' ⟨rfl, ⟨nd, rfl⟩⟩
          clear hx
          go_wp2_with fail
          with_reducible refine (index43 A0 c0 l0 99 _ _ eg99 _ (Kd.C_drewN HR1.out nd) (predB_drewN HP1.out nd)).mono ?_
          rw [HI.out]
          rintro e w2 ⟨rfl, hb2⟩
          have HB2 := Aside0.mk (below_step (pw_below_drewN HB1.out nd) hb2)
          clear hb2
          go_wp2_with fail
          go_ret2
          exact ⟨_, rfl, Kd.R_nil _ _ _ _ _, HB2.out⟩
  · rename_i hv
    simp only [Option.some.injEq, Prod.mk.injEq] at h
    obtain ⟨rfl, rfl⟩ := h
    have hv1 : (valid l0 == 0) = false := by simpa using hv
    have hv2 : (valid l0 != 0) = true := by simpa using hv
    obtain ⟨vv, hvv⟩ : ∃ vv, valid l0 = vv := ⟨_, rfl⟩
    rw [hvv] at HV hv1 hv2 ⊢
    clear hc0 hv hvv
    go_enter Try.func62, Try.ntmps62
    go_wp2_with fail
    with_reducible refine HV.out.mono ?_
    rintro e w1 ⟨rfl, hb⟩
    have HB1 := Aside0.mk (below_step HB0.out hb)
    clear hb
    go_wp2_with fail
    go_ret2
    exact ⟨_, rfl, Kd.R_nil _ _ _ _ _, HB1.out⟩
end Go.Proofs.Ythlbjdiicmojfaa.P

/-! Part PF38. -/
-- Written for this claim by wip/print_more.py (a session's program that runs the kit's printer with hand-proved functions beside). Lean checks it.
namespace Go.Proofs.Ythlbjdiicmojfaa.P
open Go.RowKit Go.Proofs.YthlbjdiicmojfaaW.PrintWords Go.Proofs.YthlbjdiicmojfaaW.PrintLast Go.Proofs.YthlbjdiicmojfaaW.PrintMore
attribute [local go_sem] max2_int min2_int max_two min_two max_three min_three max_four min_four   -- for this text's walks alone
set_option linter.unusedVariables false
set_option linter.unusedSimpArgs false

/-! ### verditerlaw08_secretWrongs: function 38 -/
mutual
def verditerlaw08_secretWrongs.j0 : Nat → List (S43) → Int → Int → Bool → Bool → Option (Bool)
  | 0, _, _, _, _, _ => none
  | k + 1, x0, x1, x8, x9, x44 => if x44 = true then (some false) else (if x9 = true then (if x8 < 0 then (verditerlaw08_secretWrongs.j1 k x0 x1 x8 true) else (verditerlaw08_secretWrongs.j1 k x0 x1 x8 (decide (x8 ≥ (x0.length : Int))))) else ((verditerlaw08_known.f k).bind fun t716 => (some t716)))
def verditerlaw08_secretWrongs.j1 : Nat → List (S43) → Int → Int → Bool → Option (Bool)
  | 0, _, _, _, _ => none
  | k + 1, x0, x1, x8, x55 => if x55 = true then (some false) else (if 0 ≤ x8 then (if x8 < (x0.length : Int) then ((secret_Without.f x0 ((rd_T43 x0 x8).f0)).bind fun bt718 => ((secret_LieOn.f bt718.1 x1).bind fun bt722 => (if bt718.2 = 0 then (if bt722.2 = 0 then (if bt722.1 = true then ((verditerlaw08_known.f k).bind fun t724 => (some t724)) else (some false)) else (some false)) else (some false)))) else (none)) else (none))
end
def verditerlaw08_secretWrongs.f (k : Nat) (l0 : List (S43)) (a1 : Int) : Option (Bool) := (verditerlaw08_Long.f l0).bind fun t708 => (if t708 = true then ((verditerlaw08_known.f k).bind fun t709 => (some t709)) else ((verditerref08_Wrong.f k l0 a1).bind fun bt710 => ((secret_Wrong.f k l0 a1).bind fun bt713 => (if bt713.1 = bt710.1 then (if (bt713.2.1 != bt710.2.1) = true then (verditerlaw08_secretWrongs.j0 k l0 a1 bt713.1 bt713.2.1 true) else (verditerlaw08_secretWrongs.j0 k l0 a1 bt713.1 bt713.2.1 (bt713.2.2 != bt710.2.2))) else (verditerlaw08_secretWrongs.j0 k l0 a1 bt713.1 bt713.2.1 true)))))
theorem verditerlaw08_secretWrongs.mono_l : ∀ k, (∀ y0 y1 y2 y3 y4, LeO (verditerlaw08_secretWrongs.j0 k y0 y1 y2 y3 y4) (verditerlaw08_secretWrongs.j0 (k + 1) y0 y1 y2 y3 y4)) ∧ (∀ y0 y1 y2 y3, LeO (verditerlaw08_secretWrongs.j1 k y0 y1 y2 y3) (verditerlaw08_secretWrongs.j1 (k + 1) y0 y1 y2 y3))
  | 0 => ⟨fun _ _ _ _ _ r h => by simp [verditerlaw08_secretWrongs.j0] at h, fun _ _ _ _ r h => by simp [verditerlaw08_secretWrongs.j1] at h⟩
  | k + 1 => by
    obtain ⟨ih0, ih1⟩ := verditerlaw08_secretWrongs.mono_l k
    refine ⟨?_, ?_⟩
    · intro y0 y1 y2 y3 y4
      unfold verditerlaw08_secretWrongs.j0
      repeat' first
      | (with_reducible exact ih0 _ _ _ _ _)
      | (with_reducible exact ih1 _ _ _ _)
      | (with_reducible exact secret_Wrong.mono _ _ _)
      | (with_reducible exact verditerlaw08_known.mono _)
      | (with_reducible exact verditerref08_Wrong.mono _ _ _)
      | (with_reducible exact LeO.refl _)
      | (with_reducible exact LeO.none _)
      | (with_reducible refine LeO.ite ?_ ?_)
      | (with_reducible refine LeO.bind ?_ (fun _ => ?_))
      | exact ih0 _ _ _ _ _
      | exact ih1 _ _ _ _
      | exact secret_Wrong.mono _ _ _
      | exact verditerlaw08_known.mono _
      | exact verditerref08_Wrong.mono _ _ _
      | exact LeO.none _
      | refine LeO.ite ?_ ?_
      | refine LeO.bind ?_ (fun _ => ?_)
    · intro y0 y1 y2 y3
      unfold verditerlaw08_secretWrongs.j1
      repeat' first
      | (with_reducible exact ih0 _ _ _ _ _)
      | (with_reducible exact ih1 _ _ _ _)
      | (with_reducible exact secret_Wrong.mono _ _ _)
      | (with_reducible exact verditerlaw08_known.mono _)
      | (with_reducible exact verditerref08_Wrong.mono _ _ _)
      | (with_reducible exact LeO.refl _)
      | (with_reducible exact LeO.none _)
      | (with_reducible refine LeO.ite ?_ ?_)
      | (with_reducible refine LeO.bind ?_ (fun _ => ?_))
      | exact ih0 _ _ _ _ _
      | exact ih1 _ _ _ _
      | exact secret_Wrong.mono _ _ _
      | exact verditerlaw08_known.mono _
      | exact verditerref08_Wrong.mono _ _ _
      | exact LeO.none _
      | refine LeO.ite ?_ ?_
      | refine LeO.bind ?_ (fun _ => ?_)
theorem verditerlaw08_secretWrongs.mono : ∀ a0 a1 k, LeO (verditerlaw08_secretWrongs.f k a0 a1) (verditerlaw08_secretWrongs.f (k + 1) a0 a1) := by
  intro a0 a1 k
  obtain ⟨ih0, ih1⟩ := verditerlaw08_secretWrongs.mono_l k
  unfold verditerlaw08_secretWrongs.f
  repeat' first
      | (with_reducible exact ih0 _ _ _ _ _)
      | (with_reducible exact ih1 _ _ _ _)
      | (with_reducible exact secret_Wrong.mono _ _ _)
      | (with_reducible exact verditerlaw08_known.mono _)
      | (with_reducible exact verditerref08_Wrong.mono _ _ _)
      | (with_reducible exact LeO.refl _)
      | (with_reducible exact LeO.none _)
      | (with_reducible refine LeO.ite ?_ ?_)
      | (with_reducible refine LeO.bind ?_ (fun _ => ?_))
      | exact ih0 _ _ _ _ _
      | exact ih1 _ _ _ _
      | exact secret_Wrong.mono _ _ _
      | exact verditerlaw08_known.mono _
      | exact verditerref08_Wrong.mono _ _ _
      | exact LeO.none _
      | refine LeO.ite ?_ ?_
      | refine LeO.bind ?_ (fun _ => ?_)
set_option maxHeartbeats 8000000 in
set_option maxRecDepth 100000 in
theorem verditerlaw08_secretWrongs.calls (k : Nat) (A0 : Option Addr) (c0 : Nat) (l0 : List (S43)) (a1 : Int) (r : Bool) (w : World) (hr0 : Kd.C k43 w A0 l0.length l0) (hc0 : l0.length ≤ c0) (h : verditerlaw08_secretWrongs.f k l0 a1 = some r) :
    Calls Try.prog 38 #[.slice A0 l0.length c0, .int .i64 a1] w fun e w' => e = .returned (.bool r) ∧ Below w.heap.size w w' := by
  have HR0 := Aside0.mk hr0
  have HC0 := Aside0.mk hc0
  clear hr0 hc0
  have HB := Aside0.mk (Below.refl w.heap.size w)
  have H : ((verditerlaw08_Long.f l0).bind fun t708 => (if t708 = true then ((verditerlaw08_known.f k).bind fun t709 => (some t709)) else ((verditerref08_Wrong.f k l0 a1).bind fun bt710 => ((secret_Wrong.f k l0 a1).bind fun bt713 => (if bt713.1 = bt710.1 then (if (bt713.2.1 != bt710.2.1) = true then (verditerlaw08_secretWrongs.j0 k l0 a1 bt713.1 bt713.2.1 true) else (verditerlaw08_secretWrongs.j0 k l0 a1 bt713.1 bt713.2.1 (bt713.2.2 != bt710.2.2))) else (verditerlaw08_secretWrongs.j0 k l0 a1 bt713.1 bt713.2.1 true)))))) = some r := h
  clear h
  replace H := Option.bind_eq_some_iff.mp H
  obtain ⟨t708, A30, H⟩ := H
  replace H : (if t708 = true then ((verditerlaw08_known.f k).bind fun t709 => (some t709)) else ((verditerref08_Wrong.f k l0 a1).bind fun bt710 => ((secret_Wrong.f k l0 a1).bind fun bt713 => (if bt713.1 = bt710.1 then (if (bt713.2.1 != bt710.2.1) = true then (verditerlaw08_secretWrongs.j0 k l0 a1 bt713.1 bt713.2.1 true) else (verditerlaw08_secretWrongs.j0 k l0 a1 bt713.1 bt713.2.1 (bt713.2.2 != bt710.2.2))) else (verditerlaw08_secretWrongs.j0 k l0 a1 bt713.1 bt713.2.1 true))))) = some r := H
  have A3 := Aside0.mk A30
  clear A30
  by_cases c4 : t708 = true
  · subst c4
    have H1 : ((verditerlaw08_known.f k).bind fun t709 => (some t709)) = some r := by rw [if_pos rfl] at H; exact H
    clear H
    have H := H1
    clear H1
    replace H := Option.bind_eq_some_iff.mp H
    obtain ⟨t709, A50, H⟩ := H
    replace H : (some t709) = some r := H
    have A5 := Aside0.mk A50
    clear A50
    obtain rfl := Option.some.inj H
    go_enter Try.func38, Try.ntmps38
    go_wp2_with (first | ((with_reducible refine gate_callee (f := 39) rfl ?_); refine goesL_ (some 16) rfl rfl Try.func39 (by kernel_rfl) rfl #[.slice A0 l0.length c0] rfl (by (try simp only [List.map_toArray, List.map_cons, List.map_nil]); first | done | rfl | (simp only [List.length_drop, List.length_take]; rfl)) ?_; (with_reducible refine (verditerlaw08_Long.calls _ _ l0 true _ ?side1 ?side2 A3.out).mono ?_); (case side1 => repeat (first | exact HR0.out | (with_reducible refine Kd.C_alloc ?_ _) | (with_reducible refine Kd.C_drewN ?_ _) | (with_reducible refine Kd.C_drew ?_))); (case side2 => exact HC0.out); rintro e w' ⟨rfl, ⟨nd, rfl⟩⟩; refine ⟨_, rfl, ?_⟩) | ((with_reducible refine gate_callee (f := 40) rfl ?_); refine goesL_ (some 17) rfl rfl Try.func40 (by kernel_rfl) rfl #[] rfl (by (try simp only [List.map_toArray, List.map_cons, List.map_nil]); first | done | rfl | (simp only [List.length_drop, List.length_take]; rfl)) ?_; (with_reducible refine (verditerlaw08_known.calls k  t709 _ A5.out).mono ?_); rintro e w6 ⟨rfl, hb⟩; refine ⟨_, rfl, ?_⟩; have n0_ := Aside0.mk (below_step (by repeat (first | (with_reducible first | exact HB.out | apply below_alloc | apply pw_below_drewN | apply below_drew1) | exact HB.out)) hb); clear HB; have HB := n0_; clear n0_; (try clear hb); (try clear hb2); (try clear hk); (try clear hi)))
    go_ret
    exact ⟨by first | rfl | (simp [errW_none, errW_some] <;> rfl) | (simp [*, errW_none, errW_some] <;> rfl), by repeat (first | (with_reducible first | exact HB.out | apply below_alloc | apply pw_below_drewN | apply below_drew1) | exact HB.out)⟩
  · replace c4 := Bool.eq_false_iff.mpr c4
    subst c4
    have H1 : ((verditerref08_Wrong.f k l0 a1).bind fun bt710 => ((secret_Wrong.f k l0 a1).bind fun bt713 => (if bt713.1 = bt710.1 then (if (bt713.2.1 != bt710.2.1) = true then (verditerlaw08_secretWrongs.j0 k l0 a1 bt713.1 bt713.2.1 true) else (verditerlaw08_secretWrongs.j0 k l0 a1 bt713.1 bt713.2.1 (bt713.2.2 != bt710.2.2))) else (verditerlaw08_secretWrongs.j0 k l0 a1 bt713.1 bt713.2.1 true)))) = some r := by rw [if_neg (show ¬ (false = true) by decide)] at H; exact H
    clear H
    have H := H1
    clear H1
    replace H := Option.bind_eq_some_iff.mp H
    obtain ⟨⟨t710, t711, t712⟩, A70, H⟩ := H
    replace H : ((secret_Wrong.f k l0 a1).bind fun bt713 => (if bt713.1 = t710 then (if (bt713.2.1 != t711) = true then (verditerlaw08_secretWrongs.j0 k l0 a1 bt713.1 bt713.2.1 true) else (verditerlaw08_secretWrongs.j0 k l0 a1 bt713.1 bt713.2.1 (bt713.2.2 != t712))) else (verditerlaw08_secretWrongs.j0 k l0 a1 bt713.1 bt713.2.1 true))) = some r := H
    have A7 := Aside0.mk A70
    clear A70
    replace H := Option.bind_eq_some_iff.mp H
    obtain ⟨⟨t713, t714, t715⟩, A80, H⟩ := H
    replace H : (if t713 = t710 then (if (t714 != t711) = true then (verditerlaw08_secretWrongs.j0 k l0 a1 t713 t714 true) else (verditerlaw08_secretWrongs.j0 k l0 a1 t713 t714 (t715 != t712))) else (verditerlaw08_secretWrongs.j0 k l0 a1 t713 t714 true)) = some r := H
    have A8 := Aside0.mk A80
    clear A80
    have HC9 := Aside0.mk H
    clear H
    go_enter Try.func38, Try.ntmps38
    go_upto_region 5 with (first | ((with_reducible refine gate_callee (f := 39) rfl ?_); refine goesL_ (some 16) rfl rfl Try.func39 (by kernel_rfl) rfl #[.slice A0 l0.length c0] rfl (by (try simp only [List.map_toArray, List.map_cons, List.map_nil]); first | done | rfl | (simp only [List.length_drop, List.length_take]; rfl)) ?_; (with_reducible refine (verditerlaw08_Long.calls _ _ l0 false _ ?side1 ?side2 A3.out).mono ?_); (case side1 => repeat (first | exact HR0.out | (with_reducible refine Kd.C_alloc ?_ _) | (with_reducible refine Kd.C_drewN ?_ _) | (with_reducible refine Kd.C_drew ?_))); (case side2 => exact HC0.out); rintro e w' ⟨rfl, ⟨nd, rfl⟩⟩; refine ⟨_, rfl, ?_⟩) | ((with_reducible refine gate_callee (f := 74) rfl ?_); refine goesL_ (some 21) rfl rfl Try.func74 (by kernel_rfl) rfl #[.slice A0 l0.length c0, .int .i64 a1] rfl (by (try simp only [List.map_toArray, List.map_cons, List.map_nil]); first | done | rfl | (simp only [List.length_drop, List.length_take]; rfl)) ?_; (with_reducible refine (verditerref08_Wrong.calls k _ _ l0 a1 t710 t711 t712 _ ?side1 ?side2 A7.out).mono ?_); (case side1 => repeat (first | exact HR0.out | (with_reducible refine Kd.C_alloc ?_ _) | (with_reducible refine Kd.C_drewN ?_ _) | (with_reducible refine Kd.C_drew ?_))); (case side2 => exact HC0.out); rintro e w10 ⟨rfl, hb⟩; refine ⟨_, rfl, ?_⟩; have n0_ := Aside0.mk (below_step (by repeat (first | (with_reducible first | exact HB.out | apply below_alloc | apply pw_below_drewN | apply below_drew1) | exact HB.out)) hb); clear HB; have HB := n0_; clear n0_; (try clear hb); (try clear hb2); (try clear hk); (try clear hi)) | ((with_reducible refine gate_callee (f := 73) rfl ?_); refine goesL_ (some 28) rfl rfl Try.func73 (by kernel_rfl) rfl #[.slice A0 l0.length c0, .int .i64 a1] rfl (by (try simp only [List.map_toArray, List.map_cons, List.map_nil]); first | done | rfl | (simp only [List.length_drop, List.length_take]; rfl)) ?_; (with_reducible refine (secret_Wrong.calls k _ _ l0 a1 t713 t714 t715 _ ?side1 ?side2 A8.out).mono ?_); (case side1 => repeat (first | exact (Kd.C_below HR0.out HB.out) | (with_reducible refine Kd.C_alloc ?_ _) | (with_reducible refine Kd.C_drewN ?_ _) | (with_reducible refine Kd.C_drew ?_))); (case side2 => exact HC0.out); rintro e w11 ⟨rfl, hb⟩; refine ⟨_, rfl, ?_⟩; have n0_ := Aside0.mk (below_step (by repeat (first | (with_reducible first | exact HB.out | apply below_alloc | apply pw_below_drewN | apply below_drew1) | exact HB.out)) hb); clear HB; have HB := n0_; clear n0_; (try clear hb); (try clear hb2); (try clear hk); (try clear hi)))
    (try simp only [Act.put, List.setIfInBounds_toArray, List.set_cons_zero, List.set_cons_succ])
    go_cut [44] (fun v44 wc => ∃ (kq : Nat) (x44_8 : Bool), v44 = .bool x44_8 ∧ Aside0 (verditerlaw08_secretWrongs.j0 kq l0 a1 t713 t714 x44_8 = some r) ∧ Aside0 (kq ≤ k) ∧ Aside0 (Below w.heap.size w wc))
    case first =>
      have H := HC9.out
      clear HC9
      by_cases c12 : t713 = t710
      · rw [if_pos c12] at H
        have c12b0 : (t713 == t710) = true := beq_iff_eq.mpr c12
        have c12b1 : (t713 != t710) = false := bne_eq_false_iff_eq.mpr c12
        clear c12
        (first | rw [c12b0] | (simp only [i64_w, i32_w]; rw [c12b0]) | skip)
        by_cases c13 : (t714 != t711) = true
        · rw [if_pos c13] at H
          have c13b0 : (t714 != t711) = true := c13
          (try (have c13b1 : decide (t714 = t711) = false := by simpa using c13))
          (try (have c13b2 : (t714 == t711) = false := by simpa using c13))
          (try (have c13b3 : ¬ (t714 = t711) := by simpa using c13))
          clear c13
          have H' := Aside0.mk H
          clear H
          go_wp2
          go_meet
          case rel => exact ⟨_, (true), (by first | rfl | (simp; done) | (simp [*]; done)), H', ⟨by first | omega | exact Nat.le_refl _⟩, ⟨by repeat (first | (with_reducible first | exact HB.out | apply below_alloc | apply pw_below_drewN | apply below_drew1) | exact HB.out)⟩⟩
        · rw [if_neg c13] at H
          have c13b0 : (t714 != t711) = false := by simpa using c13
          (try (have c13b1 : decide (t714 = t711) = true := by simpa using c13))
          (try (have c13b2 : (t714 == t711) = true := by simpa using c13))
          clear c13
          have H' := Aside0.mk H
          clear H
          go_wp2
          go_meet
          case rel => exact ⟨_, ((t715 != t712)), (by first | rfl | (simp; done) | (simp [*]; done)), H', ⟨by first | omega | exact Nat.le_refl _⟩, ⟨by repeat (first | (with_reducible first | exact HB.out | apply below_alloc | apply pw_below_drewN | apply below_drew1) | exact HB.out)⟩⟩
      · rw [if_neg c12] at H
        have c12b0 : (t713 == t710) = false := beq_eq_false_iff_ne.mpr c12
        have c12b1 : (t713 != t710) = true := bne_iff_ne.mpr c12
        (first | rw [c12b0] | (simp only [i64_w, i32_w]; rw [c12b0]) | skip)
        have H' := Aside0.mk H
        clear H
        go_wp2
        go_meet
        case rel => exact ⟨_, (true), (by first | rfl | (simp; done) | (simp [*]; done)), H', ⟨by first | omega | exact Nat.le_refl _⟩, ⟨by repeat (first | (with_reducible first | exact HB.out | apply below_alloc | apply pw_below_drewN | apply below_drew1) | exact HB.out)⟩⟩
    case rest =>
      clear HC9
      try clear c1
      try clear p2
      try clear c3
      try clear c4
      try clear c7
      try clear c12
      try clear c12b0
      try clear c12b1
      try clear c13
      try clear c13b0
      try clear c13b1
      try clear c13b2
      obtain ⟨kq, x44_8, rfl, HA, HJ8, HB⟩ := hcut
      cases kq with
      | zero => exact absurd HA.out (by simp [verditerlaw08_secretWrongs.j0])
      | succ kj8 =>
        have H := HA.out
        clear HA
        simp only [verditerlaw08_secretWrongs.j0] at H
        by_cases c14 : x44_8 = true
        · subst c14
          have H1 : (some false) = some r := by rw [if_pos rfl] at H; exact H
          clear H
          have H := H1
          clear H1
          obtain rfl := Option.some.inj H
          go_wp2
          go_ret
          exact ⟨by first | rfl | (simp [errW_none, errW_some] <;> rfl) | (simp [*, errW_none, errW_some] <;> rfl), by repeat (first | (with_reducible first | exact HB.out | apply below_alloc | apply pw_below_drewN | apply below_drew1) | exact HB.out)⟩
        · replace c14 := Bool.eq_false_iff.mpr c14
          subst c14
          have H1 : (if t714 = true then (if t713 < 0 then (verditerlaw08_secretWrongs.j1 kj8 l0 a1 t713 true) else (verditerlaw08_secretWrongs.j1 kj8 l0 a1 t713 (decide (t713 ≥ (l0.length : Int))))) else ((verditerlaw08_known.f kj8).bind fun t716 => (some t716))) = some r := by rw [if_neg (show ¬ (false = true) by decide)] at H; exact H
          clear H
          have H := H1
          clear H1
          by_cases c15 : t714 = true
          · subst c15
            have H1 : (if t713 < 0 then (verditerlaw08_secretWrongs.j1 kj8 l0 a1 t713 true) else (verditerlaw08_secretWrongs.j1 kj8 l0 a1 t713 (decide (t713 ≥ (l0.length : Int))))) = some r := by rw [if_pos rfl] at H; exact H
            clear H
            have H := H1
            clear H1
            have HC16 := Aside0.mk H
            clear H
            go_upto_region 9 with (fail)
            go_cut [55] (fun v55 wc => ∃ (kq : Nat) (x55_15 : Bool), v55 = .bool x55_15 ∧ Aside0 (verditerlaw08_secretWrongs.j1 kq l0 a1 t713 x55_15 = some r) ∧ Aside0 (kq ≤ kj8) ∧ Aside0 (Below w.heap.size w wc))
            case first =>
              have H := HC16.out
              clear HC16
              by_cases c17 : t713 < 0
              · rw [if_pos c17] at H
                have c17b0 : decide (t713 < 0) = true := decide_eq_true c17
                clear c17
                (first | rw [c17b0] | (simp only [i64_w, i32_w]; rw [c17b0]) | skip)
                have H' := Aside0.mk H
                clear H
                go_wp2
                go_meet
                case rel => exact ⟨_, (true), (by first | rfl | (simp; done) | (simp [*]; done)), H', ⟨by have := HJ8.out; first | omega | exact Nat.le_refl _⟩, ⟨by repeat (first | (with_reducible first | exact HB.out | apply below_alloc | apply pw_below_drewN | apply below_drew1) | exact HB.out)⟩⟩
              · rw [if_neg c17] at H
                have c17b0 : decide (t713 < 0) = false := decide_eq_false c17
                clear c17
                (first | rw [c17b0] | (simp only [i64_w, i32_w]; rw [c17b0]) | skip)
                have H' := Aside0.mk H
                clear H
                go_wp2
                go_meet
                case rel => exact ⟨_, (decide (t713 ≥ (l0.length : Int))), (by first | rfl | (simp; done) | (simp [*]; done)), H', ⟨by have := HJ8.out; first | omega | exact Nat.le_refl _⟩, ⟨by repeat (first | (with_reducible first | exact HB.out | apply below_alloc | apply pw_below_drewN | apply below_drew1) | exact HB.out)⟩⟩
            case rest =>
              clear HC16
              try clear c1
              try clear p2
              try clear c3
              try clear c4
              try clear c7
              try clear c12
              try clear c12b0
              try clear c12b1
              try clear c13
              try clear c13b0
              try clear c13b1
              try clear c13b2
              try clear c14
              try clear c15
              try clear c17
              try clear c17b0
              try clear p2
              obtain ⟨kq, x55_15, rfl, HA, HJ15, HB⟩ := hcut
              cases kq with
              | zero => exact absurd HA.out (by simp [verditerlaw08_secretWrongs.j1])
              | succ kj15 =>
                have H := HA.out
                clear HA
                simp only [verditerlaw08_secretWrongs.j1] at H
                by_cases c18 : x55_15 = true
                · subst c18
                  have H1 : (some false) = some r := by rw [if_pos rfl] at H; exact H
                  clear H
                  have H := H1
                  clear H1
                  obtain rfl := Option.some.inj H
                  go_wp2
                  go_ret
                  exact ⟨by first | rfl | (simp [errW_none, errW_some] <;> rfl) | (simp [*, errW_none, errW_some] <;> rfl), by repeat (first | (with_reducible first | exact HB.out | apply below_alloc | apply pw_below_drewN | apply below_drew1) | exact HB.out)⟩
                · replace c18 := Bool.eq_false_iff.mpr c18
                  subst c18
                  have H1 : (if 0 ≤ t713 then (if t713 < (l0.length : Int) then ((secret_Without.f l0 ((rd_T43 l0 t713).f0)).bind fun bt718 => ((secret_LieOn.f bt718.1 a1).bind fun bt722 => (if bt718.2 = 0 then (if bt722.2 = 0 then (if bt722.1 = true then ((verditerlaw08_known.f kj15).bind fun t724 => (some t724)) else (some false)) else (some false)) else (some false)))) else (none)) else (none)) = some r := by rw [if_neg (show ¬ (false = true) by decide)] at H; exact H
                  clear H
                  have H := H1
                  clear H1
                  by_cases c19 : 0 ≤ t713
                  · rw [if_pos c19] at H
                    have c19b0 : decide (0 ≤ t713) = true := decide_eq_true c19
                    clear c19
                    by_cases c20 : t713 < (l0.length : Int)
                    · rw [if_pos c20] at H
                      have c20b0 : decide (t713 < (l0.length : Int)) = true := decide_eq_true c20
                      clear c20
                      replace H := Option.bind_eq_some_iff.mp H
                      obtain ⟨⟨t718, t719⟩, A210, H⟩ := H
                      replace H : ((secret_LieOn.f t718 a1).bind fun bt722 => (if t719 = 0 then (if bt722.2 = 0 then (if bt722.1 = true then ((verditerlaw08_known.f kj15).bind fun t724 => (some t724)) else (some false)) else (some false)) else (some false))) = some r := H
                      have A21 := Aside0.mk A210
                      clear A210
                      replace H := Option.bind_eq_some_iff.mp H
                      obtain ⟨⟨t722, t723⟩, A220, H⟩ := H
                      replace H : (if t719 = 0 then (if t723 = 0 then (if t722 = true then ((verditerlaw08_known.f kj15).bind fun t724 => (some t724)) else (some false)) else (some false)) else (some false)) = some r := H
                      have A22 := Aside0.mk A220
                      clear A220
                      by_cases c23 : t719 = 0
                      · rw [if_pos c23] at H
                        have c23b0 : (t719 == 0) = true := beq_iff_eq.mpr c23
                        have c23b1 : (t719 != 0) = false := bne_eq_false_iff_eq.mpr c23
                        clear c23
                        by_cases c24 : t723 = 0
                        · rw [if_pos c24] at H
                          have c24b0 : (t723 == 0) = true := beq_iff_eq.mpr c24
                          have c24b1 : (t723 != 0) = false := bne_eq_false_iff_eq.mpr c24
                          clear c24
                          by_cases c25 : t722 = true
                          · subst c25
                            have H1 : ((verditerlaw08_known.f kj15).bind fun t724 => (some t724)) = some r := by rw [if_pos rfl] at H; exact H
                            clear H
                            have H := H1
                            clear H1
                            replace H := Option.bind_eq_some_iff.mp H
                            obtain ⟨t724, A260, H⟩ := H
                            replace H : (some t724) = some r := H
                            have A26 := Aside0.mk A260
                            clear A260
                            obtain rfl := Option.some.inj H
                            have p717 : 0 ≤ (t713 : Int) := of_decide_eq_true (by first | (with_reducible assumption) | assumption)
                            have q717 : t713 < (l0.length : Int) := of_decide_eq_true (by first | (with_reducible assumption) | assumption)
                            obtain ⟨ad717, e717, hx717_0, hx717_1⟩ := at_T43 HR0.out t713 p717 q717
                            cases e717
                            replace hx717_0 := (HB.out.cell (World.block_lt_of_cell? w _ hx717_0)).trans hx717_0
                            replace hx717_1 := (HB.out.cell (World.block_lt_of_cell? w _ hx717_1)).trans hx717_1
                            replace p717 := eq_true p717
                            replace q717 := eq_true q717
                            go_wp2_with (first | ((with_reducible refine gate_callee (f := 62) rfl ?_); refine goesL_ (some 63) rfl rfl Try.func62 (by kernel_rfl) rfl #[.slice (some ad717) l0.length c0, .int .i64 ((rd_T43 l0 t713).f0)] rfl (by (try simp only [List.map_toArray, List.map_cons, List.map_nil]); first | done | rfl | (simp only [List.length_drop, List.length_take]; rfl)) ?_; (with_reducible refine (secret_Without.calls _ _ l0 ((rd_T43 l0 t713).f0) t718 t719 _ ?side1 ?side2 A21.out).mono ?_); (case side1 => repeat (first | exact (Kd.C_below HR0.out HB.out) | (with_reducible refine Kd.C_alloc ?_ _) | (with_reducible refine Kd.C_drewN ?_ _) | (with_reducible refine Kd.C_drew ?_))); (case side2 => exact HC0.out); rintro e w27 ⟨v720, rfl, ho0, hb⟩; refine ⟨_, rfl, ?_⟩; have n0_ := Aside0.mk (Kd.R_lower ho0 (below_size (by repeat (first | (with_reducible first | exact HB.out | apply below_alloc | apply pw_below_drewN | apply below_drew1) | exact HB.out)))); have n1_ := Aside0.mk (below_step (by repeat (first | (with_reducible first | exact HB.out | apply below_alloc | apply pw_below_drewN | apply below_drew1) | exact HB.out)) hb); clear HB; have HO721 := n0_; have HB := n1_; clear n0_ n1_; (try clear hb); (try clear hb2); (try clear hk); (try clear hi); (try clear ho0); obtain ⟨Ao28, co28, eo28⟩ := Kd.R_slice HO721.out; subst eo28) | ((with_reducible refine gate_callee (f := 53) rfl ?_); refine goesL_ (some 69) rfl rfl Try.func53 (by kernel_rfl) rfl #[.slice Ao28 t718.length co28, .int .i64 a1] rfl (by (try simp only [List.map_toArray, List.map_cons, List.map_nil]); first | done | rfl | (simp only [List.length_drop, List.length_take]; rfl)) ?_; (with_reducible refine (secret_LieOn.calls _ _ t718 a1 true t723 _ ?side1 ?side2 A22.out).mono ?_); (case side1 => repeat (first | exact (Kd.R_reads' HO721.out).2.2 | (with_reducible refine Kd.C_alloc ?_ _) | (with_reducible refine Kd.C_drewN ?_ _) | (with_reducible refine Kd.C_drew ?_))); (case side2 => exact (Kd.R_reads' HO721.out).2.1); rintro e w29 ⟨rfl, hb⟩; refine ⟨_, rfl, ?_⟩; have n0_ := Aside0.mk (Kd.R_below (by (with_reducible repeat (first | apply Kd.R_alloc | apply Kd.R_drewN | apply Kd.R_drew)); exact HO721.out) hb); have n1_ := Aside0.mk (below_step (by repeat (first | (with_reducible first | exact HB.out | apply below_alloc | apply pw_below_drewN | apply below_drew1) | exact HB.out)) hb); clear HO721; clear HB; have HO721 := n0_; have HB := n1_; clear n0_ n1_; (try clear hb); (try clear hb2); (try clear hk); (try clear hi)) | (go_at_call 40; (with_reducible refine (verditerlaw08_known.calls kj15  t724 _ A26.out).mono ?_); rintro e w30 ⟨rfl, hb⟩; have n0_ := Aside0.mk (Kd.R_below (by (with_reducible repeat (first | apply Kd.R_alloc | apply Kd.R_drewN | apply Kd.R_drew)); exact HO721.out) hb); have n1_ := Aside0.mk (below_step (by repeat (first | (with_reducible first | exact HB.out | apply below_alloc | apply pw_below_drewN | apply below_drew1) | exact HB.out)) hb); clear HO721; clear HB; have HO721 := n0_; have HB := n1_; clear n0_ n1_; (try clear hb); (try clear hb2); (try clear hk); (try clear hi)))
                            go_ret
                            exact ⟨by first | rfl | (simp [errW_none, errW_some] <;> rfl) | (simp [*, errW_none, errW_some] <;> rfl), by repeat (first | (with_reducible first | exact HB.out | apply below_alloc | apply pw_below_drewN | apply below_drew1) | exact HB.out)⟩
                          · replace c25 := Bool.eq_false_iff.mpr c25
                            subst c25
                            have H1 : (some false) = some r := by rw [if_neg (show ¬ (false = true) by decide)] at H; exact H
                            clear H
                            have H := H1
                            clear H1
                            obtain rfl := Option.some.inj H
                            have p717 : 0 ≤ (t713 : Int) := of_decide_eq_true (by first | (with_reducible assumption) | assumption)
                            have q717 : t713 < (l0.length : Int) := of_decide_eq_true (by first | (with_reducible assumption) | assumption)
                            obtain ⟨ad717, e717, hx717_0, hx717_1⟩ := at_T43 HR0.out t713 p717 q717
                            cases e717
                            replace hx717_0 := (HB.out.cell (World.block_lt_of_cell? w _ hx717_0)).trans hx717_0
                            replace hx717_1 := (HB.out.cell (World.block_lt_of_cell? w _ hx717_1)).trans hx717_1
                            replace p717 := eq_true p717
                            replace q717 := eq_true q717
                            go_wp2_with (first | ((with_reducible refine gate_callee (f := 62) rfl ?_); refine goesL_ (some 63) rfl rfl Try.func62 (by kernel_rfl) rfl #[.slice (some ad717) l0.length c0, .int .i64 ((rd_T43 l0 t713).f0)] rfl (by (try simp only [List.map_toArray, List.map_cons, List.map_nil]); first | done | rfl | (simp only [List.length_drop, List.length_take]; rfl)) ?_; (with_reducible refine (secret_Without.calls _ _ l0 ((rd_T43 l0 t713).f0) t718 t719 _ ?side1 ?side2 A21.out).mono ?_); (case side1 => repeat (first | exact (Kd.C_below HR0.out HB.out) | (with_reducible refine Kd.C_alloc ?_ _) | (with_reducible refine Kd.C_drewN ?_ _) | (with_reducible refine Kd.C_drew ?_))); (case side2 => exact HC0.out); rintro e w31 ⟨v720, rfl, ho0, hb⟩; refine ⟨_, rfl, ?_⟩; have n0_ := Aside0.mk (Kd.R_lower ho0 (below_size (by repeat (first | (with_reducible first | exact HB.out | apply below_alloc | apply pw_below_drewN | apply below_drew1) | exact HB.out)))); have n1_ := Aside0.mk (below_step (by repeat (first | (with_reducible first | exact HB.out | apply below_alloc | apply pw_below_drewN | apply below_drew1) | exact HB.out)) hb); clear HB; have HO721 := n0_; have HB := n1_; clear n0_ n1_; (try clear hb); (try clear hb2); (try clear hk); (try clear hi); (try clear ho0); obtain ⟨Ao32, co32, eo32⟩ := Kd.R_slice HO721.out; subst eo32) | ((with_reducible refine gate_callee (f := 53) rfl ?_); refine goesL_ (some 69) rfl rfl Try.func53 (by kernel_rfl) rfl #[.slice Ao32 t718.length co32, .int .i64 a1] rfl (by (try simp only [List.map_toArray, List.map_cons, List.map_nil]); first | done | rfl | (simp only [List.length_drop, List.length_take]; rfl)) ?_; (with_reducible refine (secret_LieOn.calls _ _ t718 a1 false t723 _ ?side1 ?side2 A22.out).mono ?_); (case side1 => repeat (first | exact (Kd.R_reads' HO721.out).2.2 | (with_reducible refine Kd.C_alloc ?_ _) | (with_reducible refine Kd.C_drewN ?_ _) | (with_reducible refine Kd.C_drew ?_))); (case side2 => exact (Kd.R_reads' HO721.out).2.1); rintro e w33 ⟨rfl, hb⟩; refine ⟨_, rfl, ?_⟩; have n0_ := Aside0.mk (Kd.R_below (by (with_reducible repeat (first | apply Kd.R_alloc | apply Kd.R_drewN | apply Kd.R_drew)); exact HO721.out) hb); have n1_ := Aside0.mk (below_step (by repeat (first | (with_reducible first | exact HB.out | apply below_alloc | apply pw_below_drewN | apply below_drew1) | exact HB.out)) hb); clear HO721; clear HB; have HO721 := n0_; have HB := n1_; clear n0_ n1_; (try clear hb); (try clear hb2); (try clear hk); (try clear hi)))
                            go_ret
                            exact ⟨by first | rfl | (simp [errW_none, errW_some] <;> rfl) | (simp [*, errW_none, errW_some] <;> rfl), by repeat (first | (with_reducible first | exact HB.out | apply below_alloc | apply pw_below_drewN | apply below_drew1) | exact HB.out)⟩
                        · rw [if_neg c24] at H
                          have c24b0 : (t723 == 0) = false := beq_eq_false_iff_ne.mpr c24
                          have c24b1 : (t723 != 0) = true := bne_iff_ne.mpr c24
                          obtain rfl := Option.some.inj H
                          have p717 : 0 ≤ (t713 : Int) := of_decide_eq_true (by first | (with_reducible assumption) | assumption)
                          have q717 : t713 < (l0.length : Int) := of_decide_eq_true (by first | (with_reducible assumption) | assumption)
                          obtain ⟨ad717, e717, hx717_0, hx717_1⟩ := at_T43 HR0.out t713 p717 q717
                          cases e717
                          replace hx717_0 := (HB.out.cell (World.block_lt_of_cell? w _ hx717_0)).trans hx717_0
                          replace hx717_1 := (HB.out.cell (World.block_lt_of_cell? w _ hx717_1)).trans hx717_1
                          replace p717 := eq_true p717
                          replace q717 := eq_true q717
                          go_wp2_with (first | ((with_reducible refine gate_callee (f := 62) rfl ?_); refine goesL_ (some 63) rfl rfl Try.func62 (by kernel_rfl) rfl #[.slice (some ad717) l0.length c0, .int .i64 ((rd_T43 l0 t713).f0)] rfl (by (try simp only [List.map_toArray, List.map_cons, List.map_nil]); first | done | rfl | (simp only [List.length_drop, List.length_take]; rfl)) ?_; (with_reducible refine (secret_Without.calls _ _ l0 ((rd_T43 l0 t713).f0) t718 t719 _ ?side1 ?side2 A21.out).mono ?_); (case side1 => repeat (first | exact (Kd.C_below HR0.out HB.out) | (with_reducible refine Kd.C_alloc ?_ _) | (with_reducible refine Kd.C_drewN ?_ _) | (with_reducible refine Kd.C_drew ?_))); (case side2 => exact HC0.out); rintro e w34 ⟨v720, rfl, ho0, hb⟩; refine ⟨_, rfl, ?_⟩; have n0_ := Aside0.mk (Kd.R_lower ho0 (below_size (by repeat (first | (with_reducible first | exact HB.out | apply below_alloc | apply pw_below_drewN | apply below_drew1) | exact HB.out)))); have n1_ := Aside0.mk (below_step (by repeat (first | (with_reducible first | exact HB.out | apply below_alloc | apply pw_below_drewN | apply below_drew1) | exact HB.out)) hb); clear HB; have HO721 := n0_; have HB := n1_; clear n0_ n1_; (try clear hb); (try clear hb2); (try clear hk); (try clear hi); (try clear ho0); obtain ⟨Ao35, co35, eo35⟩ := Kd.R_slice HO721.out; subst eo35) | ((with_reducible refine gate_callee (f := 53) rfl ?_); refine goesL_ (some 69) rfl rfl Try.func53 (by kernel_rfl) rfl #[.slice Ao35 t718.length co35, .int .i64 a1] rfl (by (try simp only [List.map_toArray, List.map_cons, List.map_nil]); first | done | rfl | (simp only [List.length_drop, List.length_take]; rfl)) ?_; (with_reducible refine (secret_LieOn.calls _ _ t718 a1 t722 t723 _ ?side1 ?side2 A22.out).mono ?_); (case side1 => repeat (first | exact (Kd.R_reads' HO721.out).2.2 | (with_reducible refine Kd.C_alloc ?_ _) | (with_reducible refine Kd.C_drewN ?_ _) | (with_reducible refine Kd.C_drew ?_))); (case side2 => exact (Kd.R_reads' HO721.out).2.1); rintro e w36 ⟨rfl, hb⟩; refine ⟨_, rfl, ?_⟩; have n0_ := Aside0.mk (Kd.R_below (by (with_reducible repeat (first | apply Kd.R_alloc | apply Kd.R_drewN | apply Kd.R_drew)); exact HO721.out) hb); have n1_ := Aside0.mk (below_step (by repeat (first | (with_reducible first | exact HB.out | apply below_alloc | apply pw_below_drewN | apply below_drew1) | exact HB.out)) hb); clear HO721; clear HB; have HO721 := n0_; have HB := n1_; clear n0_ n1_; (try clear hb); (try clear hb2); (try clear hk); (try clear hi)))
                          go_ret
                          exact ⟨by first | rfl | (simp [errW_none, errW_some] <;> rfl) | (simp [*, errW_none, errW_some] <;> rfl), by repeat (first | (with_reducible first | exact HB.out | apply below_alloc | apply pw_below_drewN | apply below_drew1) | exact HB.out)⟩
                      · rw [if_neg c23] at H
                        have c23b0 : (t719 == 0) = false := beq_eq_false_iff_ne.mpr c23
                        have c23b1 : (t719 != 0) = true := bne_iff_ne.mpr c23
                        obtain rfl := Option.some.inj H
                        have p717 : 0 ≤ (t713 : Int) := of_decide_eq_true (by first | (with_reducible assumption) | assumption)
                        have q717 : t713 < (l0.length : Int) := of_decide_eq_true (by first | (with_reducible assumption) | assumption)
                        obtain ⟨ad717, e717, hx717_0, hx717_1⟩ := at_T43 HR0.out t713 p717 q717
                        cases e717
                        replace hx717_0 := (HB.out.cell (World.block_lt_of_cell? w _ hx717_0)).trans hx717_0
                        replace hx717_1 := (HB.out.cell (World.block_lt_of_cell? w _ hx717_1)).trans hx717_1
                        replace p717 := eq_true p717
                        replace q717 := eq_true q717
                        go_wp2_with (first | ((with_reducible refine gate_callee (f := 62) rfl ?_); refine goesL_ (some 63) rfl rfl Try.func62 (by kernel_rfl) rfl #[.slice (some ad717) l0.length c0, .int .i64 ((rd_T43 l0 t713).f0)] rfl (by (try simp only [List.map_toArray, List.map_cons, List.map_nil]); first | done | rfl | (simp only [List.length_drop, List.length_take]; rfl)) ?_; (with_reducible refine (secret_Without.calls _ _ l0 ((rd_T43 l0 t713).f0) t718 t719 _ ?side1 ?side2 A21.out).mono ?_); (case side1 => repeat (first | exact (Kd.C_below HR0.out HB.out) | (with_reducible refine Kd.C_alloc ?_ _) | (with_reducible refine Kd.C_drewN ?_ _) | (with_reducible refine Kd.C_drew ?_))); (case side2 => exact HC0.out); rintro e w37 ⟨v720, rfl, ho0, hb⟩; refine ⟨_, rfl, ?_⟩; have n0_ := Aside0.mk (Kd.R_lower ho0 (below_size (by repeat (first | (with_reducible first | exact HB.out | apply below_alloc | apply pw_below_drewN | apply below_drew1) | exact HB.out)))); have n1_ := Aside0.mk (below_step (by repeat (first | (with_reducible first | exact HB.out | apply below_alloc | apply pw_below_drewN | apply below_drew1) | exact HB.out)) hb); clear HB; have HO721 := n0_; have HB := n1_; clear n0_ n1_; (try clear hb); (try clear hb2); (try clear hk); (try clear hi); (try clear ho0); obtain ⟨Ao38, co38, eo38⟩ := Kd.R_slice HO721.out; subst eo38) | ((with_reducible refine gate_callee (f := 53) rfl ?_); refine goesL_ (some 69) rfl rfl Try.func53 (by kernel_rfl) rfl #[.slice Ao38 t718.length co38, .int .i64 a1] rfl (by (try simp only [List.map_toArray, List.map_cons, List.map_nil]); first | done | rfl | (simp only [List.length_drop, List.length_take]; rfl)) ?_; (with_reducible refine (secret_LieOn.calls _ _ t718 a1 t722 t723 _ ?side1 ?side2 A22.out).mono ?_); (case side1 => repeat (first | exact (Kd.R_reads' HO721.out).2.2 | (with_reducible refine Kd.C_alloc ?_ _) | (with_reducible refine Kd.C_drewN ?_ _) | (with_reducible refine Kd.C_drew ?_))); (case side2 => exact (Kd.R_reads' HO721.out).2.1); rintro e w39 ⟨rfl, hb⟩; refine ⟨_, rfl, ?_⟩; have n0_ := Aside0.mk (Kd.R_below (by (with_reducible repeat (first | apply Kd.R_alloc | apply Kd.R_drewN | apply Kd.R_drew)); exact HO721.out) hb); have n1_ := Aside0.mk (below_step (by repeat (first | (with_reducible first | exact HB.out | apply below_alloc | apply pw_below_drewN | apply below_drew1) | exact HB.out)) hb); clear HO721; clear HB; have HO721 := n0_; have HB := n1_; clear n0_ n1_; (try clear hb); (try clear hb2); (try clear hk); (try clear hi)))
                        go_ret
                        exact ⟨by first | rfl | (simp [errW_none, errW_some] <;> rfl) | (simp [*, errW_none, errW_some] <;> rfl), by repeat (first | (with_reducible first | exact HB.out | apply below_alloc | apply pw_below_drewN | apply below_drew1) | exact HB.out)⟩
                    · rw [if_neg c20] at H
                      exact absurd H (by simp)
                  · rw [if_neg c19] at H
                    exact absurd H (by simp)
          · replace c15 := Bool.eq_false_iff.mpr c15
            subst c15
            have H1 : ((verditerlaw08_known.f kj8).bind fun t716 => (some t716)) = some r := by rw [if_neg (show ¬ (false = true) by decide)] at H; exact H
            clear H
            have H := H1
            clear H1
            replace H := Option.bind_eq_some_iff.mp H
            obtain ⟨t716, A400, H⟩ := H
            replace H : (some t716) = some r := H
            have A40 := Aside0.mk A400
            clear A400
            obtain rfl := Option.some.inj H
            go_wp2_with (first | ((with_reducible refine gate_callee (f := 40) rfl ?_); refine goesL_ (some 47) rfl rfl Try.func40 (by kernel_rfl) rfl #[] rfl (by (try simp only [List.map_toArray, List.map_cons, List.map_nil]); first | done | rfl | (simp only [List.length_drop, List.length_take]; rfl)) ?_; (with_reducible refine (verditerlaw08_known.calls kj8  t716 _ A40.out).mono ?_); rintro e w41 ⟨rfl, hb⟩; refine ⟨_, rfl, ?_⟩; have n0_ := Aside0.mk (below_step (by repeat (first | (with_reducible first | exact HB.out | apply below_alloc | apply pw_below_drewN | apply below_drew1) | exact HB.out)) hb); clear HB; have HB := n0_; clear n0_; (try clear hb); (try clear hb2); (try clear hk); (try clear hi)))
            go_ret
            exact ⟨by first | rfl | (simp [errW_none, errW_some] <;> rfl) | (simp [*, errW_none, errW_some] <;> rfl), by repeat (first | (with_reducible first | exact HB.out | apply below_alloc | apply pw_below_drewN | apply below_drew1) | exact HB.out)⟩

end Go.Proofs.Ythlbjdiicmojfaa.P

/-! Part Out18. -/
namespace Go.Proofs.Ythlbjdiicmojfaa.P
open Go.RowKit Go.Proofs.YthlbjdiicmojfaaW.PrintWords Go.Proofs.YthlbjdiicmojfaaW.PrintLast Go.Proofs.YthlbjdiicmojfaaW.PrintMore
set_option linter.unusedVariables false

set_option maxHeartbeats 2000000 in
set_option maxRecDepth 100000 in
theorem out18 (k : Nat) (A0 : Option Addr) (n0 : Nat) (zs0 : List S43) (x1 : Int) (w : World) (hr0 : Kd.C k43 w A0 zs0.length zs0) (hn0 : n0 ≤ zs0.length) (hl0 : zs0.length * 16 ≤ 140737488351232)
    (h : verditerlaw08_secretWrongs.f k (zs0.take n0) x1 = some true) :
    Calls Try.prog 18 #[.slice A0 n0 zs0.length, .int .i64 x1] w fun e w' => e = .returned (.bool true) ∧ Below w.heap.size w w' := by
  have hu43 := Try.underlying43
  have HR0 := Aside0.mk hr0
  have hnl0 : (zs0.take n0).length = n0 := by rw [List.length_take]; omega
  have HI := Aside0.mk (fun (w1 : World) (hb : Below w.heap.size w w1) => verditerlaw08_secretWrongs.calls k A0 zs0.length (zs0.take n0) x1 true w1 (Kd.C_take (Kd.C_below hr0 hb) hn0) (by omega) h)
  rw [hnl0] at HI
  have HK0 := Aside0.mk (keepParts A0 n0 zs0 w hr0 hn0 hl0)
  have HN0 := Aside0.mk hn0
  have HB := Aside0.mk (Below.refl w.heap.size w)
  clear h hr0 hnl0 hn0 hl0
  go_enter Try.func18, Try.ntmps18
  go_wp2_with fail
  with_reducible refine HK0.out.mono ?_
  rintro e w1 ⟨v, rfl, hv, hb⟩
  obtain ⟨B0, c0, rfl, hcc0, hc⟩ := Kd.R_reads hv
  have HC0 := Aside0.mk hc
  clear HB; have HB := Aside0.mk hb
  clear hb hc hv
  go_wp2_with fail
  with_reducible refine (HI.out w1 HB.out).mono ?_
  rintro e wi ⟨rfl, hb⟩
  have hcx := Kd.C_below HC0.out hb; clear HC0; have HC0 := Aside0.mk hcx; clear hcx
  have hbx := below_step HB.out hb; clear HB; have HB := Aside0.mk hbx; have HBI := Aside0.mk hbx; clear hbx hb
  go_wp2_with fail
  with_reducible refine (keptParts B0 c0 A0 n0 zs0 _ HC0.out (Kd.C_below HR0.out HB.out) HN0.out).mono ?_
  rintro e wk0 ⟨rfl, ⟨m0, rfl⟩⟩
  have hbx := pw_below_drewN HB.out m0; clear HB; have HB := Aside0.mk hbx; clear hbx
  go_wp2_with fail
  go_ret
  exact ⟨rfl, pw_below_drewN HBI.out _⟩
end Go.Proofs.Ythlbjdiicmojfaa.P

/-! Part Open. -/
namespace Go.Proofs.Ythlbjdiicmojfaa.P
open Go.RowKit Go.Proofs.YthlbjdiicmojfaaW.PrintWords Go.Proofs.YthlbjdiicmojfaaW.PrintLast Go.Proofs.YthlbjdiicmojfaaW.PrintMore
open Go.ChangeShapes Go.WideShapes Go.Deep
set_option linter.unusedVariables false

theorem open_intlist {H : Type} {enc : TypeId × Value → H} {W : World} {base : Nat} {held : Bool} {a : Option Addr} {len cap : Nat} {d : DataW H} {ps : List MemPlace} {ts : List TypeId} {ds : List (DataW H)} {j : Nat}
    (hsz : (DataW.weightsEach Try.prog ts ds).all (· ≤ reachBytes) = true) (ht : ts[j]? = some 26) (hd : ds[j]? = some d)
    (h : DataW.Trod enc Try.prog W base (fun _ => true) held 26 (.slice a len cap) d ps) :
    ∃ zs : List Int, cap = zs.length ∧ len ≤ zs.length ∧ Kd.C (Kd.int .i64) W a zs.length zs ∧ zs.length * 8 ≤ 140737488351232 ∧ ∀ z ∈ zs, (Lit.int .i64 z).wf = true := by
  obtain ⟨fuel, hf⟩ := h
  rcases open_ints Try.underlying26 Try.underlying3 (by kernel_rfl) hf with ⟨hcs, _⟩ | ⟨x, l, c, zs, hcs, _, hl, hm, hz, hx, hcell, hwz⟩
  · simp [Value.cells] at hcs
    obtain ⟨rfl, rfl, rfl⟩ := hcs
    exact ⟨[], rfl, Nat.le_refl _, Kd.C_nil _ _, by simp, by simp⟩
  · simp [Value.cells] at hcs
    obtain ⟨rfl, rfl, rfl⟩ := hcs
    simp only [if_true] at hz
    obtain ⟨hx, _⟩ := Prod.mk.inj hx
    subst hx
    have z := sized_slice hsz ht hd Try.underlying26
    have h1 : (lits (H := H) .i64 (zs.take len)).length + (lits (H := H) .i64 (zs.drop len)).length = zs.length := by
      simp [lits]
      omega
    rw [h1, show Try.prog.bytesOf 3 = 8 by kernel_rfl] at z
    refine ⟨zs, hz.symm, by omega, Kd.C_of_reads (enc := Value.int .i64) (d := (0 : Int)) (h1 := fun _ => rfl) ⟨rfl, by rw [hz]; simp only [maxLen] at hm; omega, fun _ => ⟨x, rfl, fun j hj => ?_⟩⟩, z, hwz⟩
    exact hcell j hj

theorem open_partlist {H : Type} {enc : TypeId × Value → H} {W : World} {base : Nat} {held : Bool} {a : Option Addr} {len cap : Nat} {d : DataW H} {ps : List MemPlace} {ts : List TypeId} {ds : List (DataW H)} {j : Nat}
    (hsz : (DataW.weightsEach Try.prog ts ds).all (· ≤ reachBytes) = true) (ht : ts[j]? = some 22) (hd : ds[j]? = some d)
    (h : DataW.Trod enc Try.prog W base (fun _ => true) held 22 (.slice a len cap) d ps) :
    ∃ zs : List S43, cap = zs.length ∧ len ≤ zs.length ∧ Kd.C k43 W a zs.length zs ∧ zs.length * 16 ≤ 140737488351232 ∧ ∀ z ∈ zs, (Lit.int .i64 z.f0).wf = true ∧ (Lit.int .i64 z.f1).wf = true := by
  obtain ⟨fuel, hf⟩ := h
  rcases open_slice_pairs Try.underlying22 Try.underlying43 (by kernel_rfl) rfl rfl (by kernel_rfl) (by kernel_rfl) hf with ⟨hcs, _⟩ | ⟨x, l, c, m, n, V0, V1, D0, D1, P0, P1, hcs, _, hl, hm, hmm, hx, hi⟩
  · simp [Value.cells] at hcs
    obtain ⟨rfl, rfl, rfl⟩ := hcs
    exact ⟨[], rfl, Nat.le_refl _, Kd.C_nil _ _, by simp, by simp⟩
  · simp [Value.cells] at hcs
    obtain ⟨rfl, rfl, rfl⟩ := hcs
    simp only [if_true] at hmm
    subst hmm
    obtain ⟨hx, _⟩ := Prod.mk.inj hx
    subst hx
    have z := sized_slice hsz ht hd Try.underlying22
    rw [show Try.prog.bytesOf 43 = 16 by kernel_rfl] at z
    simp only [List.length_map, List.length_range] at z
    rw [show len + (m - len) = m by omega] at z
    have key : ∀ i, i < m → ∃ p : S43, (W.cell? (x.add (i * 2)) = some (.int .i64 p.f0) ∧ W.cell? (x.add (i * 2 + 1)) = some (.int .i64 p.f1)) ∧ (Lit.int .i64 p.f0).wf = true ∧ (Lit.int .i64 p.f1).wf = true := by
      intro i him
      obtain ⟨g0, g1, g2, g3⟩ := hi i him
      obtain ⟨a0, e0, _, w0⟩ := DataW.trod_int Try.underlying3 g2
      obtain ⟨a1, e1, _, w1⟩ := DataW.trod_int Try.underlying3 g3
      simp only [List.cons.injEq, and_true] at e0 e1
      exact ⟨⟨a0, a1⟩, ⟨by rw [g0, e0], by rw [g1, e1]⟩, w0, w1⟩
    haveI : Inhabited S43 := ⟨z43⟩
    obtain ⟨q, hq⟩ := choose_lt key
    have hlen : ((List.range m).map q).length = m := by simp
    refine ⟨(List.range m).map q, hlen.symm, by rw [hlen]; exact hl, ⟨rfl, by rw [hlen]; simp only [maxLen] at hm; omega, fun _ => ⟨x, rfl, fun i p hp => ?_⟩⟩, by rw [hlen]; exact z, ?_⟩
    · obtain ⟨him, hpe⟩ := List.getElem?_eq_some_iff.1 hp
      rw [hlen] at him
      simp only [List.getElem_map, List.getElem_range] at hpe
      subst hpe
      refine ⟨[.int .i64 (q i).f0, .int .i64 (q i).f1], rfl, k43_mk _ _, fun j u hu => ?_⟩
      match j, hu with
      | 0, hu => simp at hu; subst hu; exact (hq i him).1.1
      | 1, hu => simp at hu; subst hu; exact (hq i him).1.2
    · intro p hp
      obtain ⟨i, him, rfl⟩ := List.mem_map.1 hp
      exact (hq i (List.mem_range.1 him)).2
end Go.Proofs.Ythlbjdiicmojfaa.P

/-! Part Alg. -/
namespace Ply
theorem inv_ex : ∀ a : Fin 251, a ≠ 0 → ∃ b, a * b = 1 := by
  have h : ∀ a : Fin 251, a ≠ 0 → a * a^249 = 1 := by decide +kernel
  exact fun a ha => ⟨_, h a ha⟩
theorem nzd (a b : Fin 251) (h : a * b = 0) (ha : a ≠ 0) : b = 0 := by
  obtain ⟨c, hc⟩ := inv_ex a ha
  have : b = (a * c) * b := by rw [hc]; grind
  have h2 : a * c * b = c * (a * b) := by grind
  rw [this, h2, h]; grind
def ev : List (Fin 251) → Fin 251 → Fin 251
  | [], _ => 0
  | c :: q, x => c + x * ev q x
def dv (a : Fin 251) : List (Fin 251) → List (Fin 251)
  | [] => []
  | [_] => []
  | _ :: c :: q => ev (c :: q) a :: dv a (c :: q)
theorem ev_dv (a x : Fin 251) : ∀ p, ev p x = ev p a + (x - a) * ev (dv a p) x
  | [] => by simp only [ev, dv]; grind
  | [c] => by simp only [ev, dv]; grind
  | d :: c :: q => by
    have ih := ev_dv a x (c :: q)
    simp only [dv, ev] at ih ⊢
    generalize ev (dv a (c :: q)) x = t at *
    generalize ev q a = u at *
    generalize ev q x = v at *
    grind
theorem len_dv (a : Fin 251) : ∀ p, (dv a p).length = p.length - 1
  | [] => rfl
  | [_] => rfl
  | _ :: c :: q => by
    have ih := len_dv a (c :: q)
    simp only [dv, List.length_cons] at ih ⊢
    omega
theorem dv_zero (a : Fin 251) : ∀ p, (∀ c ∈ dv a p, c = 0) → ev p a = 0 → ∀ c ∈ p, c = 0
  | [], _, _ => by simp
  | [c], _, h => by
    simp only [ev] at h
    have h2 : c = 0 := by grind
    simp [h2]
  | d :: c :: q, hz, h => by
    simp only [dv, List.mem_cons, forall_eq_or_imp] at hz
    have h1 : d = 0 := by
      have h' : d + a * ev (c :: q) a = 0 := h
      rw [hz.1] at h'; grind
    have ih := dv_zero a (c :: q) hz.2 hz.1
    intro x hx
    rcases List.mem_cons.1 hx with rfl | hx
    · exact h1
    · exact ih x hx
theorem roots (n : Nat) : ∀ (p xs : List (Fin 251)), p.length = n → xs.Nodup → n ≤ xs.length → (∀ x ∈ xs, ev p x = 0) → ∀ c ∈ p, c = 0 := by
  induction n with
  | zero => intro p xs hp _ _ _; rw [List.length_eq_zero_iff.1 hp]; simp
  | succ n ih =>
    intro p xs hp hn hl hz
    cases xs with
    | nil => simp at hl
    | cons a xs =>
      have ha := hz a (by simp)
      refine dv_zero a p (ih (dv a p) xs (by rw [len_dv, hp]; rfl) (List.nodup_cons.1 hn).2 (by simp at hl; omega) ?_) ha
      intro x hx
      have h1 := ev_dv a x p
      rw [hz x (by simp [hx]), ha] at h1
      have hne : x - a ≠ 0 := by
        intro e
        have : x = a := by
          have : x = (x - a) + a := by grind
          rw [this, e]; grind
        rw [this] at hx; exact (List.nodup_cons.1 hn).1 hx
      refine nzd (x - a) _ ?_ hne
      generalize ev (dv a p) x = t at *
      grind
theorem ev_sub : ∀ (p q : List (Fin 251)) (x : Fin 251), p.length = q.length → ev (List.zipWith (fun a b => a - b) p q) x = ev p x - ev q x
  | [], [], x, _ => by simp [ev]
  | a :: p, b :: q, x, h => by
    have ih := ev_sub p q x (by simpa using h)
    simp only [List.zipWith_cons_cons, ev, ih]
    grind
theorem sub_zero_eq : ∀ (p q : List (Fin 251)), p.length = q.length → (∀ c ∈ List.zipWith (fun a b => a - b) p q, c = 0) → p = q
  | [], [], _, _ => rfl
  | a :: p, b :: q, h, hz => by
    simp only [List.zipWith_cons_cons, List.mem_cons, forall_eq_or_imp] at hz
    have hab : a = b := by
      have : a = (a - b) + b := by grind
      rw [this, hz.1]; grind
    rw [hab, sub_zero_eq p q (by simpa using h) hz.2]
theorem uniq (p q xs : List (Fin 251)) (hl : p.length = q.length) (hn : xs.Nodup) (hx : p.length ≤ xs.length) (h : ∀ x ∈ xs, ev p x = ev q x) : p = q := by
  refine sub_zero_eq p q hl (roots p.length _ xs (by simp [hl]) hn hx ?_)
  intro x hm
  rw [ev_sub p q x hl, h x hm]; grind
end Ply
