/- Parts of the proof of the law SecretCompletes: walks of functions that it reaches, and plain facts about numbers, lists and curves; without a condition. -/
import Derived.Test.YthlbjdiicmojfaaSecretCompletesM6
import Derived.Test.YthlbjdiicmojfaaSecretCompletesM4
import Derived.Test.YthlbjdiicmojfaaSecretCompletesM3
import Derived.Test.YthlbjdiicmojfaaSecretCompletesM1
import Derived.Test.YthlbjdiicmojfaaSecretCompletesM5
import Derived.Test.YthlbjdiicmojfaaSecretCompletesM2
/-! Part Rval. -/
namespace Go.Proofs.Ythlbjdiicmojfaa.P
open Go.RowKit Go.Proofs.YthlbjdiicmojfaaW.PrintWords Go.Proofs.YthlbjdiicmojfaaW.PrintLast Go.Proofs.YthlbjdiicmojfaaW.PrintMore
set_option linter.unusedVariables false

/-- Twice the same place: the reference tells 6, from i on, where a pair lies at or behind i. -/
theorem rval_l2 (l : List S43) (hl : l.length ≤ 12) (i : Nat) (hi : i < l.length) (R : Int) (K : Nat) (H : ∀ k, K ≤ k → verditerref08_Validate.l1 k l ((i + 1 : Nat) : Int) = some R) :
    ∀ (d j : Nat), j + d = i → ∀ k, K + d + 1 ≤ k → ((∃ m, ∃ h : m < l.length, j ≤ m ∧ m < i ∧ l[m].f0 = l[i].f0) → verditerref08_Validate.l2 k l (i : Int) (j : Int) = some 6) ∧ ((¬ ∃ m, ∃ h : m < l.length, j ≤ m ∧ m < i ∧ l[m].f0 = l[i].f0) → verditerref08_Validate.l2 k l (i : Int) (j : Int) = some R) := by
  intro d
  induction d with
  | zero =>
    intro j hj k hk
    obtain ⟨k, rfl⟩ : ∃ j, k = j + 1 := ⟨k - 1, by omega⟩
    refine ⟨fun ⟨m, _, h1, h2, _⟩ => by omega, fun _ => ?_⟩
    rw [verditerref08_Validate.l2, if_neg (by omega), wrap_succ i (by omega)]
    exact H k (by omega)
  | succ d ih =>
    intro j hj k hk
    obtain ⟨k, rfl⟩ : ∃ j, k = j + 1 := ⟨k - 1, by omega⟩
    have ih' := ih (j + 1) (by omega) k (by omega)
    rw [verditerref08_Validate.l2, if_pos (by omega), if_pos (by omega), if_pos (by omega), if_pos (by omega), if_pos (by omega), rdT_get l i hi, rdT_get l j (by omega)]
    by_cases e : l[i].f0 = l[j].f0
    · rw [if_pos e]
      exact ⟨fun _ => rfl, fun h => absurd ⟨j, by omega, Nat.le_refl _, by omega, e.symm⟩ h⟩
    · rw [if_neg e, wrap_succ j (by omega)]
      refine ⟨fun ⟨m, hm, h1, h2, h3⟩ => ih'.1 ⟨m, hm, ?_, h2, h3⟩, fun h => ih'.2 fun ⟨m, hm, h1, h2, h3⟩ => h ⟨m, hm, by omega, h2, h3⟩⟩
      rcases Nat.eq_or_lt_of_le h1 with rfl | h
      · exact absurd h3.symm e
      · omega
theorem rval_l1 (l : List S43) (hl : l.length ≤ 12) : ∀ (d i : Nat), i + d = l.length → ∀ k, 20 * d + 1 ≤ k →
    ((∃ n m, ∃ h : n < l.length, ∃ h' : m < l.length, i ≤ n ∧ m < n ∧ l[m].f0 = l[n].f0) → verditerref08_Validate.l1 k l (i : Int) = some 6) ∧
    ((¬ ∃ n m, ∃ h : n < l.length, ∃ h' : m < l.length, i ≤ n ∧ m < n ∧ l[m].f0 = l[n].f0) → verditerref08_Validate.l1 k l (i : Int) = some 0) := by
  intro d
  induction d with
  | zero =>
    intro i hi k hk
    obtain ⟨k, rfl⟩ : ∃ j, k = j + 1 := ⟨k - 1, by omega⟩
    refine ⟨fun ⟨n, m, h, _, h1, _⟩ => by omega, fun _ => ?_⟩
    rw [verditerref08_Validate.l1, if_neg (by omega)]
  | succ d ih =>
    intro i hi k hk
    obtain ⟨k, rfl⟩ : ∃ j, k = j + 1 := ⟨k - 1, by omega⟩
    have hil : i < l.length := by omega
    rw [verditerref08_Validate.l1, if_pos (by omega)]
    by_cases hex : ∃ n m, ∃ h : n < l.length, ∃ h' : m < l.length, i + 1 ≤ n ∧ m < n ∧ l[m].f0 = l[n].f0
    · have h2 := rval_l2 l hl i hil 6 (20 * d + 1) (fun k hk => (ih (i + 1) (by omega) k hk).1 hex) i 0 (by omega) k (by omega)
      refine ⟨fun _ => ?_, fun h => absurd (by obtain ⟨n, m, h, h', h1, h2⟩ := hex; exact ⟨n, m, h, h', by omega, h2⟩) h⟩
      by_cases hh : ∃ m, ∃ h : m < l.length, 0 ≤ m ∧ m < i ∧ l[m].f0 = l[i].f0
      · exact h2.1 hh
      · exact h2.2 hh
    · have h2 := rval_l2 l hl i hil 0 (20 * d + 1) (fun k hk => (ih (i + 1) (by omega) k hk).2 hex) i 0 (by omega) k (by omega)
      refine ⟨fun ⟨n, m, h, h', h1, h3, h4⟩ => ?_, fun h => ?_⟩
      · rcases Nat.eq_or_lt_of_le h1 with rfl | hlt
        · exact h2.1 ⟨m, h', Nat.zero_le _, h3, h4⟩
        · exact absurd ⟨n, m, h, h', by omega, h3, h4⟩ hex
      · exact h2.2 fun ⟨m, hm, _, h3, h4⟩ => h ⟨i, m, hil, hm, Nat.le_refl _, h3, h4⟩
theorem rval_l0 (l : List S43) (hl : l.length ≤ 12) (R : Int) (K : Nat) (H : ∀ k, K ≤ k → verditerref08_Validate.l1 k l 0 = some R) : ∀ (d i : Nat), i + d = l.length → ∀ k, K + d + 1 ≤ k →
    verditerref08_Validate.l0 k l (i : Int) = some (if (l.drop i).all okP = true then R else 1) := by
  intro d
  induction d with
  | zero =>
    intro i hi k hk
    obtain ⟨k, rfl⟩ : ∃ j, k = j + 1 := ⟨k - 1, by omega⟩
    rw [verditerref08_Validate.l0, if_neg (by omega), List.drop_of_length_le (by omega), H k (by omega)]; rfl
  | succ d ih =>
    intro i hi k hk
    obtain ⟨k, rfl⟩ : ∃ j, k = j + 1 := ⟨k - 1, by omega⟩
    have hil : i < l.length := by omega
    rw [verditerref08_Validate.l0, if_pos (by omega), if_pos (by omega), rdT_get l i hil, rwithin_eq, Option.bind_some, risNumber_eq, List.drop_eq_getElem_cons hil, List.all_cons]
    have he : okP l[i] = ((decide (1 ≤ l[i].f0) && decide (l[i].f0 ≤ 250)) && num l[i].f1) := rfl
    rw [he]
    cases h1 : (decide (1 ≤ l[i].f0) && decide (l[i].f0 ≤ 250)) with
    | false => rfl
    | true =>
      rw [if_pos rfl, Option.bind_some]
      cases h2 : num l[i].f1 with
      | false => rfl
      | true =>
        rw [if_pos rfl, wrap_succ i (by omega), ih (i + 1) (by omega) k (by omega)]; rfl
theorem rval_eq (l : List S43) (k : Nat) (hk : 300 ≤ k) : verditerref08_Validate.f k l = some (valid l) := by
  rw [verditerref08_Validate.f]
  unfold valid
  by_cases hl : 12 < l.length
  · rw [if_pos (by omega), if_pos hl]
  · rw [if_neg (by omega), if_neg hl]
    have hnd : (l.map S43.f0).Nodup ↔ ¬ ∃ n m, ∃ h : n < l.length, ∃ h' : m < l.length, 0 ≤ n ∧ m < n ∧ l[m].f0 = l[n].f0 := by
      rw [List.Nodup, List.pairwise_iff_getElem]
      constructor
      · intro h ⟨n, m, hn, hm, _, hlt, e⟩
        exact h m n (by simpa using hm) (by simpa using hn) hlt (by rw [List.getElem_map, List.getElem_map]; exact e)
      · intro h i j hi hj hlt e
        rw [List.getElem_map, List.getElem_map] at e
        exact h ⟨j, i, by simpa using hj, by simpa using hi, Nat.zero_le _, hlt, e⟩
    have h1 : ∀ k, 20 * l.length + 1 ≤ k → verditerref08_Validate.l1 k l 0 = some (if (l.map S43.f0).Nodup then 0 else 6) := by
      intro k hk
      have := rval_l1 l (by omega) l.length 0 (by omega) k hk
      by_cases hh : (l.map S43.f0).Nodup
      · rw [if_pos hh]; exact this.2 (hnd.1 hh)
      · rw [if_neg hh]
        refine this.1 ?_
        by_cases e : ∃ n m, ∃ h : n < l.length, ∃ h' : m < l.length, 0 ≤ n ∧ m < n ∧ l[m].f0 = l[n].f0
        · exact e
        · exact absurd (hnd.2 e) hh
    have h0 := rval_l0 l (by omega) _ _ h1 l.length 0 (by omega) k (by omega)
    rw [List.drop_zero] at h0
    exact h0
end Go.Proofs.Ythlbjdiicmojfaa.P

/-! Part Known. -/
namespace Go.Proofs.Ythlbjdiicmojfaa.P
open Go.RowKit Go.Proofs.YthlbjdiicmojfaaW.PrintWords Go.Proofs.YthlbjdiicmojfaaW.PrintLast Go.Proofs.YthlbjdiicmojfaaW.PrintMore
set_option linter.unusedVariables false
set_option maxRecDepth 100000
theorem known_ten : verditerlaw08_known.f 20 = some true := by decide +kernel
theorem known_eq (k : Nat) (hk : 20 ≤ k) : verditerlaw08_known.f k = some true := at_rounds (g := verditerlaw08_known.f) verditerlaw08_known.mono hk known_ten
end Go.Proofs.Ythlbjdiicmojfaa.P

/-! Part PF63. -/
-- Written for this claim by wip/print_more.py (a session's program that runs the kit's printer with hand-proved functions beside). Lean checks it.
namespace Go.Proofs.Ythlbjdiicmojfaa.P
open Go.RowKit Go.Proofs.YthlbjdiicmojfaaW.PrintWords Go.Proofs.YthlbjdiicmojfaaW.PrintLast Go.Proofs.YthlbjdiicmojfaaW.PrintMore
attribute [local go_sem] max2_int min2_int max_two min_two max_three min_three max_four min_four   -- for this text's walks alone
set_option linter.unusedVariables false
set_option linter.unusedSimpArgs false

/-! ### verditerref08_Curve: function 63 -/
def verditerref08_Curve.f (k : Nat) (l0 : List (S43)) : Option (List Int × Int) := (verditerref08_Validate.f k l0).bind fun t265 => (if t265 = 0 then (if (l0.length : Int) = 0 then (some (([] : List Int), 4)) else (if (l0.length : Int) > 6 then (some (([] : List Int), 3)) else ((verditerref08_through.f k l0).bind fun t266 => (some (t266, 0))))) else (some (([] : List Int), t265)))
theorem verditerref08_Curve.mono : ∀ a0 k, LeO (verditerref08_Curve.f k a0) (verditerref08_Curve.f (k + 1) a0) := by
  intro a0 k
  unfold verditerref08_Curve.f
  repeat' first
      | (with_reducible exact verditerref08_Validate.mono _ _)
      | (with_reducible exact verditerref08_through.mono _ _)
      | (with_reducible exact LeO.refl _)
      | (with_reducible exact LeO.none _)
      | (with_reducible refine LeO.ite ?_ ?_)
      | (with_reducible refine LeO.bind ?_ (fun _ => ?_))
      | exact verditerref08_Validate.mono _ _
      | exact verditerref08_through.mono _ _
      | exact LeO.none _
      | refine LeO.ite ?_ ?_
      | refine LeO.bind ?_ (fun _ => ?_)
set_option maxHeartbeats 8000000 in
set_option maxRecDepth 100000 in
theorem verditerref08_Curve.calls (k : Nat) (A0 : Option Addr) (c0 : Nat) (l0 : List (S43)) (r1 : List Int) (r2 : Int) (w : World) (hr0 : Kd.C k43 w A0 l0.length l0) (hc0 : l0.length ≤ c0) (h : verditerref08_Curve.f k l0 = some (r1, r2)) :
    Calls Try.prog 63 #[.slice A0 l0.length c0] w fun e w' => ∃ v0_ : Value, e = .returned (.tuple #[v0_, .int .i64 r2]) ∧ Kd.R (Kd.int .i64) 3 w' w.heap.size (fun _ => True) v0_ r1 ∧ Below w.heap.size w w' := by
  have HR0 := Aside0.mk hr0
  have HC0 := Aside0.mk hc0
  clear hr0 hc0
  have HB := Aside0.mk (Below.refl w.heap.size w)
  have H : ((verditerref08_Validate.f k l0).bind fun t265 => (if t265 = 0 then (if (l0.length : Int) = 0 then (some (([] : List Int), 4)) else (if (l0.length : Int) > 6 then (some (([] : List Int), 3)) else ((verditerref08_through.f k l0).bind fun t266 => (some (t266, 0))))) else (some (([] : List Int), t265)))) = some (r1, r2) := h
  clear h
  replace H := Option.bind_eq_some_iff.mp H
  obtain ⟨t265, A20, H⟩ := H
  replace H : (if t265 = 0 then (if (l0.length : Int) = 0 then (some (([] : List Int), 4)) else (if (l0.length : Int) > 6 then (some (([] : List Int), 3)) else ((verditerref08_through.f k l0).bind fun t266 => (some (t266, 0))))) else (some (([] : List Int), t265))) = some (r1, r2) := H
  have A2 := Aside0.mk A20
  clear A20
  by_cases c3 : t265 = 0
  · rw [if_pos c3] at H
    have c3b0 : (t265 == 0) = true := beq_iff_eq.mpr c3
    have c3b1 : (t265 != 0) = false := bne_eq_false_iff_eq.mpr c3
    clear c3
    by_cases c4 : (l0.length : Int) = 0
    · rw [if_pos c4] at H
      have c4b0 : ((l0.length : Int) == 0) = true := beq_iff_eq.mpr c4
      have c4b1 : ((l0.length : Int) != 0) = false := bne_eq_false_iff_eq.mpr c4
      clear c4
      simp only [Option.some.injEq, Prod.mk.injEq] at H
      obtain ⟨rfl, rfl⟩ := H
      go_enter Try.func63, Try.ntmps63
      go_wp2_with (first | ((with_reducible refine gate_callee (f := 66) rfl ?_); refine goesL_ (some 6) rfl rfl Try.func66 (by kernel_rfl) rfl #[.slice A0 l0.length c0] rfl (by (try simp only [List.map_toArray, List.map_cons, List.map_nil]); first | done | rfl | (simp only [List.length_drop, List.length_take]; rfl)) ?_; (with_reducible refine (verditerref08_Validate.calls k _ _ l0 t265 _ ?side1 ?side2 A2.out).mono ?_); (case side1 => repeat (first | exact HR0.out | (with_reducible refine Kd.C_alloc ?_ _) | (with_reducible refine Kd.C_drewN ?_ _) | (with_reducible refine Kd.C_drew ?_))); (case side2 => exact HC0.out); rintro e w' ⟨rfl, ⟨nd, rfl⟩⟩; refine ⟨_, rfl, ?_⟩))
      go_ret2
      exact ⟨_, by first | rfl | (simp [errW_none, errW_some] <;> rfl) | (simp [*, errW_none, errW_some] <;> rfl), by first | exact Kd.R_nil _ _ _ _ _ | exact Kd.N_nil _ _ _ _ _ | exact Kd.V_nil _ _ _ _ _ | exact Kd.Q_nil _ _ _ _ _ | exact Kd.S_nil _ _ _ _ _, by repeat (first | (with_reducible first | exact HB.out | apply below_alloc | apply pw_below_drewN | apply below_drew1) | exact HB.out)⟩
    · rw [if_neg c4] at H
      have c4b0 : ((l0.length : Int) == 0) = false := beq_eq_false_iff_ne.mpr c4
      have c4b1 : ((l0.length : Int) != 0) = true := bne_iff_ne.mpr c4
      have c4b2 : ¬ (l0 = []) := fun h_ => c4 (by rw [h_]; rfl)
      by_cases c5 : (l0.length : Int) > 6
      · rw [if_pos c5] at H
        have c5b0 : decide (6 < (l0.length : Int)) = true := decide_eq_true c5
        have c5b1 : decide (6 < l0.length) = true := decide_eq_true (by omega)
        clear c5
        simp only [Option.some.injEq, Prod.mk.injEq] at H
        obtain ⟨rfl, rfl⟩ := H
        go_enter Try.func63, Try.ntmps63
        go_wp2_with (first | ((with_reducible refine gate_callee (f := 66) rfl ?_); refine goesL_ (some 6) rfl rfl Try.func66 (by kernel_rfl) rfl #[.slice A0 l0.length c0] rfl (by (try simp only [List.map_toArray, List.map_cons, List.map_nil]); first | done | rfl | (simp only [List.length_drop, List.length_take]; rfl)) ?_; (with_reducible refine (verditerref08_Validate.calls k _ _ l0 t265 _ ?side1 ?side2 A2.out).mono ?_); (case side1 => repeat (first | exact HR0.out | (with_reducible refine Kd.C_alloc ?_ _) | (with_reducible refine Kd.C_drewN ?_ _) | (with_reducible refine Kd.C_drew ?_))); (case side2 => exact HC0.out); rintro e w' ⟨rfl, ⟨nd, rfl⟩⟩; refine ⟨_, rfl, ?_⟩))
        go_ret2
        exact ⟨_, by first | rfl | (simp [errW_none, errW_some] <;> rfl) | (simp [*, errW_none, errW_some] <;> rfl), by first | exact Kd.R_nil _ _ _ _ _ | exact Kd.N_nil _ _ _ _ _ | exact Kd.V_nil _ _ _ _ _ | exact Kd.Q_nil _ _ _ _ _ | exact Kd.S_nil _ _ _ _ _, by repeat (first | (with_reducible first | exact HB.out | apply below_alloc | apply pw_below_drewN | apply below_drew1) | exact HB.out)⟩
      · rw [if_neg c5] at H
        have c5b0 : decide (6 < (l0.length : Int)) = false := decide_eq_false c5
        have c5b1 : decide (6 < l0.length) = false := decide_eq_false (by omega)
        clear c5
        replace H := Option.bind_eq_some_iff.mp H
        obtain ⟨t266, A60, H⟩ := H
        replace H : (some (t266, 0)) = some (r1, r2) := H
        have A6 := Aside0.mk A60
        clear A60
        simp only [Option.some.injEq, Prod.mk.injEq] at H
        obtain ⟨rfl, rfl⟩ := H
        go_enter Try.func63, Try.ntmps63
        go_wp2_with (first | ((with_reducible refine gate_callee (f := 66) rfl ?_); refine goesL_ (some 6) rfl rfl Try.func66 (by kernel_rfl) rfl #[.slice A0 l0.length c0] rfl (by (try simp only [List.map_toArray, List.map_cons, List.map_nil]); first | done | rfl | (simp only [List.length_drop, List.length_take]; rfl)) ?_; (with_reducible refine (verditerref08_Validate.calls k _ _ l0 t265 _ ?side1 ?side2 A2.out).mono ?_); (case side1 => repeat (first | exact HR0.out | (with_reducible refine Kd.C_alloc ?_ _) | (with_reducible refine Kd.C_drewN ?_ _) | (with_reducible refine Kd.C_drew ?_))); (case side2 => exact HC0.out); rintro e w' ⟨rfl, ⟨nd, rfl⟩⟩; refine ⟨_, rfl, ?_⟩) | ((with_reducible refine gate_callee (f := 76) rfl ?_); refine goesL_ (some 17) rfl rfl Try.func76 (by kernel_rfl) rfl #[.slice A0 l0.length c0] rfl (by (try simp only [List.map_toArray, List.map_cons, List.map_nil]); first | done | rfl | (simp only [List.length_drop, List.length_take]; rfl)) ?_; (with_reducible refine (verditerref08_through.calls k _ _ l0 t266 _ ?side1 ?side2 A6.out).mono ?_); (case side1 => repeat (first | exact HR0.out | (with_reducible refine Kd.C_alloc ?_ _) | (with_reducible refine Kd.C_drewN ?_ _) | (with_reducible refine Kd.C_drew ?_))); (case side2 => exact HC0.out); rintro e w7 ⟨v267, rfl, ho0, hb⟩; refine ⟨_, rfl, ?_⟩; have n0_ := Aside0.mk (Kd.R_lower ho0 (below_size (by repeat (first | (with_reducible first | exact HB.out | apply below_alloc | apply pw_below_drewN | apply below_drew1) | exact HB.out)))); have n1_ := Aside0.mk (below_step (by repeat (first | (with_reducible first | exact HB.out | apply below_alloc | apply pw_below_drewN | apply below_drew1) | exact HB.out)) hb); clear HB; have HO268 := n0_; have HB := n1_; clear n0_ n1_; (try clear hb); (try clear hb2); (try clear hk); (try clear hi); (try clear ho0)))
        go_ret2
        exact ⟨_, by first | rfl | (simp [errW_none, errW_some] <;> rfl) | (simp [*, errW_none, errW_some] <;> rfl), by (with_reducible repeat (first | apply Kd.R_alloc | apply Kd.R_drewN | apply Kd.R_drew)); exact HO268.out, by repeat (first | (with_reducible first | exact HB.out | apply below_alloc | apply pw_below_drewN | apply below_drew1) | exact HB.out)⟩
  · rw [if_neg c3] at H
    have c3b0 : (t265 == 0) = false := beq_eq_false_iff_ne.mpr c3
    have c3b1 : (t265 != 0) = true := bne_iff_ne.mpr c3
    simp only [Option.some.injEq, Prod.mk.injEq] at H
    obtain ⟨rfl, rfl⟩ := H
    go_enter Try.func63, Try.ntmps63
    go_wp2_with (first | ((with_reducible refine gate_callee (f := 66) rfl ?_); refine goesL_ (some 6) rfl rfl Try.func66 (by kernel_rfl) rfl #[.slice A0 l0.length c0] rfl (by (try simp only [List.map_toArray, List.map_cons, List.map_nil]); first | done | rfl | (simp only [List.length_drop, List.length_take]; rfl)) ?_; (with_reducible refine (verditerref08_Validate.calls k _ _ l0 t265 _ ?side1 ?side2 A2.out).mono ?_); (case side1 => repeat (first | exact HR0.out | (with_reducible refine Kd.C_alloc ?_ _) | (with_reducible refine Kd.C_drewN ?_ _) | (with_reducible refine Kd.C_drew ?_))); (case side2 => exact HC0.out); rintro e w' ⟨rfl, ⟨nd, rfl⟩⟩; refine ⟨_, rfl, ?_⟩))
    go_ret2
    exact ⟨_, by first | rfl | (simp [errW_none, errW_some] <;> rfl) | (simp [*, errW_none, errW_some] <;> rfl), by first | exact Kd.R_nil _ _ _ _ _ | exact Kd.N_nil _ _ _ _ _ | exact Kd.V_nil _ _ _ _ _ | exact Kd.Q_nil _ _ _ _ _ | exact Kd.S_nil _ _ _ _ _, by repeat (first | (with_reducible first | exact HB.out | apply below_alloc | apply pw_below_drewN | apply below_drew1) | exact HB.out)⟩

end Go.Proofs.Ythlbjdiicmojfaa.P

/-! Part PF64. -/
-- Written for this claim by wip/print_more.py (a session's program that runs the kit's printer with hand-proved functions beside). Lean checks it.
namespace Go.Proofs.Ythlbjdiicmojfaa.P
open Go.RowKit Go.Proofs.YthlbjdiicmojfaaW.PrintWords Go.Proofs.YthlbjdiicmojfaaW.PrintLast Go.Proofs.YthlbjdiicmojfaaW.PrintMore
attribute [local go_sem] max2_int min2_int max_two min_two max_three min_three max_four min_four   -- for this text's walks alone
set_option linter.unusedVariables false
set_option linter.unusedSimpArgs false

/-! ### verditerref08_Secret: function 64 -/
def verditerref08_Secret.f (k : Nat) (l0 : List (S43)) : Option (Int × Int) := (verditerref08_Curve.f k l0).bind fun bt470 => (if bt470.2 = 0 then (if 0 < (bt470.1.length : Int) then (some (rd bt470.1 0, 0)) else (none)) else (some (0, bt470.2)))
theorem verditerref08_Secret.mono : ∀ a0 k, LeO (verditerref08_Secret.f k a0) (verditerref08_Secret.f (k + 1) a0) := by
  intro a0 k
  unfold verditerref08_Secret.f
  repeat' first
      | (with_reducible exact verditerref08_Curve.mono _ _)
      | (with_reducible exact LeO.refl _)
      | (with_reducible exact LeO.none _)
      | (with_reducible refine LeO.ite ?_ ?_)
      | (with_reducible refine LeO.bind ?_ (fun _ => ?_))
      | exact verditerref08_Curve.mono _ _
      | exact LeO.none _
      | refine LeO.ite ?_ ?_
      | refine LeO.bind ?_ (fun _ => ?_)
set_option maxHeartbeats 8000000 in
set_option maxRecDepth 100000 in
theorem verditerref08_Secret.calls (k : Nat) (A0 : Option Addr) (c0 : Nat) (l0 : List (S43)) (r1 : Int) (r2 : Int) (w : World) (hr0 : Kd.C k43 w A0 l0.length l0) (hc0 : l0.length ≤ c0) (h : verditerref08_Secret.f k l0 = some (r1, r2)) :
    Calls Try.prog 64 #[.slice A0 l0.length c0] w fun e w' => e = .returned (.tuple #[.int .i64 r1, .int .i64 r2]) ∧ Below w.heap.size w w' := by
  have HR0 := Aside0.mk hr0
  have HC0 := Aside0.mk hc0
  clear hr0 hc0
  have HB := Aside0.mk (Below.refl w.heap.size w)
  have H : ((verditerref08_Curve.f k l0).bind fun bt470 => (if bt470.2 = 0 then (if 0 < (bt470.1.length : Int) then (some (rd bt470.1 0, 0)) else (none)) else (some (0, bt470.2)))) = some (r1, r2) := h
  clear h
  replace H := Option.bind_eq_some_iff.mp H
  obtain ⟨⟨t470, t471⟩, A20, H⟩ := H
  replace H : (if t471 = 0 then (if 0 < (t470.length : Int) then (some (rd t470 0, 0)) else (none)) else (some (0, t471))) = some (r1, r2) := H
  have A2 := Aside0.mk A20
  clear A20
  by_cases c3 : t471 = 0
  · rw [if_pos c3] at H
    have c3b0 : (t471 == 0) = true := beq_iff_eq.mpr c3
    have c3b1 : (t471 != 0) = false := bne_eq_false_iff_eq.mpr c3
    clear c3
    by_cases c4 : 0 < (t470.length : Int)
    · rw [if_pos c4] at H
      have c4b0 : decide (0 < (t470.length : Int)) = true := decide_eq_true c4
      have c4b1 : decide (0 < t470.length) = true := decide_eq_true (by omega)
      clear c4
      simp only [Option.some.injEq, Prod.mk.injEq] at H
      obtain ⟨rfl, rfl⟩ := H
      go_enter Try.func64, Try.ntmps64
      go_wp2_with (first | ((with_reducible refine gate_callee (f := 63) rfl ?_); refine goesL_ (some 8) rfl rfl Try.func63 (by kernel_rfl) rfl #[.slice A0 l0.length c0] rfl (by (try simp only [List.map_toArray, List.map_cons, List.map_nil]); first | done | rfl | (simp only [List.length_drop, List.length_take]; rfl)) ?_; (with_reducible refine (verditerref08_Curve.calls k _ _ l0 t470 t471 _ ?side1 ?side2 A2.out).mono ?_); (case side1 => repeat (first | exact HR0.out | (with_reducible refine Kd.C_alloc ?_ _) | (with_reducible refine Kd.C_drewN ?_ _) | (with_reducible refine Kd.C_drew ?_))); (case side2 => exact HC0.out); rintro e w5 ⟨v472, rfl, ho0, hb⟩; refine ⟨_, rfl, ?_⟩; have n0_ := Aside0.mk (Kd.R_lower ho0 (below_size (by repeat (first | (with_reducible first | exact HB.out | apply below_alloc | apply pw_below_drewN | apply below_drew1) | exact HB.out)))); have n1_ := Aside0.mk (below_step (by repeat (first | (with_reducible first | exact HB.out | apply below_alloc | apply pw_below_drewN | apply below_drew1) | exact HB.out)) hb); clear HB; have HO473 := n0_; have HB := n1_; clear n0_ n1_; (try clear hb); (try clear hb2); (try clear hk); (try clear hi); (try clear ho0); obtain ⟨Ao6, co6, eo6⟩ := Kd.R_slice HO473.out; subst eo6; have p474 : 0 ≤ (0 : Int) := (by omega); have q474 : 0 < (t470.length : Int) := of_decide_eq_true (by first | (with_reducible assumption) | assumption); obtain ⟨ad474, e474, hx474_0⟩ := Kd.at_int (Kd.R_reads' HO473.out).2.2 0 p474 q474; cases e474; have qi474 : (0 < t470.length) = True := eq_true (by omega); (try rw [show ((0 : Int)).toNat = 0 from rfl] at hx474_0); (try rw [Addr.add_zero'] at hx474_0); replace p474 := eq_true p474; replace q474 := eq_true q474))
      go_ret2
      exact ⟨by first | rfl | (simp [errW_none, errW_some] <;> rfl) | (simp [*, errW_none, errW_some] <;> rfl), by repeat (first | (with_reducible first | exact HB.out | apply below_alloc | apply pw_below_drewN | apply below_drew1) | exact HB.out)⟩
    · rw [if_neg c4] at H
      exact absurd H (by simp)
  · rw [if_neg c3] at H
    have c3b0 : (t471 == 0) = false := beq_eq_false_iff_ne.mpr c3
    have c3b1 : (t471 != 0) = true := bne_iff_ne.mpr c3
    simp only [Option.some.injEq, Prod.mk.injEq] at H
    obtain ⟨rfl, rfl⟩ := H
    go_enter Try.func64, Try.ntmps64
    go_wp2_with (first | ((with_reducible refine gate_callee (f := 63) rfl ?_); refine goesL_ (some 8) rfl rfl Try.func63 (by kernel_rfl) rfl #[.slice A0 l0.length c0] rfl (by (try simp only [List.map_toArray, List.map_cons, List.map_nil]); first | done | rfl | (simp only [List.length_drop, List.length_take]; rfl)) ?_; (with_reducible refine (verditerref08_Curve.calls k _ _ l0 t470 t471 _ ?side1 ?side2 A2.out).mono ?_); (case side1 => repeat (first | exact HR0.out | (with_reducible refine Kd.C_alloc ?_ _) | (with_reducible refine Kd.C_drewN ?_ _) | (with_reducible refine Kd.C_drew ?_))); (case side2 => exact HC0.out); rintro e w7 ⟨v472, rfl, ho0, hb⟩; refine ⟨_, rfl, ?_⟩; have n0_ := Aside0.mk (Kd.R_lower ho0 (below_size (by repeat (first | (with_reducible first | exact HB.out | apply below_alloc | apply pw_below_drewN | apply below_drew1) | exact HB.out)))); have n1_ := Aside0.mk (below_step (by repeat (first | (with_reducible first | exact HB.out | apply below_alloc | apply pw_below_drewN | apply below_drew1) | exact HB.out)) hb); clear HB; have HO473 := n0_; have HB := n1_; clear n0_ n1_; (try clear hb); (try clear hb2); (try clear hk); (try clear hi); (try clear ho0)))
    go_ret2
    exact ⟨by first | rfl | (simp [errW_none, errW_some] <;> rfl) | (simp [*, errW_none, errW_some] <;> rfl), by repeat (first | (with_reducible first | exact HB.out | apply below_alloc | apply pw_below_drewN | apply below_drew1) | exact HB.out)⟩

end Go.Proofs.Ythlbjdiicmojfaa.P

/-! Part PF86. -/
-- Written for this claim by wip/print_more.py (a session's program that runs the kit's printer with hand-proved functions beside). Lean checks it.
namespace Go.Proofs.Ythlbjdiicmojfaa.P
open Go.RowKit Go.Proofs.YthlbjdiicmojfaaW.PrintWords Go.Proofs.YthlbjdiicmojfaaW.PrintLast Go.Proofs.YthlbjdiicmojfaaW.PrintMore
attribute [local go_sem] max2_int min2_int max_two min_two max_three min_three max_four min_four   -- for this text's walks alone
set_option linter.unusedVariables false
set_option linter.unusedSimpArgs false

/-! ### secret_some: function 86 -/
def secret_some.f (l0 : List (S43)) : Option (Int) := if (l0.length : Int) = 0 then (some 4) else (if (l0.length : Int) > 6 then (some 3) else (some 0))
set_option maxHeartbeats 8000000 in
set_option maxRecDepth 100000 in
theorem secret_some.calls (A0 : Option Addr) (c0 : Nat) (l0 : List (S43)) (r : Int) (w : World) (hr0 : Kd.C k43 w A0 l0.length l0) (hc0 : l0.length ≤ c0) (h : secret_some.f l0 = some r) :
    Calls Try.prog 86 #[.slice A0 l0.length c0] w fun e w' => e = .returned (.int .i64 r) ∧ Drawn0 w w' := by
  have HR0 := Aside0.mk hr0
  have HC0 := Aside0.mk hc0
  clear hr0 hc0
  have H : (if (l0.length : Int) = 0 then (some 4) else (if (l0.length : Int) > 6 then (some 3) else (some 0))) = some r := h
  clear h
  by_cases c2 : (l0.length : Int) = 0
  · rw [if_pos c2] at H
    have c2b0 : ((l0.length : Int) == 0) = true := beq_iff_eq.mpr c2
    have c2b1 : ((l0.length : Int) != 0) = false := bne_eq_false_iff_eq.mpr c2
    clear c2
    obtain rfl := Option.some.inj H
    go_enter Try.func86, Try.ntmps86
    go_wp2
    go_ret
    exact ⟨by first | rfl | (simp; done) | (simp [*]; done), by repeat (first | exact Drawn0.refl _ | apply Drawn0.step)⟩
  · rw [if_neg c2] at H
    have c2b0 : ((l0.length : Int) == 0) = false := beq_eq_false_iff_ne.mpr c2
    have c2b1 : ((l0.length : Int) != 0) = true := bne_iff_ne.mpr c2
    have c2b2 : ¬ (l0 = []) := fun h_ => c2 (by rw [h_]; rfl)
    by_cases c3 : (l0.length : Int) > 6
    · rw [if_pos c3] at H
      have c3b0 : decide (6 < (l0.length : Int)) = true := decide_eq_true c3
      have c3b1 : decide (6 < l0.length) = true := decide_eq_true (by omega)
      clear c3
      obtain rfl := Option.some.inj H
      go_enter Try.func86, Try.ntmps86
      go_wp2
      go_ret
      exact ⟨by first | rfl | (simp; done) | (simp [*]; done), by repeat (first | exact Drawn0.refl _ | apply Drawn0.step)⟩
    · rw [if_neg c3] at H
      have c3b0 : decide (6 < (l0.length : Int)) = false := decide_eq_false c3
      have c3b1 : decide (6 < l0.length) = false := decide_eq_false (by omega)
      clear c3
      obtain rfl := Option.some.inj H
      go_enter Try.func86, Try.ntmps86
      go_wp2
      go_ret
      exact ⟨by first | rfl | (simp; done) | (simp [*]; done), by repeat (first | exact Drawn0.refl _ | apply Drawn0.step)⟩

end Go.Proofs.Ythlbjdiicmojfaa.P

/-! Part PF55. -/
-- Written for this claim by wip/print_more.py (a session's program that runs the kit's printer with hand-proved functions beside). Lean checks it.
namespace Go.Proofs.Ythlbjdiicmojfaa.P
open Go.RowKit Go.Proofs.YthlbjdiicmojfaaW.PrintWords Go.Proofs.YthlbjdiicmojfaaW.PrintLast Go.Proofs.YthlbjdiicmojfaaW.PrintMore
attribute [local go_sem] max2_int min2_int max_two min_two max_three min_three max_four min_four   -- for this text's walks alone
set_option linter.unusedVariables false
set_option linter.unusedSimpArgs false

/-! ### secret_Curve: function 55 -/
def secret_Curve.f (l0 : List (S43)) : Option (List Int × Int) := (secret_Validate.f l0).bind fun t346 => (if t346 = 0 then ((secret_some.f l0).bind fun t347 => (if t347 = 0 then ((secret_of.f l0).bind fun t348 => (some (t348, 0))) else (some (([] : List Int), t347)))) else (some (([] : List Int), t346)))
set_option maxHeartbeats 8000000 in
set_option maxRecDepth 100000 in
theorem secret_Curve.calls (A0 : Option Addr) (c0 : Nat) (l0 : List (S43)) (r1 : List Int) (r2 : Int) (w : World) (hr0 : Kd.C k43 w A0 l0.length l0) (hc0 : l0.length ≤ c0) (h : secret_Curve.f l0 = some (r1, r2)) :
    Calls Try.prog 55 #[.slice A0 l0.length c0] w fun e w' => ∃ v0_ : Value, e = .returned (.tuple #[v0_, .int .i64 r2]) ∧ Kd.R (Kd.int .i64) 3 w' w.heap.size (fun _ => True) v0_ r1 ∧ Below w.heap.size w w' := by
  have HR0 := Aside0.mk hr0
  have HC0 := Aside0.mk hc0
  clear hr0 hc0
  have HB := Aside0.mk (Below.refl w.heap.size w)
  have H : ((secret_Validate.f l0).bind fun t346 => (if t346 = 0 then ((secret_some.f l0).bind fun t347 => (if t347 = 0 then ((secret_of.f l0).bind fun t348 => (some (t348, 0))) else (some (([] : List Int), t347)))) else (some (([] : List Int), t346)))) = some (r1, r2) := h
  clear h
  replace H := Option.bind_eq_some_iff.mp H
  obtain ⟨t346, A20, H⟩ := H
  replace H : (if t346 = 0 then ((secret_some.f l0).bind fun t347 => (if t347 = 0 then ((secret_of.f l0).bind fun t348 => (some (t348, 0))) else (some (([] : List Int), t347)))) else (some (([] : List Int), t346))) = some (r1, r2) := H
  have A2 := Aside0.mk A20
  clear A20
  by_cases c3 : t346 = 0
  · rw [if_pos c3] at H
    have c3b0 : (t346 == 0) = true := beq_iff_eq.mpr c3
    have c3b1 : (t346 != 0) = false := bne_eq_false_iff_eq.mpr c3
    clear c3
    replace H := Option.bind_eq_some_iff.mp H
    obtain ⟨t347, A40, H⟩ := H
    replace H : (if t347 = 0 then ((secret_of.f l0).bind fun t348 => (some (t348, 0))) else (some (([] : List Int), t347))) = some (r1, r2) := H
    have A4 := Aside0.mk A40
    clear A40
    by_cases c5 : t347 = 0
    · rw [if_pos c5] at H
      have c5b0 : (t347 == 0) = true := beq_iff_eq.mpr c5
      have c5b1 : (t347 != 0) = false := bne_eq_false_iff_eq.mpr c5
      clear c5
      replace H := Option.bind_eq_some_iff.mp H
      obtain ⟨t348, A60, H⟩ := H
      replace H : (some (t348, 0)) = some (r1, r2) := H
      have A6 := Aside0.mk A60
      clear A60
      simp only [Option.some.injEq, Prod.mk.injEq] at H
      obtain ⟨rfl, rfl⟩ := H
      go_enter Try.func55, Try.ntmps55
      go_wp2_with (first | ((with_reducible refine gate_callee (f := 65) rfl ?_); refine goesL_ (some 7) rfl rfl Try.func65 (by kernel_rfl) rfl #[.slice A0 l0.length c0] rfl (by (try simp only [List.map_toArray, List.map_cons, List.map_nil]); first | done | rfl | (simp only [List.length_drop, List.length_take]; rfl)) ?_; (with_reducible refine (secret_Validate.calls _ _ l0 t346 _ ?side1 ?side2 A2.out).mono ?_); (case side1 => repeat (first | exact HR0.out | (with_reducible refine Kd.C_alloc ?_ _) | (with_reducible refine Kd.C_drewN ?_ _) | (with_reducible refine Kd.C_drew ?_))); (case side2 => exact HC0.out); rintro e w7 ⟨rfl, hb⟩; refine ⟨_, rfl, ?_⟩; have n0_ := Aside0.mk (below_step (by repeat (first | (with_reducible first | exact HB.out | apply below_alloc | apply pw_below_drewN | apply below_drew1) | exact HB.out)) hb); clear HB; have HB := n0_; clear n0_; (try clear hb); (try clear hb2); (try clear hk); (try clear hi)) | ((with_reducible refine gate_callee (f := 86) rfl ?_); refine goesL_ (some 12) rfl rfl Try.func86 (by kernel_rfl) rfl #[.slice A0 l0.length c0] rfl (by (try simp only [List.map_toArray, List.map_cons, List.map_nil]); first | done | rfl | (simp only [List.length_drop, List.length_take]; rfl)) ?_; (with_reducible refine (secret_some.calls _ _ l0 t347 _ ?side1 ?side2 A4.out).mono ?_); (case side1 => repeat (first | exact (Kd.C_below HR0.out HB.out) | (with_reducible refine Kd.C_alloc ?_ _) | (with_reducible refine Kd.C_drewN ?_ _) | (with_reducible refine Kd.C_drew ?_))); (case side2 => exact HC0.out); rintro e w' ⟨rfl, ⟨nd, rfl⟩⟩; refine ⟨_, rfl, ?_⟩) | ((with_reducible refine gate_callee (f := 87) rfl ?_); refine goesL_ (some 17) rfl rfl Try.func87 (by kernel_rfl) rfl #[.slice A0 l0.length c0] rfl (by (try simp only [List.map_toArray, List.map_cons, List.map_nil]); first | done | rfl | (simp only [List.length_drop, List.length_take]; rfl)) ?_; (with_reducible refine (secret_of.calls _ _ l0 t348 _ ?side1 ?side2 A6.out).mono ?_); (case side1 => repeat (first | exact (Kd.C_below HR0.out (by repeat (first | (with_reducible first | exact HB.out | apply below_alloc | apply pw_below_drewN | apply below_drew1) | exact HB.out))) | (with_reducible refine Kd.C_alloc ?_ _) | (with_reducible refine Kd.C_drewN ?_ _) | (with_reducible refine Kd.C_drew ?_))); (case side2 => exact HC0.out); rintro e w8 ⟨v349, rfl, ho0, hb⟩; refine ⟨_, rfl, ?_⟩; have n0_ := Aside0.mk (Kd.R_lower ho0 (below_size (by repeat (first | (with_reducible first | exact HB.out | apply below_alloc | apply pw_below_drewN | apply below_drew1) | exact HB.out)))); have n1_ := Aside0.mk (below_step (by repeat (first | (with_reducible first | exact HB.out | apply below_alloc | apply pw_below_drewN | apply below_drew1) | exact HB.out)) hb); clear HB; have HO350 := n0_; have HB := n1_; clear n0_ n1_; (try clear hb); (try clear hb2); (try clear hk); (try clear hi); (try clear ho0)))
      go_ret2
      exact ⟨_, by first | rfl | (simp [errW_none, errW_some] <;> rfl) | (simp [*, errW_none, errW_some] <;> rfl), by (with_reducible repeat (first | apply Kd.R_alloc | apply Kd.R_drewN | apply Kd.R_drew)); exact HO350.out, by repeat (first | (with_reducible first | exact HB.out | apply below_alloc | apply pw_below_drewN | apply below_drew1) | exact HB.out)⟩
    · rw [if_neg c5] at H
      have c5b0 : (t347 == 0) = false := beq_eq_false_iff_ne.mpr c5
      have c5b1 : (t347 != 0) = true := bne_iff_ne.mpr c5
      simp only [Option.some.injEq, Prod.mk.injEq] at H
      obtain ⟨rfl, rfl⟩ := H
      go_enter Try.func55, Try.ntmps55
      go_wp2_with (first | ((with_reducible refine gate_callee (f := 65) rfl ?_); refine goesL_ (some 7) rfl rfl Try.func65 (by kernel_rfl) rfl #[.slice A0 l0.length c0] rfl (by (try simp only [List.map_toArray, List.map_cons, List.map_nil]); first | done | rfl | (simp only [List.length_drop, List.length_take]; rfl)) ?_; (with_reducible refine (secret_Validate.calls _ _ l0 t346 _ ?side1 ?side2 A2.out).mono ?_); (case side1 => repeat (first | exact HR0.out | (with_reducible refine Kd.C_alloc ?_ _) | (with_reducible refine Kd.C_drewN ?_ _) | (with_reducible refine Kd.C_drew ?_))); (case side2 => exact HC0.out); rintro e w9 ⟨rfl, hb⟩; refine ⟨_, rfl, ?_⟩; have n0_ := Aside0.mk (below_step (by repeat (first | (with_reducible first | exact HB.out | apply below_alloc | apply pw_below_drewN | apply below_drew1) | exact HB.out)) hb); clear HB; have HB := n0_; clear n0_; (try clear hb); (try clear hb2); (try clear hk); (try clear hi)) | ((with_reducible refine gate_callee (f := 86) rfl ?_); refine goesL_ (some 12) rfl rfl Try.func86 (by kernel_rfl) rfl #[.slice A0 l0.length c0] rfl (by (try simp only [List.map_toArray, List.map_cons, List.map_nil]); first | done | rfl | (simp only [List.length_drop, List.length_take]; rfl)) ?_; (with_reducible refine (secret_some.calls _ _ l0 t347 _ ?side1 ?side2 A4.out).mono ?_); (case side1 => repeat (first | exact (Kd.C_below HR0.out HB.out) | (with_reducible refine Kd.C_alloc ?_ _) | (with_reducible refine Kd.C_drewN ?_ _) | (with_reducible refine Kd.C_drew ?_))); (case side2 => exact HC0.out); rintro e w' ⟨rfl, ⟨nd, rfl⟩⟩; refine ⟨_, rfl, ?_⟩))
      go_ret2
      exact ⟨_, by first | rfl | (simp [errW_none, errW_some] <;> rfl) | (simp [*, errW_none, errW_some] <;> rfl), by first | exact Kd.R_nil _ _ _ _ _ | exact Kd.N_nil _ _ _ _ _ | exact Kd.V_nil _ _ _ _ _ | exact Kd.Q_nil _ _ _ _ _ | exact Kd.S_nil _ _ _ _ _, by repeat (first | (with_reducible first | exact HB.out | apply below_alloc | apply pw_below_drewN | apply below_drew1) | exact HB.out)⟩
  · rw [if_neg c3] at H
    have c3b0 : (t346 == 0) = false := beq_eq_false_iff_ne.mpr c3
    have c3b1 : (t346 != 0) = true := bne_iff_ne.mpr c3
    simp only [Option.some.injEq, Prod.mk.injEq] at H
    obtain ⟨rfl, rfl⟩ := H
    go_enter Try.func55, Try.ntmps55
    go_wp2_with (first | ((with_reducible refine gate_callee (f := 65) rfl ?_); refine goesL_ (some 7) rfl rfl Try.func65 (by kernel_rfl) rfl #[.slice A0 l0.length c0] rfl (by (try simp only [List.map_toArray, List.map_cons, List.map_nil]); first | done | rfl | (simp only [List.length_drop, List.length_take]; rfl)) ?_; (with_reducible refine (secret_Validate.calls _ _ l0 t346 _ ?side1 ?side2 A2.out).mono ?_); (case side1 => repeat (first | exact HR0.out | (with_reducible refine Kd.C_alloc ?_ _) | (with_reducible refine Kd.C_drewN ?_ _) | (with_reducible refine Kd.C_drew ?_))); (case side2 => exact HC0.out); rintro e w10 ⟨rfl, hb⟩; refine ⟨_, rfl, ?_⟩; have n0_ := Aside0.mk (below_step (by repeat (first | (with_reducible first | exact HB.out | apply below_alloc | apply pw_below_drewN | apply below_drew1) | exact HB.out)) hb); clear HB; have HB := n0_; clear n0_; (try clear hb); (try clear hb2); (try clear hk); (try clear hi)))
    go_ret2
    exact ⟨_, by first | rfl | (simp [errW_none, errW_some] <;> rfl) | (simp [*, errW_none, errW_some] <;> rfl), by first | exact Kd.R_nil _ _ _ _ _ | exact Kd.N_nil _ _ _ _ _ | exact Kd.V_nil _ _ _ _ _ | exact Kd.Q_nil _ _ _ _ _ | exact Kd.S_nil _ _ _ _ _, by repeat (first | (with_reducible first | exact HB.out | apply below_alloc | apply pw_below_drewN | apply below_drew1) | exact HB.out)⟩

end Go.Proofs.Ythlbjdiicmojfaa.P

/-! Part PF58. -/
-- Written for this claim by wip/print_more.py (a session's program that runs the kit's printer with hand-proved functions beside). Lean checks it.
namespace Go.Proofs.Ythlbjdiicmojfaa.P
open Go.RowKit Go.Proofs.YthlbjdiicmojfaaW.PrintWords Go.Proofs.YthlbjdiicmojfaaW.PrintLast Go.Proofs.YthlbjdiicmojfaaW.PrintMore
attribute [local go_sem] max2_int min2_int max_two min_two max_three min_three max_four min_four   -- for this text's walks alone
set_option linter.unusedVariables false
set_option linter.unusedSimpArgs false

/-! ### secret_Secret: function 58 -/
def secret_Secret.f (l0 : List (S43)) : Option (Int × Int) := (secret_Curve.f l0).bind fun bt351 => (if bt351.2 = 0 then (if 0 < (bt351.1.length : Int) then (some (rd bt351.1 0, 0)) else (none)) else (some (0, bt351.2)))
set_option maxHeartbeats 8000000 in
set_option maxRecDepth 100000 in
theorem secret_Secret.calls (A0 : Option Addr) (c0 : Nat) (l0 : List (S43)) (r1 : Int) (r2 : Int) (w : World) (hr0 : Kd.C k43 w A0 l0.length l0) (hc0 : l0.length ≤ c0) (h : secret_Secret.f l0 = some (r1, r2)) :
    Calls Try.prog 58 #[.slice A0 l0.length c0] w fun e w' => e = .returned (.tuple #[.int .i64 r1, .int .i64 r2]) ∧ Below w.heap.size w w' := by
  have HR0 := Aside0.mk hr0
  have HC0 := Aside0.mk hc0
  clear hr0 hc0
  have HB := Aside0.mk (Below.refl w.heap.size w)
  have H : ((secret_Curve.f l0).bind fun bt351 => (if bt351.2 = 0 then (if 0 < (bt351.1.length : Int) then (some (rd bt351.1 0, 0)) else (none)) else (some (0, bt351.2)))) = some (r1, r2) := h
  clear h
  replace H := Option.bind_eq_some_iff.mp H
  obtain ⟨⟨t351, t352⟩, A20, H⟩ := H
  replace H : (if t352 = 0 then (if 0 < (t351.length : Int) then (some (rd t351 0, 0)) else (none)) else (some (0, t352))) = some (r1, r2) := H
  have A2 := Aside0.mk A20
  clear A20
  by_cases c3 : t352 = 0
  · rw [if_pos c3] at H
    have c3b0 : (t352 == 0) = true := beq_iff_eq.mpr c3
    have c3b1 : (t352 != 0) = false := bne_eq_false_iff_eq.mpr c3
    clear c3
    by_cases c4 : 0 < (t351.length : Int)
    · rw [if_pos c4] at H
      have c4b0 : decide (0 < (t351.length : Int)) = true := decide_eq_true c4
      have c4b1 : decide (0 < t351.length) = true := decide_eq_true (by omega)
      clear c4
      simp only [Option.some.injEq, Prod.mk.injEq] at H
      obtain ⟨rfl, rfl⟩ := H
      go_enter Try.func58, Try.ntmps58
      go_wp2_with (first | ((with_reducible refine gate_callee (f := 55) rfl ?_); refine goesL_ (some 8) rfl rfl Try.func55 (by kernel_rfl) rfl #[.slice A0 l0.length c0] rfl (by (try simp only [List.map_toArray, List.map_cons, List.map_nil]); first | done | rfl | (simp only [List.length_drop, List.length_take]; rfl)) ?_; (with_reducible refine (secret_Curve.calls _ _ l0 t351 t352 _ ?side1 ?side2 A2.out).mono ?_); (case side1 => repeat (first | exact HR0.out | (with_reducible refine Kd.C_alloc ?_ _) | (with_reducible refine Kd.C_drewN ?_ _) | (with_reducible refine Kd.C_drew ?_))); (case side2 => exact HC0.out); rintro e w5 ⟨v353, rfl, ho0, hb⟩; refine ⟨_, rfl, ?_⟩; have n0_ := Aside0.mk (Kd.R_lower ho0 (below_size (by repeat (first | (with_reducible first | exact HB.out | apply below_alloc | apply pw_below_drewN | apply below_drew1) | exact HB.out)))); have n1_ := Aside0.mk (below_step (by repeat (first | (with_reducible first | exact HB.out | apply below_alloc | apply pw_below_drewN | apply below_drew1) | exact HB.out)) hb); clear HB; have HO354 := n0_; have HB := n1_; clear n0_ n1_; (try clear hb); (try clear hb2); (try clear hk); (try clear hi); (try clear ho0); obtain ⟨Ao6, co6, eo6⟩ := Kd.R_slice HO354.out; subst eo6; have p355 : 0 ≤ (0 : Int) := (by omega); have q355 : 0 < (t351.length : Int) := of_decide_eq_true (by first | (with_reducible assumption) | assumption); obtain ⟨ad355, e355, hx355_0⟩ := Kd.at_int (Kd.R_reads' HO354.out).2.2 0 p355 q355; cases e355; have qi355 : (0 < t351.length) = True := eq_true (by omega); (try rw [show ((0 : Int)).toNat = 0 from rfl] at hx355_0); (try rw [Addr.add_zero'] at hx355_0); replace p355 := eq_true p355; replace q355 := eq_true q355))
      go_ret2
      exact ⟨by first | rfl | (simp [errW_none, errW_some] <;> rfl) | (simp [*, errW_none, errW_some] <;> rfl), by repeat (first | (with_reducible first | exact HB.out | apply below_alloc | apply pw_below_drewN | apply below_drew1) | exact HB.out)⟩
    · rw [if_neg c4] at H
      exact absurd H (by simp)
  · rw [if_neg c3] at H
    have c3b0 : (t352 == 0) = false := beq_eq_false_iff_ne.mpr c3
    have c3b1 : (t352 != 0) = true := bne_iff_ne.mpr c3
    simp only [Option.some.injEq, Prod.mk.injEq] at H
    obtain ⟨rfl, rfl⟩ := H
    go_enter Try.func58, Try.ntmps58
    go_wp2_with (first | ((with_reducible refine gate_callee (f := 55) rfl ?_); refine goesL_ (some 8) rfl rfl Try.func55 (by kernel_rfl) rfl #[.slice A0 l0.length c0] rfl (by (try simp only [List.map_toArray, List.map_cons, List.map_nil]); first | done | rfl | (simp only [List.length_drop, List.length_take]; rfl)) ?_; (with_reducible refine (secret_Curve.calls _ _ l0 t351 t352 _ ?side1 ?side2 A2.out).mono ?_); (case side1 => repeat (first | exact HR0.out | (with_reducible refine Kd.C_alloc ?_ _) | (with_reducible refine Kd.C_drewN ?_ _) | (with_reducible refine Kd.C_drew ?_))); (case side2 => exact HC0.out); rintro e w7 ⟨v353, rfl, ho0, hb⟩; refine ⟨_, rfl, ?_⟩; have n0_ := Aside0.mk (Kd.R_lower ho0 (below_size (by repeat (first | (with_reducible first | exact HB.out | apply below_alloc | apply pw_below_drewN | apply below_drew1) | exact HB.out)))); have n1_ := Aside0.mk (below_step (by repeat (first | (with_reducible first | exact HB.out | apply below_alloc | apply pw_below_drewN | apply below_drew1) | exact HB.out)) hb); clear HB; have HO354 := n0_; have HB := n1_; clear n0_ n1_; (try clear hb); (try clear hb2); (try clear hk); (try clear hi); (try clear ho0)))
    go_ret2
    exact ⟨by first | rfl | (simp [errW_none, errW_some] <;> rfl) | (simp [*, errW_none, errW_some] <;> rfl), by repeat (first | (with_reducible first | exact HB.out | apply below_alloc | apply pw_below_drewN | apply below_drew1) | exact HB.out)⟩

end Go.Proofs.Ythlbjdiicmojfaa.P

/-! Part Eqs. -/
namespace Go.Proofs.Ythlbjdiicmojfaa.P
open Go.RowKit Go.Proofs.YthlbjdiicmojfaaW.PrintWords Go.Proofs.YthlbjdiicmojfaaW.PrintLast Go.Proofs.YthlbjdiicmojfaaW.PrintMore
set_option linter.unusedVariables false

theorem long_eq (l : List S43) : verditerlaw08_Long.f l = some (decide ((l.length : Int) > 100)) := rfl
theorem secretAt_ok {c : List Int} {x : Int} (hc : curveErr c = 0) (hx : num x = true) : secret_At.f c x = some (atI c x, 0) := by
  obtain ⟨h1, h2, h3⟩ := curveErr_iff.1 hc
  rw [secret_At.f, secret_isCurve.f, Option.bind_some, if_pos hc, isNumber_eq, Option.bind_some, if_pos hx, secret_curve_at.f, if_pos (by rw [hx, List.all_eq_true.2 h3, decide_eq_true (show c.length ≤ 12 by omega)]; rfl)]
  rfl
theorem curveErr_interp {p : List (Int × Int)} (h1 : 1 ≤ p.length) (h2 : p.length ≤ 6) : curveErr (interp p) = 0 :=
  curveErr_iff.2 ⟨by rw [interp_len]; exact h1, by rw [interp_len]; exact h2, interp_nums p⟩

/-! ### Curve, Secret -/
def curveR (l : List S43) : List Int × Int := if valid l = 0 then (if l.length = 0 then ([], 4) else if 6 < l.length then ([], 3) else (interp (pts l), 0)) else ([], valid l)
def secretR (l : List S43) : Int × Int := if (curveR l).2 = 0 then ((curveR l).1.getD 0 0, 0) else (0, (curveR l).2)
theorem curveR_ok {l : List S43} (h : (curveR l).2 = 0) : valid l = 0 ∧ 1 ≤ l.length ∧ l.length ≤ 6 ∧ (curveR l).1 = interp (pts l) := by
  unfold curveR at h ⊢
  by_cases hv : valid l = 0
  · rw [if_pos hv] at h ⊢
    by_cases h0 : l.length = 0
    · rw [if_pos h0] at h; cases h
    · rw [if_neg h0] at h ⊢
      by_cases h6 : 6 < l.length
      · rw [if_pos h6] at h; cases h
      · rw [if_neg h6]
        exact ⟨hv, by omega, by omega, rfl⟩
  · rw [if_neg hv] at h
    exact absurd h hv
theorem curveR_eq {l : List S43} (hv : valid l = 0) (h1 : 1 ≤ l.length) (h6 : l.length ≤ 6) : curveR l = (interp (pts l), 0) := by
  unfold curveR
  rw [if_pos hv, if_neg (by omega), if_neg (by omega)]
theorem curve_eq (l : List S43) : secret_Curve.f l = some (curveR l) := by
  rw [secret_Curve.f, secret_Validate.f, Option.bind_some]
  unfold curveR
  by_cases hv : valid l = 0
  · rw [if_pos hv, if_pos hv, secret_some.f]
    by_cases h0 : l.length = 0
    · rw [if_pos (by omega), if_pos h0]; rfl
    · rw [if_neg (by omega), if_neg h0]
      by_cases h6 : 6 < l.length
      · rw [if_pos (by omega), if_pos h6]; rfl
      · rw [if_neg (by omega), if_neg h6, Option.bind_some, if_pos rfl, secret_of.f, if_pos hv]; rfl
  · rw [if_neg hv, if_neg hv]
theorem rcurve_eq (l : List S43) (k : Nat) (hk : 7000 ≤ k) : verditerref08_Curve.f k l = some (curveR l) := by
  rw [verditerref08_Curve.f, rval_eq l k (by omega), Option.bind_some]
  unfold curveR
  by_cases hv : valid l = 0
  · rw [if_pos hv, if_pos hv]
    by_cases h0 : l.length = 0
    · rw [if_pos (by omega), if_pos h0]
    · rw [if_neg (by omega), if_neg h0]
      by_cases h6 : 6 < l.length
      · rw [if_pos (by omega), if_pos h6]
      · rw [if_neg (by omega), if_neg h6, through_eq l (by omega) (good_pts hv) k hk]; rfl
  · rw [if_neg hv, if_neg hv]
theorem secret_eq (l : List S43) : secret_Secret.f l = some (secretR l) := by
  rw [secret_Secret.f, curve_eq, Option.bind_some]
  unfold secretR
  by_cases h : (curveR l).2 = 0
  · obtain ⟨_, h1, _, he⟩ := curveR_ok h
    rw [if_pos h, if_pos h, if_pos (by rw [he, interp_len, pts_length]; omega)]; rfl
  · rw [if_neg h, if_neg h]
theorem rsecret_eq (l : List S43) (k : Nat) (hk : 7000 ≤ k) : verditerref08_Secret.f k l = some (secretR l) := by
  rw [verditerref08_Secret.f, rcurve_eq l k hk, Option.bind_some]
  unfold secretR
  by_cases h : (curveR l).2 = 0
  · obtain ⟨_, h1, _, he⟩ := curveR_ok h
    rw [if_pos h, if_pos h, if_pos (by rw [he, interp_len, pts_length]; omega)]; rfl
  · rw [if_neg h, if_neg h]

/-! ### Complete -/
theorem good_secret {l : List S43} {n : Int} (hv : valid l = 0) (hn : num n = true) : good ((0, n) :: pts l) := by
  have hg := good_pts hv
  obtain ⟨_, hok, _⟩ := valid_iff.1 hv
  refine ⟨fun q hq => ?_, ?_⟩
  · rcases List.mem_cons.1 hq with rfl | hq
    · exact ⟨rfl, hn⟩
    · exact hg.1 q hq
  · rw [List.map_cons, List.nodup_cons]
    refine ⟨fun hm => ?_, hg.2⟩
    obtain ⟨q, hq, e⟩ := List.mem_map.1 hm
    obtain ⟨p, hp, rfl⟩ := List.mem_map.1 hq
    have := okP_iff.1 (hok p hp)
    simp only at e
    omega
theorem rcomplete_eq (l : List S43) (n : Int) (k : Nat) (hk : 7000 ≤ k) : verditerref08_Complete.f k l n = secret_Complete.f l n := by
  rw [verditerref08_Complete.f, secret_Complete.f, rval_eq l k (by omega), Option.bind_some]
  by_cases hv : valid l = 0
  · rw [if_pos hv, if_pos hv, risNumber_eq, Option.bind_some]
    cases hn : num n with
    | false => rfl
    | true =>
      rw [if_pos rfl, if_pos rfl]
      by_cases h6 : 6 ≤ l.length
      · rw [if_pos (by omega), if_pos h6]
      · have e : pts ([⟨0, n⟩] ++ l) = (0, n) :: pts l := rfl
        rw [if_neg (by omega), if_neg h6, Option.bind_some, if_pos (by simp; omega), through_eq _ (by simp; omega) (by rw [e]; exact good_secret hv hn) k hk, e]; rfl
  · rw [if_neg hv, if_neg hv]
theorem map_pts_fst (l : List S43) : (pts l).map Prod.fst = l.map S43.f0 := by unfold pts; rw [List.map_map]; rfl
theorem valid_num {l : List S43} (hv : valid l = 0) {p : S43} (hp : p ∈ l) : num p.f0 = true ∧ num p.f1 = true := (good_pts hv).1 (p.f0, p.f1) (mem_pts hp)
end Go.Proofs.Ythlbjdiicmojfaa.P

/-! Part PureSecretCompletes. -/
namespace Go.Proofs.Ythlbjdiicmojfaa.P
open Go.RowKit Go.Proofs.YthlbjdiicmojfaaW.PrintWords Go.Proofs.YthlbjdiicmojfaaW.PrintLast Go.Proofs.YthlbjdiicmojfaaW.PrintMore
set_option linter.unusedVariables false
theorem completes_loop (l : List S43) (n : Int) (hv : valid l = 0) (hn : num n = true) (h6 : l.length < 6) : ∀ (d i k : Nat), i + d = l.length → d + 100 < k → verditerlaw08_secretCompletes.l0 k l n (interp ((0, n) :: pts l)) (i : Int) = some true := by
  have hg := good_secret hv hn
  have hlen : (interp ((0, n) :: pts l)).length = l.length + 1 := by rw [interp_len]; simp [pts]
  have hc : curveErr (interp ((0, n) :: pts l)) = 0 := curveErr_interp (by simp) (by simp [pts]; omega)
  intro d
  induction d with
  | zero =>
    intro i k hi hk
    obtain ⟨k, rfl⟩ : ∃ j, k = j + 1 := ⟨k - 1, by omega⟩
    have h0 : rd (interp ((0, n) :: pts l)) 0 = n := by
      have h1 := atI_zero (interp_nums ((0, n) :: pts l))
      have h2 := interp_at hg (q := (0, n)) (by simp)
      show (interp ((0, n) :: pts l)).getD 0 0 = n
      rw [← h1]; exact h2
    rw [verditerlaw08_secretCompletes.l0, if_neg (by omega), if_pos (by rw [hlen, wrap_succ _ (by omega)]), if_pos (by omega), if_pos h0, known_eq _ (by omega)]
    rfl
  | succ d ih =>
    intro i k hi hk
    obtain ⟨k, rfl⟩ : ∃ j, k = j + 1 := ⟨k - 1, by omega⟩
    have hil : i < l.length := by omega
    have hm := List.getElem_mem hil
    have ha := interp_at hg (q := (l[i].f0, l[i].f1)) (List.mem_cons_of_mem _ (mem_pts hm))
    rw [verditerlaw08_secretCompletes.l0, if_pos (by omega), if_pos (by omega), rdT_get l i hil, secretAt_ok hc (valid_num hv hm).1, Option.bind_some, if_pos rfl, if_pos ha, wrap_succ i (by omega)]
    exact ih (i + 1) k (by omega) (by omega)
theorem pureSecretCompletes (l0 : List S43) (_h0 : (∀ z ∈ l0, (Lit.int .i64 z.f0).wf = true ∧ (Lit.int .i64 z.f1).wf = true)) (l1 : Int) (_h1 : (Lit.int .i64 l1).wf = true) : ∃ k, verditerlaw08_secretCompletes.f k l0 l1 = some true := by
  refine ⟨10000, ?_⟩
  rw [verditerlaw08_secretCompletes.f, long_eq, Option.bind_some]
  by_cases hl : (l0.length : Int) > 100
  · rw [if_pos (decide_eq_true hl), known_eq _ (by omega)]; rfl
  rw [if_neg (by rw [decide_eq_false hl]; simp), rcomplete_eq l0 l1 10000 (by omega), secret_Complete.f]
  have quick : ∀ e : Int, e ≠ 0 → verditerlaw08_secretCompletes.j0 10000 l0 l1 [] e false = some true := by
    intro e he
    rw [verditerlaw08_secretCompletes.j0, if_neg (by simp), if_neg he, known_eq _ (by omega)]; rfl
  by_cases hv : valid l0 = 0
  · rw [if_pos hv]
    cases hn : num l1 with
    | false =>
      rw [if_neg (by simp), Option.bind_some, Option.bind_some, if_pos rfl, sameInts_self [] (by simp) _ (by simp)]
      exact quick 1 (by decide)
    | true =>
      rw [if_pos rfl]
      by_cases h6 : 6 ≤ l0.length
      · rw [if_pos h6, Option.bind_some, Option.bind_some, if_pos rfl, sameInts_self [] (by simp) _ (by simp)]
        exact quick 3 (by decide)
      · have hlen : (interp ((0, l1) :: pts l0)).length = l0.length + 1 := by rw [interp_len]; simp [pts]
        rw [if_neg h6, Option.bind_some, Option.bind_some, if_pos rfl, sameInts_self (interp ((0, l1) :: pts l0)) (by omega) _ (by omega), Option.bind_some, verditerlaw08_secretCompletes.j0, if_neg (by simp), if_pos rfl]
        exact completes_loop l0 l1 hv hn (by omega) l0.length 0 _ (by omega) (by omega)
  · rw [if_neg hv, Option.bind_some, Option.bind_some, if_pos rfl, sameInts_self [] (by simp) _ (by simp)]
    exact quick _ hv
end Go.Proofs.Ythlbjdiicmojfaa.P
