/- Parts of the proof of the law TopSecrets: walks of functions that it reaches, and plain facts about numbers, lists and curves; without a condition. -/
import Derived.Test.YthlbjdiicmojfaaTopSecretsM2
import Derived.Test.YthlbjdiicmojfaaTopSecretsM1
import Derived.Lib.LazyBuf
import Derived.Deep.RegionLaw
import Derived.Lib.SliceRun
import Derived.Deep.RegionWith
import Derived.Deep.RegionHeld3
import Derived.StillTailTactics
/-! Part PF55. -/
-- Written for this claim by wip/print_more.py (a session's program that runs the kit's printer with hand-proved functions beside). Lean checks it.
namespace Go.Proofs.Ythlbjdiicmojfaa.P
open Go.RowKit Go.Proofs.YthlbjdiicmojfaaW.PrintWords Go.Proofs.YthlbjdiicmojfaaW.PrintLast Go.Proofs.YthlbjdiicmojfaaW.PrintMore
attribute [local go_sem] max2_int min2_int max_two min_two max_three min_three max_four min_four   -- for this text's walks alone
set_option linter.unusedVariables false
set_option linter.unusedSimpArgs false

/-! ### secret_Curve: function 55 -/
def secret_Curve.f (l0 : List (S43)) : Option (List Int × Int) := (secret_Validate.f l0).bind fun t346 => (if t346 = 0 then ((secret_some.f l0).bind fun t347 => (if t347 = 0 then ((secret_of.f l0).bind fun t348 => (some (t348, 0))) else (some (([] : List Int), t347)))) else (some (([] : List Int), t346)))
set_option maxHeartbeats 8000000 in
set_option maxRecDepth 100000 in
theorem secret_Curve.calls (A0 : Option Addr) (c0 : Nat) (l0 : List (S43)) (r1 : List Int) (r2 : Int) (w : World) (hr0 : Kd.C k43 w A0 l0.length l0) (hc0 : l0.length ≤ c0) (h : secret_Curve.f l0 = some (r1, r2)) :
    Calls Try.prog 55 #[.slice A0 l0.length c0] w fun e w' => ∃ v0_ : Value, e = .returned (.tuple #[v0_, .int .i64 r2]) ∧ Kd.R (Kd.int .i64) 3 w' w.heap.size (fun _ => True) v0_ r1 ∧ Below w.heap.size w w' := by
  have HR0 := Aside0.mk hr0
  have HC0 := Aside0.mk hc0
  clear hr0 hc0
  have HB := Aside0.mk (Below.refl w.heap.size w)
  have H : ((secret_Validate.f l0).bind fun t346 => (if t346 = 0 then ((secret_some.f l0).bind fun t347 => (if t347 = 0 then ((secret_of.f l0).bind fun t348 => (some (t348, 0))) else (some (([] : List Int), t347)))) else (some (([] : List Int), t346)))) = some (r1, r2) := h
  clear h
  replace H := Option.bind_eq_some_iff.mp H
  obtain ⟨t346, A20, H⟩ := H
  replace H : (if t346 = 0 then ((secret_some.f l0).bind fun t347 => (if t347 = 0 then ((secret_of.f l0).bind fun t348 => (some (t348, 0))) else (some (([] : List Int), t347)))) else (some (([] : List Int), t346))) = some (r1, r2) := H
  have A2 := Aside0.mk A20
  clear A20
  by_cases c3 : t346 = 0
  · rw [if_pos c3] at H
    have c3b0 : (t346 == 0) = true := beq_iff_eq.mpr c3
    have c3b1 : (t346 != 0) = false := bne_eq_false_iff_eq.mpr c3
    clear c3
    replace H := Option.bind_eq_some_iff.mp H
    obtain ⟨t347, A40, H⟩ := H
    replace H : (if t347 = 0 then ((secret_of.f l0).bind fun t348 => (some (t348, 0))) else (some (([] : List Int), t347))) = some (r1, r2) := H
    have A4 := Aside0.mk A40
    clear A40
    by_cases c5 : t347 = 0
    · rw [if_pos c5] at H
      have c5b0 : (t347 == 0) = true := beq_iff_eq.mpr c5
      have c5b1 : (t347 != 0) = false := bne_eq_false_iff_eq.mpr c5
      clear c5
      replace H := Option.bind_eq_some_iff.mp H
      obtain ⟨t348, A60, H⟩ := H
      replace H : (some (t348, 0)) = some (r1, r2) := H
      have A6 := Aside0.mk A60
      clear A60
      simp only [Option.some.injEq, Prod.mk.injEq] at H
      obtain ⟨rfl, rfl⟩ := H
      go_enter Try.func55, Try.ntmps55
      go_wp2_with (first | ((with_reducible refine gate_callee (f := 65) rfl ?_); refine goesL_ (some 7) rfl rfl Try.func65 (by kernel_rfl) rfl #[.slice A0 l0.length c0] rfl (by (try simp only [List.map_toArray, List.map_cons, List.map_nil]); first | done | rfl | (simp only [List.length_drop, List.length_take]; rfl)) ?_; (with_reducible refine (secret_Validate.calls _ _ l0 t346 _ ?side1 ?side2 A2.out).mono ?_); (case side1 => repeat (first | exact HR0.out | (with_reducible refine Kd.C_alloc ?_ _) | (with_reducible refine Kd.C_drewN ?_ _) | (with_reducible refine Kd.C_drew ?_))); (case side2 => exact HC0.out); rintro e w7 ⟨rfl, hb⟩; refine ⟨_, rfl, ?_⟩; have n0_ := Aside0.mk (below_step (by repeat (first | (with_reducible first | exact HB.out | apply below_alloc | apply pw_below_drewN | apply below_drew1) | exact HB.out)) hb); clear HB; have HB := n0_; clear n0_; (try clear hb); (try clear hb2); (try clear hk); (try clear hi)) | ((with_reducible refine gate_callee (f := 86) rfl ?_); refine goesL_ (some 12) rfl rfl Try.func86 (by kernel_rfl) rfl #[.slice A0 l0.length c0] rfl (by (try simp only [List.map_toArray, List.map_cons, List.map_nil]); first | done | rfl | (simp only [List.length_drop, List.length_take]; rfl)) ?_; (with_reducible refine (secret_some.calls _ _ l0 t347 _ ?side1 ?side2 A4.out).mono ?_); (case side1 => repeat (first | exact (Kd.C_below HR0.out HB.out) | (with_reducible refine Kd.C_alloc ?_ _) | (with_reducible refine Kd.C_drewN ?_ _) | (with_reducible refine Kd.C_drew ?_))); (case side2 => exact HC0.out); rintro e w' ⟨rfl, ⟨nd, rfl⟩⟩; refine ⟨_, rfl, ?_⟩) | ((with_reducible refine gate_callee (f := 87) rfl ?_); refine goesL_ (some 17) rfl rfl Try.func87 (by kernel_rfl) rfl #[.slice A0 l0.length c0] rfl (by (try simp only [List.map_toArray, List.map_cons, List.map_nil]); first | done | rfl | (simp only [List.length_drop, List.length_take]; rfl)) ?_; (with_reducible refine (secret_of.calls _ _ l0 t348 _ ?side1 ?side2 A6.out).mono ?_); (case side1 => repeat (first | exact (Kd.C_below HR0.out (by repeat (first | (with_reducible first | exact HB.out | apply below_alloc | apply pw_below_drewN | apply below_drew1) | exact HB.out))) | (with_reducible refine Kd.C_alloc ?_ _) | (with_reducible refine Kd.C_drewN ?_ _) | (with_reducible refine Kd.C_drew ?_))); (case side2 => exact HC0.out); rintro e w8 ⟨v349, rfl, ho0, hb⟩; refine ⟨_, rfl, ?_⟩; have n0_ := Aside0.mk (Kd.R_lower ho0 (below_size (by repeat (first | (with_reducible first | exact HB.out | apply below_alloc | apply pw_below_drewN | apply below_drew1) | exact HB.out)))); have n1_ := Aside0.mk (below_step (by repeat (first | (with_reducible first | exact HB.out | apply below_alloc | apply pw_below_drewN | apply below_drew1) | exact HB.out)) hb); clear HB; have HO350 := n0_; have HB := n1_; clear n0_ n1_; (try clear hb); (try clear hb2); (try clear hk); (try clear hi); (try clear ho0)))
      go_ret2
      exact ⟨_, by first | rfl | (simp [errW_none, errW_some] <;> rfl) | (simp [*, errW_none, errW_some] <;> rfl), by (with_reducible repeat (first | apply Kd.R_alloc | apply Kd.R_drewN | apply Kd.R_drew)); exact HO350.out, by repeat (first | (with_reducible first | exact HB.out | apply below_alloc | apply pw_below_drewN | apply below_drew1) | exact HB.out)⟩
    · rw [if_neg c5] at H
      have c5b0 : (t347 == 0) = false := beq_eq_false_iff_ne.mpr c5
      have c5b1 : (t347 != 0) = true := bne_iff_ne.mpr c5
      simp only [Option.some.injEq, Prod.mk.injEq] at H
      obtain ⟨rfl, rfl⟩ := H
      go_enter Try.func55, Try.ntmps55
      go_wp2_with (first | ((with_reducible refine gate_callee (f := 65) rfl ?_); refine goesL_ (some 7) rfl rfl Try.func65 (by kernel_rfl) rfl #[.slice A0 l0.length c0] rfl (by (try simp only [List.map_toArray, List.map_cons, List.map_nil]); first | done | rfl | (simp only [List.length_drop, List.length_take]; rfl)) ?_; (with_reducible refine (secret_Validate.calls _ _ l0 t346 _ ?side1 ?side2 A2.out).mono ?_); (case side1 => repeat (first | exact HR0.out | (with_reducible refine Kd.C_alloc ?_ _) | (with_reducible refine Kd.C_drewN ?_ _) | (with_reducible refine Kd.C_drew ?_))); (case side2 => exact HC0.out); rintro e w9 ⟨rfl, hb⟩; refine ⟨_, rfl, ?_⟩; have n0_ := Aside0.mk (below_step (by repeat (first | (with_reducible first | exact HB.out | apply below_alloc | apply pw_below_drewN | apply below_drew1) | exact HB.out)) hb); clear HB; have HB := n0_; clear n0_; (try clear hb); (try clear hb2); (try clear hk); (try clear hi)) | ((with_reducible refine gate_callee (f := 86) rfl ?_); refine goesL_ (some 12) rfl rfl Try.func86 (by kernel_rfl) rfl #[.slice A0 l0.length c0] rfl (by (try simp only [List.map_toArray, List.map_cons, List.map_nil]); first | done | rfl | (simp only [List.length_drop, List.length_take]; rfl)) ?_; (with_reducible refine (secret_some.calls _ _ l0 t347 _ ?side1 ?side2 A4.out).mono ?_); (case side1 => repeat (first | exact (Kd.C_below HR0.out HB.out) | (with_reducible refine Kd.C_alloc ?_ _) | (with_reducible refine Kd.C_drewN ?_ _) | (with_reducible refine Kd.C_drew ?_))); (case side2 => exact HC0.out); rintro e w' ⟨rfl, ⟨nd, rfl⟩⟩; refine ⟨_, rfl, ?_⟩))
      go_ret2
      exact ⟨_, by first | rfl | (simp [errW_none, errW_some] <;> rfl) | (simp [*, errW_none, errW_some] <;> rfl), by first | exact Kd.R_nil _ _ _ _ _ | exact Kd.N_nil _ _ _ _ _ | exact Kd.V_nil _ _ _ _ _ | exact Kd.Q_nil _ _ _ _ _ | exact Kd.S_nil _ _ _ _ _, by repeat (first | (with_reducible first | exact HB.out | apply below_alloc | apply pw_below_drewN | apply below_drew1) | exact HB.out)⟩
  · rw [if_neg c3] at H
    have c3b0 : (t346 == 0) = false := beq_eq_false_iff_ne.mpr c3
    have c3b1 : (t346 != 0) = true := bne_iff_ne.mpr c3
    simp only [Option.some.injEq, Prod.mk.injEq] at H
    obtain ⟨rfl, rfl⟩ := H
    go_enter Try.func55, Try.ntmps55
    go_wp2_with (first | ((with_reducible refine gate_callee (f := 65) rfl ?_); refine goesL_ (some 7) rfl rfl Try.func65 (by kernel_rfl) rfl #[.slice A0 l0.length c0] rfl (by (try simp only [List.map_toArray, List.map_cons, List.map_nil]); first | done | rfl | (simp only [List.length_drop, List.length_take]; rfl)) ?_; (with_reducible refine (secret_Validate.calls _ _ l0 t346 _ ?side1 ?side2 A2.out).mono ?_); (case side1 => repeat (first | exact HR0.out | (with_reducible refine Kd.C_alloc ?_ _) | (with_reducible refine Kd.C_drewN ?_ _) | (with_reducible refine Kd.C_drew ?_))); (case side2 => exact HC0.out); rintro e w10 ⟨rfl, hb⟩; refine ⟨_, rfl, ?_⟩; have n0_ := Aside0.mk (below_step (by repeat (first | (with_reducible first | exact HB.out | apply below_alloc | apply pw_below_drewN | apply below_drew1) | exact HB.out)) hb); clear HB; have HB := n0_; clear n0_; (try clear hb); (try clear hb2); (try clear hk); (try clear hi)))
    go_ret2
    exact ⟨_, by first | rfl | (simp [errW_none, errW_some] <;> rfl) | (simp [*, errW_none, errW_some] <;> rfl), by first | exact Kd.R_nil _ _ _ _ _ | exact Kd.N_nil _ _ _ _ _ | exact Kd.V_nil _ _ _ _ _ | exact Kd.Q_nil _ _ _ _ _ | exact Kd.S_nil _ _ _ _ _, by repeat (first | (with_reducible first | exact HB.out | apply below_alloc | apply pw_below_drewN | apply below_drew1) | exact HB.out)⟩

end Go.Proofs.Ythlbjdiicmojfaa.P

/-! Part H93. -/
namespace Go.Proofs.Ythlbjdiicmojfaa.P
open Go.RowKit Go.Proofs.YthlbjdiicmojfaaW.PrintWords Go.Proofs.YthlbjdiicmojfaaW.PrintLast Go.Proofs.YthlbjdiicmojfaaW.PrintMore
set_option linter.unusedVariables false

theorem C_none {l : List S43} {w : World} (h : Kd.C k43 w none l.length l) : l = [] := by
  cases l with
  | nil => rfl
  | cons x l =>
    obtain ⟨ad, e, _⟩ := at_T43 h 0 (by omega) (by simp)
    cases e

set_option maxHeartbeats 2000000 in
set_option maxRecDepth 100000 in
theorem api_Part_93.calls (A0 : Option Addr) (c0 : Nat) (l0 : List (S43)) (r : List (S43)) (w : World) (hr0 : Kd.C k43 w A0 l0.length l0) (hc0 : l0.length ≤ c0) (h : api_Part_93.f l0 = some r) :
    Calls Try.prog 93 #[.slice A0 l0.length c0] w fun e w' => ∃ v0_ : Value, e = .returned (v0_) ∧ Kd.R k43 43 w' w.heap.size (fun _ => True) v0_ r ∧ Below w.heap.size w w' := by
  unfold api_Part_93.f at h
  split at h
  · rename_i hlen
    obtain rfl := Option.some.inj h
    clear h
    have hu43 := Try.underlying43
    have hnil : ∀ W, (binOp .eql 22 (.slice A0 l0.length c0) (.slice none 0 0)).run Try.prog W = .ok (.bool A0.isNone) W := fun W => Go.run_eql_slice_nil W 22 43 A0 l0.length c0 Try.underlying22
    have HR0 := Aside0.mk hr0
    have HB := Aside0.mk (Below.refl w.heap.size w)
    cases A0 with
    | none =>
      have he := Aside0.mk (C_none hr0)
      clear hr0 hc0
      simp only [Option.isNone_none] at hnil
      go_enter Try.func93, Try.ntmps93
      go_wp2_with fail
      go_ret
      refine ⟨_, rfl, ?_, HB.out⟩
      rw [he.out]
      exact Kd.R_nil k43 43 w w.heap.size _
    | some ad =>
      clear hr0 hc0
      simp only [Option.isNone_some] at hnil
      go_enter Try.func93, Try.ntmps93
      go_wp2_with (first | ((with_reducible refine gate_dst (N := 5) rfl ?_); refine Kd.R_lit k43 _ 43 ?hg (N := 5) ?hd (xs := ([] : List (S43))) (inner := []) (ok := fun _ => True) (okp := fun _ => True) ?hr ?hp (fun _ hk => hk) trivial (Below.refl _ _) (Nat.le_refl _) (by simp) ?_; (case hd => rfl); (case hg => rfl); (case hr => first | (go_simp; done) | (go_simp; rfl)); (case hp => exact (Reps.none _ _)); intro v1 w1 ho hb hg_ hnew_; clear hg_ hnew_; have HO := Aside0.mk ho; clear ho; have HB1 := Aside0.mk hb; clear hb) | ((with_reducible refine gate_builtin (b := .append) (xs := #[.tmp 5, .tmp 6]) rfl ?_); at_builtin; refine Kd.R_append_rows k43 (w0 := w) w.heap.size rfl (.tmp 5) (.tmp 6) 22 43 (.agg #[(.int .i64 0), (.int .i64 0)]) 16 rfl Try.underlying22 info43 rfl (by decide) (by omega) v1 [] l0 _ _ _ (fun _ => True) (fun _ => False) rfl rfl ?aO ?aR (fun _ _ h => h) (fun _ h => h.elim) ?aF ?aB ?aS ?aL ?_; (case aR => exact Kd.C_below HR0.out HB1.out); (case aB => exact HB1.out); (case aF => exact fun _ _ => trivial); (case aO => exact HO.out); (case aS => exact HB1.out.size); (case aL => simp only [List.length_nil]; omega); intro v2 w2 ho2 hb2 hg2 hat2; have HO2 := Aside0.mk ho2; have HB2 := Aside0.mk hb2; clear ho2 hb2 hg2 hat2))
      go_ret
      exact ⟨_, rfl, HO2.out, HB2.out⟩
  · cases h
end Go.Proofs.Ythlbjdiicmojfaa.P

/-! Part PF56. -/
-- Written for this claim by wip/print_more.py (a session's program that runs the kit's printer with hand-proved functions beside). Lean checks it.
namespace Go.Proofs.Ythlbjdiicmojfaa.P
open Go.RowKit Go.Proofs.YthlbjdiicmojfaaW.PrintWords Go.Proofs.YthlbjdiicmojfaaW.PrintLast Go.Proofs.YthlbjdiicmojfaaW.PrintMore
attribute [local go_sem] max2_int min2_int max_two min_two max_three min_three max_four min_four   -- for this text's walks alone
set_option linter.unusedVariables false
set_option linter.unusedSimpArgs false

/-! ### secret_Weights: function 56 -/
mutual
def secret_Weights.l0 : Nat → List (S43) → List Int → Int → Int → Option (List Int × Int)
  | 0, _, _, _, _ => none
  | k + 1, x4, x15, x16, x17 => if x17 < x16 then (if 0 ≤ x17 then (if x17 < (x15.length : Int) then (if x4.length < 8796093022208 then (secret_Weights.l0 k (x4 ++ [(⟨rd x15 x17, 0⟩ : S43)]) x15 x16 (wrap64 (x17 + 1))) else (none)) else (none)) else (none)) else ((secret_Validate.f x4).bind fun t128 => (if t128 = 0 then (secret_Weights.l1 k x4 ([] : List Int) (x4.length : Int) 0) else (some (([] : List Int), t128))))
def secret_Weights.l1 : Nat → List (S43) → List Int → Int → Int → Option (List Int × Int)
  | 0, _, _, _, _ => none
  | k + 1, x4, x8, x33, x34 => if x34 < x33 then ((api_Part_93.f x4).bind fun t129 => (if 0 ≤ x34 then (if x34 < (t129.length : Int) then ((secret_of.f (t129.set (x34 : Int).toNat (⟨(rd_T43 t129 x34).f0, 1⟩ : S43))).bind fun t133 => (if 0 < (t133.length : Int) then (if x8.length < 17592186044416 then (secret_Weights.l1 k x4 (x8 ++ [rd t133 0]) x33 (wrap64 (x34 + 1))) else (none)) else (none))) else (none)) else (none))) else (some (x8, 0))
end
def secret_Weights.f (k : Nat) (l0 : List Int) : Option (List Int × Int) := (secret_within.f (l0.length : Int) 1 6).bind fun t123 => (if t123 = true then (secret_Weights.l0 k ([] : List (S43)) l0 (l0.length : Int) 0) else (some (([] : List Int), 3)))
set_option maxHeartbeats 8000000 in
set_option maxRecDepth 100000 in
theorem secret_Weights.calls (k : Nat) (A0 : Option Addr) (c0 : Nat) (l0 : List Int) (r1 : List Int) (r2 : Int) (w : World) (hr0 : Kd.C (Kd.int .i64) w A0 l0.length l0) (hc0 : l0.length ≤ c0) (h : secret_Weights.f k l0 = some (r1, r2)) :
    Calls Try.prog 56 #[.slice A0 l0.length c0] w fun e w' => ∃ v0_ : Value, e = .returned (.tuple #[v0_, .int .i64 r2]) ∧ Kd.R (Kd.int .i64) 3 w' w.heap.size (fun _ => True) v0_ r1 ∧ Below w.heap.size w w' := by
  have hu43 := Try.underlying43
  have HR0 := Aside0.mk hr0
  have HC0 := Aside0.mk hc0
  clear hr0 hc0
  have HB := Aside0.mk (Below.refl w.heap.size w)
  have H : ((secret_within.f (l0.length : Int) 1 6).bind fun t123 => (if t123 = true then (secret_Weights.l0 k ([] : List (S43)) l0 (l0.length : Int) 0) else (some (([] : List Int), 3)))) = some (r1, r2) := h
  clear h
  replace H := Option.bind_eq_some_iff.mp H
  obtain ⟨t123, A20, H⟩ := H
  replace H : (if t123 = true then (secret_Weights.l0 k ([] : List (S43)) l0 (l0.length : Int) 0) else (some (([] : List Int), 3))) = some (r1, r2) := H
  have A2 := Aside0.mk A20
  clear A20
  by_cases c3 : t123 = true
  · subst c3
    have H1 : (secret_Weights.l0 k ([] : List (S43)) l0 (l0.length : Int) 0) = some (r1, r2) := by rw [if_pos rfl] at H; exact H
    clear H
    have H := H1
    clear H1
    have H' := Aside0.mk H
    clear H
    go_enter Try.func56, Try.ntmps56
    go_wp2_with (first | ((with_reducible refine gate_callee (f := 88) rfl ?_); refine goesL_ (some 13) rfl rfl Try.func88 (by kernel_rfl) rfl #[.int .i64 (l0.length : Int), .int .i64 1, .int .i64 6] rfl (by (try simp only [List.map_toArray, List.map_cons, List.map_nil]); first | done | rfl | (simp only [List.length_drop, List.length_take]; rfl)) ?_; (with_reducible refine (secret_within.calls (l0.length : Int) 1 6 true _ A2.out).mono ?_); rintro e w' ⟨rfl, ⟨nd, rfl⟩⟩; refine ⟨_, rfl, ?_⟩))
    go_loopg [4, 17] k (fun kq v4 v17 w' => ∃ (x4_1 : List (S43)) (x17_1 : Int), v17 = .int .i64 x17_1 ∧ Aside0 (secret_Weights.l0 kq x4_1 l0 (l0.length : Int) x17_1 = some (r1, r2)) ∧ Aside0 (kq ≤ k) ∧ Aside0 (Kd.R k43 43 w' w.heap.size (fun _ => True) v4 x4_1) ∧ Aside0 (Below w.heap.size w w'))
    case atStart => exact ⟨(([] : List (S43))), (0), (by first | rfl | (simp; done) | (simp [*]; done)), H', ⟨Nat.le_refl _⟩, ⟨by first | exact Kd.R_nil _ _ _ _ _ | exact Kd.N_nil _ _ _ _ _ | exact Kd.V_nil _ _ _ _ _ | exact Kd.Q_nil _ _ _ _ _ | exact Kd.S_nil _ _ _ _ _⟩, ⟨by repeat (first | (with_reducible first | exact HB.out | apply below_alloc | apply pw_below_drewN | apply below_drew1) | exact HB.out)⟩⟩
    case round =>
      clear H'
      try clear p2
      try clear c3
      obtain ⟨x4_1, x17_1, rfl, HA, HK1, HO_4, HB⟩ := hrel
      cases gk with
      | zero => exact absurd HA.out (by simp [secret_Weights.l0])
      | succ k1 =>
        have H := HA.out
        clear HA
        simp only [secret_Weights.l0] at H
        by_cases c4 : x17_1 < (l0.length : Int)
        · rw [if_pos c4] at H
          have c4b0 : decide (x17_1 < (l0.length : Int)) = true := decide_eq_true c4
          clear c4
          by_cases c5 : 0 ≤ x17_1
          · rw [if_pos c5] at H
            have c5b0 : decide (0 ≤ x17_1) = true := decide_eq_true c5
            clear c5
            by_cases c6 : x17_1 < (l0.length : Int)
            · rw [if_pos c6] at H
              have c6b0 : decide (x17_1 < (l0.length : Int)) = true := decide_eq_true c6
              clear c6
              by_cases c7 : x4_1.length < 8796093022208
              · rw [if_pos c7] at H
                have LMc7 := Aside0.mk c7
                clear c7
                obtain ⟨y125, hy125⟩ : ∃ y_ : List (S43), y_ = (x4_1 ++ [(⟨rd l0 x17_1, 0⟩ : S43)]) := ⟨_, rfl⟩
                replace H : (secret_Weights.l0 k1 y125 l0 (l0.length : Int) (wrap64 (x17_1 + 1))) = some (r1, r2) := by first | (rw [hy125]; with_reducible exact H) | (have H2_ := (Option.bind_some _ _).symm.trans H; rw [hy125]; with_reducible exact H2_) | (have H2_ := (Option.bind_some _ _).symm.trans H; with_reducible exact H2_) | with_reducible exact H | (rw [hy125]; exact H) | exact H
                have Ny125 := Aside0.mk hy125
                clear hy125
                have H' := Aside0.mk H
                clear H
                have p124 : 0 ≤ (x17_1 : Int) := of_decide_eq_true (by first | (with_reducible assumption) | assumption)
                have q124 : x17_1 < (l0.length : Int) := of_decide_eq_true (by first | (with_reducible assumption) | assumption)
                obtain ⟨ad124, e124, hx124_0⟩ := Kd.at_int HR0.out x17_1 p124 q124
                cases e124
                replace hx124_0 := (HB.out.cell (World.block_lt_of_cell? w _ hx124_0)).trans hx124_0
                replace p124 := eq_true p124
                replace q124 := eq_true q124
                go_wp2_with (first | ((with_reducible refine gate_builtin (b := .append) (xs := #[.tmp 21, .tmp 24]) rfl ?_); at_builtin; refine Kd.R_append k43 (w0 := w) w.heap.size rfl (.tmp 21) (.tmp 24) 22 43 (.agg #[(.int .i64 0), (.int .i64 0)]) 16 rfl Try.underlying22 info43 rfl (by decide) (by omega) u4 x4_1 (⟨rd l0 x17_1, 0⟩ : S43) [.int .i64 (rd l0 x17_1), .int .i64 0] (fun _ => True) (fun _ => False) rfl rfl ?aP (fun _ hk => hk.elim) ?aF ?aO ?aB ?aS ?aL ?_; (case aP => exact k43_mkM _ _ _ (⟨rd l0 x17_1, 0⟩ : S43)); (case aB => exact (by repeat (first | (with_reducible first | exact HB.out | apply below_alloc | apply pw_below_drewN | apply below_drew1) | exact HB.out))); (case aF => exact (fun _ _ => trivial)); (case aO => exact (by (with_reducible repeat (first | apply Kd.R_alloc | apply Kd.R_drewN | apply Kd.R_drew)); exact HO_4.out)); (case aS => exact (below_size (by repeat (first | (with_reducible first | exact HB.out | apply below_alloc | apply pw_below_drewN | apply below_drew1) | exact HB.out)))); (case aL => have := LMc7.out; omega); intro v126 w8 ho hb hg hat; rw [← Ny125.out] at ho; have n0_ := Aside0.mk (hb); have n1_ := Aside0.mk (ho); clear HB; clear HO_4; have HB := n0_; have HO127 := n1_; clear n0_ n1_; clear ho hb hg hat))
                go_roundg k1
                case measure => have := HK1.out; omega
                case rel => exact ⟨(y125), (wrap64 (x17_1 + 1)), (by first | rfl | (simp; done) | (simp [*]; done)), H', ⟨by have := HK1.out; omega⟩, ⟨by (with_reducible repeat (first | apply Kd.R_alloc | apply Kd.R_drewN | apply Kd.R_drew)); exact HO127.out⟩, ⟨by repeat (first | (with_reducible first | exact HB.out | apply below_alloc | apply pw_below_drewN | apply below_drew1) | exact HB.out)⟩⟩
              · rw [if_neg c7] at H
                exact absurd H (by simp)
            · rw [if_neg c6] at H
              exact absurd H (by simp)
          · rw [if_neg c5] at H
            exact absurd H (by simp)
        · rw [if_neg c4] at H
          have c4b0 : decide (x17_1 < (l0.length : Int)) = false := decide_eq_false c4
          clear c4
          replace H := Option.bind_eq_some_iff.mp H
          obtain ⟨t128, A90, H⟩ := H
          replace H : (if t128 = 0 then (secret_Weights.l1 k1 x4_1 ([] : List Int) (x4_1.length : Int) 0) else (some (([] : List Int), t128))) = some (r1, r2) := H
          have A9 := Aside0.mk A90
          clear A90
          by_cases c10 : t128 = 0
          · rw [if_pos c10] at H
            have c10b0 : (t128 == 0) = true := beq_iff_eq.mpr c10
            have c10b1 : (t128 != 0) = false := bne_eq_false_iff_eq.mpr c10
            clear c10
            have H' := Aside0.mk H
            clear H
            obtain ⟨Ao11, co11, eo11⟩ := Kd.R_slice HO_4.out
            subst eo11
            go_wp2_with (first | ((with_reducible refine gate_callee (f := 65) rfl ?_); refine goesL_ (some 28) rfl rfl Try.func65 (by kernel_rfl) rfl #[.slice Ao11 x4_1.length co11] rfl (by (try simp only [List.map_toArray, List.map_cons, List.map_nil]); first | done | rfl | (simp only [List.length_drop, List.length_take]; rfl)) ?_; (with_reducible refine (secret_Validate.calls _ _ x4_1 t128 _ ?side1 ?side2 A9.out).mono ?_); (case side1 => repeat (first | exact (Kd.R_reads' HO_4.out).2.2 | (with_reducible refine Kd.C_alloc ?_ _) | (with_reducible refine Kd.C_drewN ?_ _) | (with_reducible refine Kd.C_drew ?_))); (case side2 => exact (Kd.R_reads' HO_4.out).2.1); rintro e w12 ⟨rfl, hb⟩; refine ⟨_, rfl, ?_⟩; have n0_ := Aside0.mk (Kd.R_below (by (with_reducible repeat (first | apply Kd.R_alloc | apply Kd.R_drewN | apply Kd.R_drew)); exact HO_4.out) hb); have n1_ := Aside0.mk (below_step (by repeat (first | (with_reducible first | exact HB.out | apply below_alloc | apply pw_below_drewN | apply below_drew1) | exact HB.out)) hb); clear HO_4; clear HB; have HO_4 := n0_; have HB := n1_; clear n0_ n1_; (try clear hb); (try clear hb2); (try clear hk); (try clear hi)))
            go_loopg [8, 34] k1 (fun kq v8 v34 w' => ∃ (x4_2 : List (S43)) (x8_2 : List Int) (x34_2 : Int), v34 = .int .i64 x34_2 ∧ Aside0 (secret_Weights.l1 kq x4_2 x8_2 (x4_1.length : Int) x34_2 = some (r1, r2)) ∧ Aside0 (kq ≤ k1) ∧ Aside0 (Kd.R k43 43 w' w.heap.size (fun _ => True) (.slice Ao11 x4_1.length co11) x4_2) ∧ Aside0 (Kd.R (Kd.int .i64) 3 w' w.heap.size (fun _ => True) v8 x8_2) ∧ Aside0 (Below w.heap.size w w'))
            case atStart => exact ⟨(x4_1), (([] : List Int)), (0), (by first | rfl | (simp; done) | (simp [*]; done)), H', ⟨Nat.le_refl _⟩, ⟨by (with_reducible repeat (first | apply Kd.R_alloc | apply Kd.R_drewN | apply Kd.R_drew)); exact HO_4.out⟩, ⟨by first | exact Kd.R_nil _ _ _ _ _ | exact Kd.N_nil _ _ _ _ _ | exact Kd.V_nil _ _ _ _ _ | exact Kd.Q_nil _ _ _ _ _ | exact Kd.S_nil _ _ _ _ _⟩, ⟨by repeat (first | (with_reducible first | exact HB.out | apply below_alloc | apply pw_below_drewN | apply below_drew1) | exact HB.out)⟩⟩
            case round =>
              clear H'
              try clear c1
              try clear p1
              try clear q1
              try clear hx1
              try clear p2
              try clear c3
              try clear c4
              try clear c4b0
              try clear c5
              try clear c5b0
              try clear c6
              try clear c6b0
              try clear p6
              try clear c7
              try clear c8
              try clear c10
              try clear c10b0
              try clear c10b1
              try clear p12
              try clear q12
              try clear hx12
              try clear hx124_0
              try clear p124
              try clear p2
              try clear q124
              obtain ⟨x4_2, x8_2, x34_2, rfl, HA, HK2, HO_4, HO_8, HB⟩ := hrel
              have hl4_2 := (Kd.R_reads' HO_4.out).1
              rw [hl4_2] at HO_4
              (try simp only [hl4_2])
              (try simp only [hl4_2] at HO_8)
              cases gk with
              | zero => exact absurd HA.out (by simp [secret_Weights.l1])
              | succ k2 =>
                have H := HA.out
                clear HA
                simp only [secret_Weights.l1] at H
                by_cases c13 : x34_2 < (x4_1.length : Int)
                · rw [if_pos c13] at H
                  have c13b0 : decide (x34_2 < (x4_1.length : Int)) = true := decide_eq_true c13
                  (try (have cq_ := c13b0; simp only [hl4_2] at cq_))
                  clear c13
                  replace H := Option.bind_eq_some_iff.mp H
                  obtain ⟨t129, A140, H⟩ := H
                  replace H : (if 0 ≤ x34_2 then (if x34_2 < (t129.length : Int) then ((secret_of.f (t129.set (x34_2 : Int).toNat (⟨(rd_T43 t129 x34_2).f0, 1⟩ : S43))).bind fun t133 => (if 0 < (t133.length : Int) then (if x8_2.length < 17592186044416 then (secret_Weights.l1 k2 x4_2 (x8_2 ++ [rd t133 0]) (x4_1.length : Int) (wrap64 (x34_2 + 1))) else (none)) else (none))) else (none)) else (none)) = some (r1, r2) := H
                  have A14 := Aside0.mk A140
                  clear A140
                  by_cases c15 : 0 ≤ x34_2
                  · rw [if_pos c15] at H
                    have c15b0 : decide (0 ≤ x34_2) = true := decide_eq_true c15
                    clear c15
                    by_cases c16 : x34_2 < (t129.length : Int)
                    · rw [if_pos c16] at H
                      have c16b0 : decide (x34_2 < (t129.length : Int)) = true := decide_eq_true c16
                      (try (have cq_ := c16b0; simp only [hl4_2] at cq_))
                      clear c16
                      obtain ⟨y132, hy132⟩ : ∃ y_ : List (S43), y_ = (t129.set (x34_2 : Int).toNat (⟨(rd_T43 t129 x34_2).f0, 1⟩ : S43)) := ⟨_, rfl⟩
                      replace H : ((secret_of.f y132).bind fun t133 => (if 0 < (t133.length : Int) then (if x8_2.length < 17592186044416 then (secret_Weights.l1 k2 x4_2 (x8_2 ++ [rd t133 0]) (x4_1.length : Int) (wrap64 (x34_2 + 1))) else (none)) else (none))) = some (r1, r2) := by first | (rw [hy132]; with_reducible exact H) | (have H2_ := (Option.bind_some _ _).symm.trans H; rw [hy132]; with_reducible exact H2_) | (have H2_ := (Option.bind_some _ _).symm.trans H; with_reducible exact H2_) | with_reducible exact H | (rw [hy132]; exact H) | exact H
                      have Ny132 := Aside0.mk hy132
                      clear hy132
                      replace H := Option.bind_eq_some_iff.mp H
                      obtain ⟨t133, A180, H⟩ := H
                      replace H : (if 0 < (t133.length : Int) then (if x8_2.length < 17592186044416 then (secret_Weights.l1 k2 x4_2 (x8_2 ++ [rd t133 0]) (x4_1.length : Int) (wrap64 (x34_2 + 1))) else (none)) else (none)) = some (r1, r2) := H
                      have A18 := Aside0.mk A180
                      clear A180
                      by_cases c19 : 0 < (t133.length : Int)
                      · rw [if_pos c19] at H
                        have c19b0 : decide (0 < (t133.length : Int)) = true := decide_eq_true c19
                        (try (have cq_ := c19b0; simp only [hl4_2] at cq_))
                        have c19b1 : decide (0 < t133.length) = true := decide_eq_true (by omega)
                        clear c19
                        by_cases c20 : x8_2.length < 17592186044416
                        · rw [if_pos c20] at H
                          have LMc20 := Aside0.mk c20
                          clear c20
                          obtain ⟨y137, hy137⟩ : ∃ y_ : List Int, y_ = (x8_2 ++ [rd t133 0]) := ⟨_, rfl⟩
                          replace H : (secret_Weights.l1 k2 x4_2 y137 (x4_1.length : Int) (wrap64 (x34_2 + 1))) = some (r1, r2) := by first | (rw [hy137]; with_reducible exact H) | (have H2_ := (Option.bind_some _ _).symm.trans H; rw [hy137]; with_reducible exact H2_) | (have H2_ := (Option.bind_some _ _).symm.trans H; with_reducible exact H2_) | with_reducible exact H | (rw [hy137]; exact H) | exact H
                          have Ny137 := Aside0.mk hy137
                          clear hy137
                          have H' := Aside0.mk H
                          clear H
                          go_wp2_with (first | ((with_reducible refine gate_callee (f := 93) rfl ?_); refine goesL_ (some 38) rfl rfl Try.func93 (by kernel_rfl) rfl #[.slice Ao11 x4_2.length co11] rfl (by (try simp only [List.map_toArray, List.map_cons, List.map_nil]); first | done | rfl | (simp only [List.length_drop, List.length_take]; rfl)) ?_; (with_reducible refine (api_Part_93.calls _ _ x4_2 t129 _ ?side1 ?side2 A14.out).mono ?_); (case side1 => repeat (first | exact (Kd.R_reads' HO_4.out).2.2 | (with_reducible refine Kd.C_alloc ?_ _) | (with_reducible refine Kd.C_drewN ?_ _) | (with_reducible refine Kd.C_drew ?_))); (case side2 => exact (Kd.R_reads' HO_4.out).2.1); rintro e w21 ⟨v130, rfl, ho0, hb⟩; refine ⟨_, rfl, ?_⟩; have n0_ := Aside0.mk (Kd.R_elder' (by (with_reducible repeat (first | apply Kd.R_alloc | apply Kd.R_drewN | apply Kd.R_drew)); exact HO_4.out) (Kd.R_base ho0) hb); have n1_ := Aside0.mk (Kd.R_below (by (with_reducible repeat (first | apply Kd.R_alloc | apply Kd.R_drewN | apply Kd.R_drew)); exact HO_8.out) hb); have n2_ := Aside0.mk (Kd.R_lower (Kd.R_new' ho0 (Kd.R_lt (by (with_reducible repeat (first | apply Kd.R_alloc | apply Kd.R_drewN | apply Kd.R_drew)); exact HO_4.out))) (below_size (by repeat (first | (with_reducible first | exact HB.out | apply below_alloc | apply pw_below_drewN | apply below_drew1) | exact HB.out)))); have n3_ := Aside0.mk (below_step (by repeat (first | (with_reducible first | exact HB.out | apply below_alloc | apply pw_below_drewN | apply below_drew1) | exact HB.out)) hb); clear HO_4; clear HO_8; clear HB; have HO_4 := n0_; have HO_8 := n1_; have HO131 := n2_; have HB := n3_; clear n0_ n1_ n2_ n3_; (try clear hb); (try clear hb2); (try clear hk); (try clear hi); (try clear ho0); have p17 : 0 ≤ (x34_2 : Int) := of_decide_eq_true (by first | (with_reducible assumption) | assumption); have q17 : (x34_2 : Int) < ((t129.length : Int) : Int) := of_decide_eq_true (by first | (with_reducible assumption) | assumption); obtain ⟨go17, co17, eo17, gb17, gl17, cl17, HG17⟩ := Kd.R_form HO131.out (by omega); (first | cases eo17 | (injection eo17 with ea_ en_ ec_; (first | subst ea_ | (injection ea_ with ea_; subst ea_)); subst ec_; clear en_)); have GB17 := Aside0.mk gb17; have GG17 := Aside0.mk HG17; clear gb17 gl17 HG17; obtain ⟨ce17, hcl17, hM17, hcc17, hfr17⟩ := Kd.R_elem HO131.out z43 (x34_2 : Int) p17 q17; obtain rfl := k43_openM hM17; have hx17_0 : w21.cell? ⟨go17, (x34_2 : Int).toNat * 2, none⟩ = some (.int .i64 ((rd_T43 t129 x34_2).f0)) := hcc17 0 _ rfl; have hx17_1 : w21.cell? ⟨go17, (x34_2 : Int).toNat * 2 + 1, none⟩ = some (.int .i64 ((rd_T43 t129 x34_2).f1)) := hcc17 1 _ rfl; have hf17_0 : w21.frozen? ⟨go17, (x34_2 : Int).toNat * 2, none⟩ = false := hfr17 0; have hf17_1 : w21.frozen? ⟨go17, (x34_2 : Int).toNat * 2 + 1, none⟩ = false := hfr17 1; clear hcl17 hcc17 hfr17 hM17; replace p17 := eq_true p17; replace q17 := eq_true q17; have n_ := Aside0.mk (Kd.R_mono (ok' := (fun k_ => some k_ ≠ (.slice Ao11 x4_2.length co11 : Value).ownBlock)) HO131.out (fun k_ hk => hk.2)); clear HO131; have HO131 := n_; clear n_; have HX22 := Aside0.mk (show Kd.R k43 43 w21 w.heap.size (fun k_ => some k_ ≠ (.slice Ao11 x4_2.length co11 : Value).ownBlock) (.slice (some ⟨go17, 0, none⟩) t129.length co17) t129 from (by (with_reducible repeat (first | apply Kd.R_alloc | apply Kd.R_drewN | apply Kd.R_drew)); exact HO131.out)); obtain ⟨ce22, hcl22, hM22, hcc22, hfr22⟩ := Kd.R_elem HX22.out z43 (x34_2 : Int) (of_decide_eq_true (by first | (with_reducible assumption) | assumption)) (by have h_ : (x34_2 : Int) < ((t129.length : Int) : Int) := of_decide_eq_true (by first | (with_reducible assumption) | assumption); first | exact h_ | (have e_ := (Kd.R_reads' HO131.out).1; omega) | simpa using h_); obtain rfl := k43_openM hM22; have HP22 := Kd.R_seg HX22.out (x34_2 : Int) (of_decide_eq_true (by first | (with_reducible assumption) | assumption)) (by have h_ : (x34_2 : Int) < ((t129.length : Int) : Int) := of_decide_eq_true (by first | (with_reducible assumption) | assumption); first | exact h_ | (have e_ := (Kd.R_reads' HO131.out).1; omega) | simpa using h_) (seg := [.int .i64 1]) (j := 1) hcl22 hcc22 (show 2 ≤ 2 from by decide) (x' := (⟨(rd_T43 t129 x34_2).f0, 1⟩ : S43)) (k43_mkM _ _ _ (⟨(rd_T43 t129 x34_2).f0, 1⟩ : S43) ) (fun _ hk => hk); have hx22_1 := hcc22 1 _ rfl; (try simp only [show (k43).sz = 2 from rfl, Nat.mul_one, Nat.add_zero] at hx22_1); have hf22_1 := hfr22 1; (try simp only [show (k43).sz = 2 from rfl, Nat.mul_one, Nat.add_zero] at hf22_1); clear hcl22 hcc22 hfr22 hM22) | ((with_reducible refine gate_store (t := 3) (p := 42) rfl ?_); refine store_event (t := 3) (p := 42) (v := ?vo_w23) (w1 := (w21.setCell ⟨go17, (x34_2 : Int).toNat * 2 + 1, none⟩ (.int .i64 1))) ?hg ?ho ?hn ?hr ?_; (case ho => rfl); (case hg => rfl); (case hn => rfl); (case hr => first | (go_simp; done) | (go_simp; rfl)); intro w23 hw; have hg : w21.grownBy w23 (some go17) := (by rw [hw]; exact HP22.2); have hp_ : Kd.R k43 43 w23 w.heap.size (fun k_ => some k_ ≠ (.slice Ao11 x4_2.length co11 : Value).ownBlock) (.slice (some ⟨go17, 0, none⟩) t129.length co17) y132 := (by rw [hw, Ny132.out]; exact HP22.1); clear HP22; have n0_ := Aside0.mk (Kd.R_after (v := (.slice (some ⟨go17, 0, none⟩) t129.length co17)) (v1 := (.slice (some ⟨go17, 0, none⟩) t129.length co17)) (ok := (fun _ => True)) (by (with_reducible repeat (first | apply Kd.R_alloc | apply Kd.R_drewN | apply Kd.R_drew)); exact HO_4.out) hg (.inl rfl)); have n1_ := Aside0.mk (Kd.R_over' (v := (.slice (some ⟨go17, 0, none⟩) t129.length co17)) (by (with_reducible repeat (first | apply Kd.R_alloc | apply Kd.R_drewN | apply Kd.R_drew)); exact HO_8.out) (Kd.R_typed HO131.out) (by decide) hg); have n2_ := Aside0.mk (hp_); have n3_ := Aside0.mk ((by rw [hw]; exact below_set (HB.out) GB17.out : Below w.heap.size w w23)); clear HO_4; clear HO_8; clear HO131; clear HB; have HO_4 := n0_; have HO_8 := n1_; have HO131 := n2_; have HB := n3_; clear n0_ n1_ n2_ n3_; clear hg hw hp_) | ((with_reducible refine gate_callee (f := 87) rfl ?_); refine goesL_ (some 45) rfl rfl Try.func87 (by kernel_rfl) rfl #[.slice (some ⟨go17, 0, none⟩) y132.length co17] rfl (by (try simp only [List.map_toArray, List.map_cons, List.map_nil]); first | done | (rw [show y132.length = t129.length from (Kd.R_reads' HO131.out).1.symm] <;> rfl) | rfl | (simp only [List.length_drop, List.length_take]; rfl)) ?_; (with_reducible refine (secret_of.calls _ _ y132 t133 _ ?side1 ?side2 A18.out).mono ?_); (case side1 => repeat (first | exact (Kd.R_reads' HO131.out).2.2 | (with_reducible refine Kd.C_alloc ?_ _) | (with_reducible refine Kd.C_drewN ?_ _) | (with_reducible refine Kd.C_drew ?_))); (case side2 => rw [show y132.length = t129.length from (Kd.R_reads' HO131.out).1.symm]; exact (Kd.R_reads' HO131.out).2.1); rintro e w24 ⟨v134, rfl, ho0, hb⟩; refine ⟨_, rfl, ?_⟩; have n0_ := Aside0.mk (Kd.R_below (by (with_reducible repeat (first | apply Kd.R_alloc | apply Kd.R_drewN | apply Kd.R_drew)); exact HO_4.out) hb); have n1_ := Aside0.mk (Kd.R_elder' (by (with_reducible repeat (first | apply Kd.R_alloc | apply Kd.R_drewN | apply Kd.R_drew)); exact HO_8.out) (Kd.R_base ho0) hb); have n2_ := Aside0.mk (Kd.R_below (by (with_reducible repeat (first | apply Kd.R_alloc | apply Kd.R_drewN | apply Kd.R_drew)); exact HO131.out) hb); have n3_ := Aside0.mk (Kd.R_lower (Kd.R_new' ho0 (Kd.R_lt (by (with_reducible repeat (first | apply Kd.R_alloc | apply Kd.R_drewN | apply Kd.R_drew)); exact HO_8.out))) (below_size (by repeat (first | (with_reducible first | exact HB.out | apply below_alloc | apply pw_below_drewN | apply below_drew1) | exact HB.out)))); have n4_ := Aside0.mk (below_step (by repeat (first | (with_reducible first | exact HB.out | apply below_alloc | apply pw_below_drewN | apply below_drew1) | exact HB.out)) hb); clear HO_4; clear HO_8; clear HO131; clear HB; have HO_4 := n0_; have HO_8 := n1_; have HO131 := n2_; have HO135 := n3_; have HB := n4_; clear n0_ n1_ n2_ n3_ n4_; (try clear hb); (try clear hb2); (try clear hk); (try clear hi); (try clear ho0); obtain ⟨Ao25, co25, eo25⟩ := Kd.R_slice HO135.out; subst eo25; have p136 : 0 ≤ (0 : Int) := (by omega); have q136 : 0 < (t133.length : Int) := of_decide_eq_true (by first | (with_reducible assumption) | assumption); obtain ⟨ad136, e136, hx136_0⟩ := Kd.at_int (Kd.R_reads' HO135.out).2.2 0 p136 q136; cases e136; have qi136 : (0 < t133.length) = True := eq_true (by omega); (try rw [show ((0 : Int)).toNat = 0 from rfl] at hx136_0); (try rw [Addr.add_zero'] at hx136_0); replace p136 := eq_true p136; replace q136 := eq_true q136) | ((with_reducible refine gate_builtin (b := .append) (xs := #[.tmp 43, .tmp 48]) rfl ?_); at_builtin; refine Kd.R_append (Kd.int .i64) (w0 := w) w.heap.size rfl (.tmp 43) (.tmp 48) 26 3 (.int .i64 0) 8 rfl Try.underlying26 info3 rfl (by decide) (by omega) u8 x8_2 (rd t133 0) [.int .i64 (rd t133 0)] (fun k_ => some k_ ≠ (.slice (some ad136) t133.length co25 : Value).ownBlock) (fun _ => False) rfl rfl ?aP (fun _ hk => hk.elim) ?aF ?aO ?aB ?aS ?aL ?_; (case aP => exact rfl); (case aB => exact (by repeat (first | (with_reducible first | exact HB.out | apply below_alloc | apply pw_below_drewN | apply below_drew1) | exact HB.out))); (case aF => exact (fun k_ hk => Kd.fresh' (Kd.R_lt (by (with_reducible repeat (first | apply Kd.R_alloc | apply Kd.R_drewN | apply Kd.R_drew)); exact HO135.out)) k_ hk)); (case aO => exact (by (with_reducible repeat (first | apply Kd.R_alloc | apply Kd.R_drewN | apply Kd.R_drew)); exact Kd.R_mono HO_8.out (fun _ hk => hk.2))); (case aS => exact (below_size (by repeat (first | (with_reducible first | exact HB.out | apply below_alloc | apply pw_below_drewN | apply below_drew1) | exact HB.out)))); (case aL => have := LMc20.out; omega); intro v138 w26 ho hb hg hat; rw [← Ny137.out] at ho; have n0_ := Aside0.mk (Kd.R_over' (by (with_reducible repeat (first | apply Kd.R_alloc | apply Kd.R_drewN | apply Kd.R_drew)); exact HO_4.out) (Kd.R_typed (by (with_reducible repeat (first | apply Kd.R_alloc | apply Kd.R_drewN | apply Kd.R_drew)); exact HO_8.out)) (by decide) hg); have n1_ := Aside0.mk (Kd.R_over' (by (with_reducible repeat (first | apply Kd.R_alloc | apply Kd.R_drewN | apply Kd.R_drew)); exact HO131.out) (Kd.R_typed (by (with_reducible repeat (first | apply Kd.R_alloc | apply Kd.R_drewN | apply Kd.R_drew)); exact HO_8.out)) (by decide) hg); have n2_ := Aside0.mk (Kd.R_after (ok := (fun _ => True)) (by (with_reducible repeat (first | apply Kd.R_alloc | apply Kd.R_drewN | apply Kd.R_drew)); exact HO135.out) hg hat); have n3_ := Aside0.mk (hb); have n4_ := Aside0.mk (ho); clear HO_4; clear HO131; clear HO135; clear HB; clear HO_8; have HO_4 := n0_; have HO131 := n1_; have HO135 := n2_; have HB := n3_; have HO139 := n4_; clear n0_ n1_ n2_ n3_ n4_; clear ho hb hg hat))
                          (try simp only [← hl4_2])
                          go_roundg k2
                          case measure => have := HK1.out; have := HK2.out; omega
                          case rel => exact ⟨(x4_2), (y137), (wrap64 (x34_2 + 1)), (by first | rfl | (simp; done) | (simp [*]; done)), H', ⟨by have := HK1.out; have := HK2.out; omega⟩, ⟨by (try simp only [hl4_2]); (with_reducible repeat (first | apply Kd.R_alloc | apply Kd.R_drewN | apply Kd.R_drew)); exact Kd.R_mono HO_4.out (fun _ hk => trivial)⟩, ⟨by (try simp only [hl4_2]); (with_reducible repeat (first | apply Kd.R_alloc | apply Kd.R_drewN | apply Kd.R_drew)); exact Kd.R_mono HO139.out (fun _ hk => trivial)⟩, ⟨by repeat (first | (with_reducible first | exact HB.out | apply below_alloc | apply pw_below_drewN | apply below_drew1) | exact HB.out)⟩⟩
                        · rw [if_neg c20] at H
                          exact absurd H (by simp)
                      · rw [if_neg c19] at H
                        exact absurd H (by simp)
                    · rw [if_neg c16] at H
                      exact absurd H (by simp)
                  · rw [if_neg c15] at H
                    exact absurd H (by simp)
                · rw [if_neg c13] at H
                  have c13b0 : decide (x34_2 < (x4_1.length : Int)) = false := decide_eq_false c13
                  (try (have cq_ := c13b0; simp only [hl4_2] at cq_))
                  clear c13
                  simp only [Option.some.injEq, Prod.mk.injEq] at H
                  obtain ⟨rfl, rfl⟩ := H
                  go_wp2
                  go_ret2
                  exact ⟨_, by first | rfl | (simp [errW_none, errW_some] <;> rfl) | (simp [*, errW_none, errW_some] <;> rfl), by (with_reducible repeat (first | apply Kd.R_alloc | apply Kd.R_drewN | apply Kd.R_drew)); exact HO_8.out, by repeat (first | (with_reducible first | exact HB.out | apply below_alloc | apply pw_below_drewN | apply below_drew1) | exact HB.out)⟩
          · rw [if_neg c10] at H
            have c10b0 : (t128 == 0) = false := beq_eq_false_iff_ne.mpr c10
            have c10b1 : (t128 != 0) = true := bne_iff_ne.mpr c10
            simp only [Option.some.injEq, Prod.mk.injEq] at H
            obtain ⟨rfl, rfl⟩ := H
            obtain ⟨Ao27, co27, eo27⟩ := Kd.R_slice HO_4.out
            subst eo27
            go_wp2_with (first | ((with_reducible refine gate_callee (f := 65) rfl ?_); refine goesL_ (some 28) rfl rfl Try.func65 (by kernel_rfl) rfl #[.slice Ao27 x4_1.length co27] rfl (by (try simp only [List.map_toArray, List.map_cons, List.map_nil]); first | done | rfl | (simp only [List.length_drop, List.length_take]; rfl)) ?_; (with_reducible refine (secret_Validate.calls _ _ x4_1 t128 _ ?side1 ?side2 A9.out).mono ?_); (case side1 => repeat (first | exact (Kd.R_reads' HO_4.out).2.2 | (with_reducible refine Kd.C_alloc ?_ _) | (with_reducible refine Kd.C_drewN ?_ _) | (with_reducible refine Kd.C_drew ?_))); (case side2 => exact (Kd.R_reads' HO_4.out).2.1); rintro e w28 ⟨rfl, hb⟩; refine ⟨_, rfl, ?_⟩; have n0_ := Aside0.mk (Kd.R_below (by (with_reducible repeat (first | apply Kd.R_alloc | apply Kd.R_drewN | apply Kd.R_drew)); exact HO_4.out) hb); have n1_ := Aside0.mk (below_step (by repeat (first | (with_reducible first | exact HB.out | apply below_alloc | apply pw_below_drewN | apply below_drew1) | exact HB.out)) hb); clear HO_4; clear HB; have HO_4 := n0_; have HB := n1_; clear n0_ n1_; (try clear hb); (try clear hb2); (try clear hk); (try clear hi)))
            go_ret2
            exact ⟨_, by first | rfl | (simp [errW_none, errW_some] <;> rfl) | (simp [*, errW_none, errW_some] <;> rfl), by first | exact Kd.R_nil _ _ _ _ _ | exact Kd.N_nil _ _ _ _ _ | exact Kd.V_nil _ _ _ _ _ | exact Kd.Q_nil _ _ _ _ _ | exact Kd.S_nil _ _ _ _ _, by repeat (first | (with_reducible first | exact HB.out | apply below_alloc | apply pw_below_drewN | apply below_drew1) | exact HB.out)⟩
  · replace c3 := Bool.eq_false_iff.mpr c3
    subst c3
    have H1 : (some (([] : List Int), 3)) = some (r1, r2) := by rw [if_neg (show ¬ (false = true) by decide)] at H; exact H
    clear H
    have H := H1
    clear H1
    simp only [Option.some.injEq, Prod.mk.injEq] at H
    obtain ⟨rfl, rfl⟩ := H
    go_enter Try.func56, Try.ntmps56
    go_wp2_with (first | ((with_reducible refine gate_callee (f := 88) rfl ?_); refine goesL_ (some 13) rfl rfl Try.func88 (by kernel_rfl) rfl #[.int .i64 (l0.length : Int), .int .i64 1, .int .i64 6] rfl (by (try simp only [List.map_toArray, List.map_cons, List.map_nil]); first | done | rfl | (simp only [List.length_drop, List.length_take]; rfl)) ?_; (with_reducible refine (secret_within.calls (l0.length : Int) 1 6 false _ A2.out).mono ?_); rintro e w' ⟨rfl, ⟨nd, rfl⟩⟩; refine ⟨_, rfl, ?_⟩))
    go_ret2
    exact ⟨_, by first | rfl | (simp [errW_none, errW_some] <;> rfl) | (simp [*, errW_none, errW_some] <;> rfl), by first | exact Kd.R_nil _ _ _ _ _ | exact Kd.N_nil _ _ _ _ _ | exact Kd.V_nil _ _ _ _ _ | exact Kd.Q_nil _ _ _ _ _ | exact Kd.S_nil _ _ _ _ _, by repeat (first | (with_reducible first | exact HB.out | apply below_alloc | apply pw_below_drewN | apply below_drew1) | exact HB.out)⟩

end Go.Proofs.Ythlbjdiicmojfaa.P

/-! Part PF58. -/
-- Written for this claim by wip/print_more.py (a session's program that runs the kit's printer with hand-proved functions beside). Lean checks it.
namespace Go.Proofs.Ythlbjdiicmojfaa.P
open Go.RowKit Go.Proofs.YthlbjdiicmojfaaW.PrintWords Go.Proofs.YthlbjdiicmojfaaW.PrintLast Go.Proofs.YthlbjdiicmojfaaW.PrintMore
attribute [local go_sem] max2_int min2_int max_two min_two max_three min_three max_four min_four   -- for this text's walks alone
set_option linter.unusedVariables false
set_option linter.unusedSimpArgs false

/-! ### secret_Secret: function 58 -/
def secret_Secret.f (l0 : List (S43)) : Option (Int × Int) := (secret_Curve.f l0).bind fun bt351 => (if bt351.2 = 0 then (if 0 < (bt351.1.length : Int) then (some (rd bt351.1 0, 0)) else (none)) else (some (0, bt351.2)))
set_option maxHeartbeats 8000000 in
set_option maxRecDepth 100000 in
theorem secret_Secret.calls (A0 : Option Addr) (c0 : Nat) (l0 : List (S43)) (r1 : Int) (r2 : Int) (w : World) (hr0 : Kd.C k43 w A0 l0.length l0) (hc0 : l0.length ≤ c0) (h : secret_Secret.f l0 = some (r1, r2)) :
    Calls Try.prog 58 #[.slice A0 l0.length c0] w fun e w' => e = .returned (.tuple #[.int .i64 r1, .int .i64 r2]) ∧ Below w.heap.size w w' := by
  have HR0 := Aside0.mk hr0
  have HC0 := Aside0.mk hc0
  clear hr0 hc0
  have HB := Aside0.mk (Below.refl w.heap.size w)
  have H : ((secret_Curve.f l0).bind fun bt351 => (if bt351.2 = 0 then (if 0 < (bt351.1.length : Int) then (some (rd bt351.1 0, 0)) else (none)) else (some (0, bt351.2)))) = some (r1, r2) := h
  clear h
  replace H := Option.bind_eq_some_iff.mp H
  obtain ⟨⟨t351, t352⟩, A20, H⟩ := H
  replace H : (if t352 = 0 then (if 0 < (t351.length : Int) then (some (rd t351 0, 0)) else (none)) else (some (0, t352))) = some (r1, r2) := H
  have A2 := Aside0.mk A20
  clear A20
  by_cases c3 : t352 = 0
  · rw [if_pos c3] at H
    have c3b0 : (t352 == 0) = true := beq_iff_eq.mpr c3
    have c3b1 : (t352 != 0) = false := bne_eq_false_iff_eq.mpr c3
    clear c3
    by_cases c4 : 0 < (t351.length : Int)
    · rw [if_pos c4] at H
      have c4b0 : decide (0 < (t351.length : Int)) = true := decide_eq_true c4
      have c4b1 : decide (0 < t351.length) = true := decide_eq_true (by omega)
      clear c4
      simp only [Option.some.injEq, Prod.mk.injEq] at H
      obtain ⟨rfl, rfl⟩ := H
      go_enter Try.func58, Try.ntmps58
      go_wp2_with (first | ((with_reducible refine gate_callee (f := 55) rfl ?_); refine goesL_ (some 8) rfl rfl Try.func55 (by kernel_rfl) rfl #[.slice A0 l0.length c0] rfl (by (try simp only [List.map_toArray, List.map_cons, List.map_nil]); first | done | rfl | (simp only [List.length_drop, List.length_take]; rfl)) ?_; (with_reducible refine (secret_Curve.calls _ _ l0 t351 t352 _ ?side1 ?side2 A2.out).mono ?_); (case side1 => repeat (first | exact HR0.out | (with_reducible refine Kd.C_alloc ?_ _) | (with_reducible refine Kd.C_drewN ?_ _) | (with_reducible refine Kd.C_drew ?_))); (case side2 => exact HC0.out); rintro e w5 ⟨v353, rfl, ho0, hb⟩; refine ⟨_, rfl, ?_⟩; have n0_ := Aside0.mk (Kd.R_lower ho0 (below_size (by repeat (first | (with_reducible first | exact HB.out | apply below_alloc | apply pw_below_drewN | apply below_drew1) | exact HB.out)))); have n1_ := Aside0.mk (below_step (by repeat (first | (with_reducible first | exact HB.out | apply below_alloc | apply pw_below_drewN | apply below_drew1) | exact HB.out)) hb); clear HB; have HO354 := n0_; have HB := n1_; clear n0_ n1_; (try clear hb); (try clear hb2); (try clear hk); (try clear hi); (try clear ho0); obtain ⟨Ao6, co6, eo6⟩ := Kd.R_slice HO354.out; subst eo6; have p355 : 0 ≤ (0 : Int) := (by omega); have q355 : 0 < (t351.length : Int) := of_decide_eq_true (by first | (with_reducible assumption) | assumption); obtain ⟨ad355, e355, hx355_0⟩ := Kd.at_int (Kd.R_reads' HO354.out).2.2 0 p355 q355; cases e355; have qi355 : (0 < t351.length) = True := eq_true (by omega); (try rw [show ((0 : Int)).toNat = 0 from rfl] at hx355_0); (try rw [Addr.add_zero'] at hx355_0); replace p355 := eq_true p355; replace q355 := eq_true q355))
      go_ret2
      exact ⟨by first | rfl | (simp [errW_none, errW_some] <;> rfl) | (simp [*, errW_none, errW_some] <;> rfl), by repeat (first | (with_reducible first | exact HB.out | apply below_alloc | apply pw_below_drewN | apply below_drew1) | exact HB.out)⟩
    · rw [if_neg c4] at H
      exact absurd H (by simp)
  · rw [if_neg c3] at H
    have c3b0 : (t352 == 0) = false := beq_eq_false_iff_ne.mpr c3
    have c3b1 : (t352 != 0) = true := bne_iff_ne.mpr c3
    simp only [Option.some.injEq, Prod.mk.injEq] at H
    obtain ⟨rfl, rfl⟩ := H
    go_enter Try.func58, Try.ntmps58
    go_wp2_with (first | ((with_reducible refine gate_callee (f := 55) rfl ?_); refine goesL_ (some 8) rfl rfl Try.func55 (by kernel_rfl) rfl #[.slice A0 l0.length c0] rfl (by (try simp only [List.map_toArray, List.map_cons, List.map_nil]); first | done | rfl | (simp only [List.length_drop, List.length_take]; rfl)) ?_; (with_reducible refine (secret_Curve.calls _ _ l0 t351 t352 _ ?side1 ?side2 A2.out).mono ?_); (case side1 => repeat (first | exact HR0.out | (with_reducible refine Kd.C_alloc ?_ _) | (with_reducible refine Kd.C_drewN ?_ _) | (with_reducible refine Kd.C_drew ?_))); (case side2 => exact HC0.out); rintro e w7 ⟨v353, rfl, ho0, hb⟩; refine ⟨_, rfl, ?_⟩; have n0_ := Aside0.mk (Kd.R_lower ho0 (below_size (by repeat (first | (with_reducible first | exact HB.out | apply below_alloc | apply pw_below_drewN | apply below_drew1) | exact HB.out)))); have n1_ := Aside0.mk (below_step (by repeat (first | (with_reducible first | exact HB.out | apply below_alloc | apply pw_below_drewN | apply below_drew1) | exact HB.out)) hb); clear HB; have HO354 := n0_; have HB := n1_; clear n0_ n1_; (try clear hb); (try clear hb2); (try clear hk); (try clear hi); (try clear ho0)))
    go_ret2
    exact ⟨by first | rfl | (simp [errW_none, errW_some] <;> rfl) | (simp [*, errW_none, errW_some] <;> rfl), by repeat (first | (with_reducible first | exact HB.out | apply below_alloc | apply pw_below_drewN | apply below_drew1) | exact HB.out)⟩

end Go.Proofs.Ythlbjdiicmojfaa.P

/-! Part H42. -/
namespace Go.Proofs.Ythlbjdiicmojfaa.P
open Go.RowKit Go.Proofs.YthlbjdiicmojfaaW.PrintWords Go.Proofs.YthlbjdiicmojfaaW.PrintLast Go.Proofs.YthlbjdiicmojfaaW.PrintMore
set_option linter.unusedVariables false

theorem own_K {w : World} {base : Nat} {k : Kn} (hb : base ≤ w.heap.size) : Kd.R kK 87 (w.alloc (.cells #[encK k] 87)) base (fun _ => True) (.slice (some ⟨w.heap.size, 0, none⟩) 1 1) [k] := by
  refine Kd.R_of_own (enc := encK) (h1 := encK_one) (xs := [k]) ?_ (fun _ _ => trivial)
  have h := World.ownsRow_lit (base := base) (e := 87) (size := 1) w #[encK k] 1 hb (by simp [maxLen]) (by simp)
  simpa [encs] using h

set_option maxHeartbeats 4000000 in
set_option maxRecDepth 100000 in
theorem secret_Complete.calls (A0 : Option Addr) (c0 : Nat) (l0 : List (S43)) (a1 : Int) (r1 : List Int) (r2 : Int) (w : World) (hr0 : Kd.C k43 w A0 l0.length l0) (hc0 : l0.length ≤ c0) (h : secret_Complete.f l0 a1 = some (r1, r2)) :
    Calls Try.prog 42 #[.slice A0 l0.length c0, .int .i64 a1] w fun e w' => ∃ v0_ : Value, e = .returned (.tuple #[v0_, .int .i64 r2]) ∧ Kd.R (Kd.int .i64) 3 w' w.heap.size (fun _ => True) v0_ r1 ∧ Below w.heap.size w w' := by
  have HV := Aside0.mk (secret_Validate.calls A0 c0 l0 (valid l0) w hr0 hc0 rfl)
  have HN := Aside0.mk (isNumber_eq a1)
  have HB := Aside0.mk (Below.refl w.heap.size w)
  have HR0 := Aside0.mk hr0
  have hu43 := Try.underlying43
  have hu67 := Try.underlying67
  unfold secret_Complete.f at h
  split at h
  · rename_i hv
    obtain ⟨hlen, hok, _⟩ := valid_iff.1 hv
    have HOK := Aside0.mk hok
    rw [hv] at HV
    clear hok hv
    split at h
    · rename_i hn
      rw [hn] at HN
      have HNN := Aside0.mk hn
      clear hn
      split at h
      · rename_i h6
        simp only [Option.some.injEq, Prod.mk.injEq] at h
        obtain ⟨rfl, rfl⟩ := h
        have h6b : (6 : Int) ≤ (l0.length : Int) := by omega
        clear hr0 hc0
        go_enter Try.func42, Try.ntmps42
        go_wp2_with fail
        with_reducible refine HV.out.mono ?_
        rintro e w1 ⟨rfl, hb⟩
        have HB1 := Aside0.mk hb
        clear hb
        go_wp2_with fail
        with_reducible refine (secret_isNumber.calls _ _ _ HN.out).mono ?_
        rintro e w' ⟨rfl, ⟨nd, rfl⟩⟩
        go_wp2_with fail
        go_ret2
        exact ⟨_, rfl, Kd.R_nil _ _ _ _ _, pw_below_drewN HB1.out _⟩
      · rename_i h6
        simp only [Option.some.injEq, Prod.mk.injEq] at h
        obtain ⟨hr, rfl⟩ := h
        have HR := Aside0.mk hr
        have h6b : (l0.length : Int) < 6 := by omega
        clear hr hr0 hc0 h6
        go_enter Try.func42, Try.ntmps42
        go_wp2_with fail
        with_reducible refine HV.out.mono ?_
        rintro e w1 ⟨rfl, hb⟩
        have HB1 := Aside0.mk hb
        clear hb
        go_wp2_with fail
        with_reducible refine (secret_isNumber.calls _ _ _ HN.out).mono ?_
        rintro e w' ⟨rfl, ⟨nd, rfl⟩⟩
        have HB2 := Aside0.mk (pw_below_drewN HB1.out nd)
        clear HB1
        obtain ⟨wa, hwa⟩ : ∃ wa, w1.drewN nd = wa := ⟨_, rfl⟩
        rw [hwa] at HB2 ⊢
        clear hwa
        have HO0 := Aside0.mk (own_K (w := wa) (base := w.heap.size) (k := .recipe a1) (below_size HB2.out))
        have HB3 := Aside0.mk (below_alloc HB2.out (.cells #[encK (.recipe a1)] 87))
        go_wp2_with fail
        go_loopg [7, 26] l0.length (fun gg v3 v8 wr => ∃ i : Nat, i ≤ l0.length ∧ l0.length - i ≤ gg ∧ v8 = .int .i64 i ∧ Aside0 (Kd.R kK 87 wr w.heap.size (fun _ => True) v3 (.recipe a1 :: kns (l0.take i))) ∧ Aside0 (Below w.heap.size w wr))
        case atStart => exact ⟨0, Nat.zero_le _, by omega, rfl, HO0, HB3⟩
        case round =>
          clear HO0 HB3 HB2
          obtain ⟨i, hi, hg, rfl, HO, HB⟩ := hrel
          by_cases hlt : i < l0.length
          · have hltz : (i : Int) < (l0.length : Int) := by omega
            have hq0 : (0 : Int) ≤ (i : Int) := by omega
            obtain ⟨ad, e1, hx0, hx1⟩ := at_T43 (Kd.C_below HR0.out HB.out) (i : Int) hq0 hltz
            cases e1
            rw [rd43_get l0 i hlt] at hx0 hx1
            simp only [Int.toNat_natCast] at hx0 hx1
            have hsn : Kn.recipe a1 :: kns (l0.take (i + 1)) = (Kn.recipe a1 :: kns (l0.take i)) ++ [.share l0[i].f0 l0[i].f1] := by unfold kns; rw [List.take_succ_eq_append_getElem hlt, List.map_append]; rfl
            have HSN := Aside0.mk hsn
            have hkl : (Kn.recipe a1 :: kns (l0.take i)).length = i + 1 := by simp [kns]; omega
            have HKL := Aside0.mk hkl
            clear hsn hkl
            go_wp2_with (first | ((with_reducible refine gate_builtin (b := .append) (xs := #[.tmp 30, .tmp 33]) rfl ?_); at_builtin; refine Kd.R_append kK (w0 := w) w.heap.size rfl (.tmp 30) (.tmp 33) 66 87 .nilIface 16 rfl Try.underlying66 info87 rfl (by decide) (by omega) u7 (Kn.recipe a1 :: kns (l0.take i)) (.share l0[i].f0 l0[i].f1) [encK (.share l0[i].f0 l0[i].f1)] (fun _ => True) (fun _ => False) rfl (by rw [World.size_alloc]; rfl) ?aP (fun _ hk => hk.elim) ?aF ?aO ?aB ?aS ?aL ?_; (case aP => exact rfl); (case aB => exact below_alloc HB.out _); (case aF => exact fun _ _ => trivial); (case aO => exact Kd.R_alloc HO.out _); (case aS => exact below_size (below_alloc HB.out _)); (case aL => rw [HKL.out]; omega); intro v1 w1 ho hb hg_ hat; have HO2 := Aside0.mk ho; have HB2 := Aside0.mk hb; clear ho hb hg_ hat))
            go_roundg (l0.length - (i + 1))
            case measure => omega
            case rel => exact ⟨i + 1, by omega, by omega, by go_num, ⟨by rw [HSN.out]; exact HO2.out⟩, HB2⟩
          · have hiz : ¬ (i : Int) < (l0.length : Int) := by omega
            have HE : Aside0 (l0.take i = l0) := ⟨List.take_of_length_le (by omega)⟩
            rw [HE.out] at HO
            obtain ⟨A3, c3, e3⟩ := Kd.R_slice HO.out
            subst e3
            have HT := Aside0.mk (through_any A3 c3 (Kn.recipe a1 :: kns l0) wr (Kd.R_reads' HO.out).2.2 (by simp [kns]; omega)
              (by intro k hk; rcases List.mem_cons.1 hk with rfl | hk; exact rfl; simp only [kns, List.mem_map] at hk; obtain ⟨p, hp, rfl⟩ := hk; have := okP_iff.1 (HOK.out p hp); exact num_iff.2 ⟨by show 0 ≤ p.f0; omega, by show p.f0 ≤ 250; omega⟩)
              (by intro k hk; rcases List.mem_cons.1 hk with rfl | hk; exact HNN.out; simp only [kns, List.mem_map] at hk; obtain ⟨p, hp, rfl⟩ := hk; have := okP_iff.1 (HOK.out p hp); exact num_iff.2 ⟨by show 0 ≤ p.f1; omega, by show p.f1 ≤ 250; omega⟩))
            obtain ⟨K3, hK3⟩ : ∃ K3, Kn.recipe a1 :: kns l0 = K3 := ⟨_, rfl⟩
            have HK3 := Aside0.mk hK3
            rw [hK3] at HT HO ⊢
            clear hK3
            go_wp2_with fail
            with_reducible refine HT.out.mono ?_
            rintro e w2 ⟨v2, rfl, ho2, hb2⟩
            have HO2 := Aside0.mk (Kd.R_lower ho2 (below_size HB.out))
            have HB2 := Aside0.mk (below_step HB.out hb2)
            clear ho2 hb2
            go_wp2_with fail
            go_ret2
            refine ⟨_, rfl, ?_, HB2.out⟩
            rw [← HR.out]
            have := HO2.out
            rw [← HK3.out, List.map_cons, kns_pts] at this
            exact this
    · rename_i hn
      have hn' : num a1 = false := by simpa using hn
      rw [hn'] at HN
      clear hn hn'
      simp only [Option.some.injEq, Prod.mk.injEq] at h
      obtain ⟨rfl, rfl⟩ := h
      clear hr0 hc0
      go_enter Try.func42, Try.ntmps42
      go_wp2_with fail
      with_reducible refine HV.out.mono ?_
      rintro e w1 ⟨rfl, hb⟩
      have HB1 := Aside0.mk hb
      clear hb
      go_wp2_with fail
      with_reducible refine (secret_isNumber.calls _ _ _ HN.out).mono ?_
      rintro e w' ⟨rfl, ⟨nd, rfl⟩⟩
      go_wp2_with fail
      go_ret2
      exact ⟨_, rfl, Kd.R_nil _ _ _ _ _, pw_below_drewN HB1.out _⟩
  · rename_i hv
    simp only [Option.some.injEq, Prod.mk.injEq] at h
    obtain ⟨rfl, rfl⟩ := h
    have hv1 : (valid l0 == 0) = false := by simpa using hv
    have hv2 : (valid l0 != 0) = true := by simpa using hv
    obtain ⟨vv, hvv⟩ : ∃ vv, valid l0 = vv := ⟨_, rfl⟩
    rw [hvv] at HV hv1 hv2 ⊢
    clear hr0 hc0 hv hvv
    go_enter Try.func42, Try.ntmps42
    go_wp2_with fail
    with_reducible refine HV.out.mono ?_
    rintro e w1 ⟨rfl, hb⟩
    have HB1 := Aside0.mk hb
    clear hb
    go_wp2_with fail
    go_ret2
    exact ⟨_, rfl, Kd.R_nil _ _ _ _ _, HB1.out⟩
end Go.Proofs.Ythlbjdiicmojfaa.P

/-! Part H94. -/
namespace Go.Proofs.Ythlbjdiicmojfaa.P
open Go.RowKit Go.Proofs.YthlbjdiicmojfaaW.PrintWords Go.Proofs.YthlbjdiicmojfaaW.PrintLast Go.Proofs.YthlbjdiicmojfaaW.PrintMore
set_option linter.unusedVariables false

set_option maxHeartbeats 2000000 in
set_option maxRecDepth 100000 in
theorem same95 (x y a b : Int) (w : World) : Calls Try.prog 95 #[.agg #[.int .i64 x, .int .i64 y], .agg #[.int .i64 a, .int .i64 b]] w fun e w' => e = .returned (.bool (x == a)) ∧ Below w.heap.size w w' := by
  have hu43 := Try.underlying43
  go_enter Try.func95, Try.ntmps95
  go_wp2_with fail
  go_ret
  exact ⟨rfl, below_alloc (below_alloc (Below.refl _ _) _) _⟩
theorem eg95 : ∀ args w, (callFunc 95 args).run Try.prog w = .ok (.enter 95 args) w := enters_of Try.func95 (by kernel_rfl) rfl

theorem eqX_step {l m : List S43} {k : Nat} (hk : k < l.length) (hm : k < m.length) (h : (l.take k).map S43.f0 = (m.take k).map S43.f0) (he : (l[k].f0 == m[k].f0) = true) : (l.take (k + 1)).map S43.f0 = (m.take (k + 1)).map S43.f0 := by
  rw [List.take_succ_eq_append_getElem hk, List.take_succ_eq_append_getElem hm, List.map_append, List.map_append, h]
  simp [beq_iff_eq.1 he]
theorem eqX_fell {l m : List S43} {k : Nat} (hk : k < l.length) (hm : k < m.length) (he : (l[k].f0 == m[k].f0) = false) : ¬ l.map S43.f0 = m.map S43.f0 := by
  intro h
  have h1 := congrArg (fun x : List Int => x[k]?) h
  simp only [List.getElem?_map, List.getElem?_eq_getElem hk, List.getElem?_eq_getElem hm, Option.map_some, Option.some.injEq] at h1
  rw [h1] at he; simp at he

set_option maxHeartbeats 4000000 in
set_option maxRecDepth 100000 in
theorem equalX (A0 : Option Addr) (c0 : Nat) (l0 : List S43) (A1 : Option Addr) (c1 : Nat) (l1 : List S43) (w : World) (hr0 : Kd.C k43 w A0 l0.length l0) (hr1 : Kd.C k43 w A1 l1.length l1) :
    Calls Try.prog 94 #[.slice A0 l0.length c0, .slice A1 l1.length c1, .func (.func 95) #[] #[]] w fun e w' => e = .returned (.bool (decide (l0.map S43.f0 = l1.map S43.f0))) ∧ Below w.heap.size w w' := by
  have hu43 := Try.underlying43
  have HR0 := Aside0.mk hr0
  have HR1 := Aside0.mk hr1
  have hmax := Kd.C_max hr0
  have heg := eg95
  have HB := Aside0.mk (Below.refl w.heap.size w)
  clear hr0 hr1
  by_cases hlen : l0.length = l1.length
  · have hb1 : ((l0.length : Int) != (l1.length : Int)) = false := by rw [hlen]; simp
    have hb2 : (l0.length != l1.length) = false := by rw [hlen]; simp
    have hle1 : l0.length ≤ l1.length := by omega
    have HLEN := Aside0.mk hlen
    clear hlen
    go_enter Try.func94, Try.ntmps94
    go_wp2_with fail
    go_loopg [17] l0.length (fun gg s17 wr => ∃ kk : Nat, kk ≤ l0.length ∧ l0.length - kk ≤ gg ∧ s17 = .int .i64 kk ∧ Aside0 (Below w.heap.size w wr) ∧ Aside0 ((l0.take kk).map S43.f0 = (l1.take kk).map S43.f0))
    case atStart => exact ⟨0, Nat.zero_le _, by omega, rfl, HB, ⟨by simp⟩⟩
    case round =>
      clear HB
      obtain ⟨kk, hkk, hg, rfl, HB, HA⟩ := hrel
      by_cases hlt : kk < l0.length
      · have hlt1 : kk < l1.length := by omega
        have hltz : (kk : Int) < (l0.length : Int) := by omega
        have hltz1 : (kk : Int) < (l1.length : Int) := by omega
        have hq0 : (0 : Int) ≤ (kk : Int) := by omega
        obtain ⟨ad, e1, hx0, hx1⟩ := at_T43 (Kd.C_below HR0.out HB.out) (kk : Int) hq0 hltz
        cases e1
        obtain ⟨ad1, e2, hy0, hy1⟩ := at_T43 (Kd.C_below (Kd.C_below HR1.out HB.out) (below_alloc (Below.refl _ wr) (.cells #[.int .i64 l0[kk].f0, .int .i64 l0[kk].f1] 43))) (kk : Int) hq0 hltz1
        cases e2
        rw [rd43_get l0 kk hlt] at hx0 hx1
        rw [rd43_get l1 kk hlt1] at hy0 hy1
        simp only [Int.toNat_natCast] at hx0 hx1 hy0 hy1
        have hstep := eqX_step hlt hlt1 HA.out
        have hfell := eqX_fell hlt hlt1
        cases hq : (l0[kk].f0 == l1[kk].f0) with
        | true =>
          have HS := Aside0.mk (hstep hq)
          have HQ := Aside0.mk hq
          clear hstep hfell hq
          go_wp2_with fail
          with_reducible refine (same95 l0[kk].f0 l0[kk].f1 l1[kk].f0 l1[kk].f1 _).mono ?_
          rw [HQ.out]
          rintro e w' ⟨rfl, hb⟩
          have HB2 := Aside0.mk (below_step (below_alloc (below_alloc HB.out _) _) hb)
          clear hb
          go_wp2_with fail
          go_roundg (l0.length - (kk + 1))
          case measure => omega
          case rel => exact ⟨kk + 1, by omega, by omega, by go_num, HB2, HS⟩
        | false =>
          have HS := Aside0.mk (hfell hq)
          have HQ := Aside0.mk hq
          clear hstep hfell hq
          go_wp2_with fail
          with_reducible refine (same95 l0[kk].f0 l0[kk].f1 l1[kk].f0 l1[kk].f1 _).mono ?_
          rw [HQ.out]
          rintro e w' ⟨rfl, hb⟩
          have HB2 := Aside0.mk (below_step (below_alloc (below_alloc HB.out _) _) hb)
          clear hb
          go_wp2_with fail
          go_ret
          exact ⟨by rw [decide_eq_false HS.out]; rfl, HB2.out⟩
      · have hltz : ¬ (kk : Int) < (l0.length : Int) := by omega
        have HT : Aside0 (l0.map S43.f0 = l1.map S43.f0) := ⟨by have h1 := HA.out; have h2 := HLEN.out; rw [List.take_of_length_le (by omega), List.take_of_length_le (by omega)] at h1; exact h1⟩
        go_wp2_with fail
        go_ret
        exact ⟨by rw [decide_eq_true HT.out]; rfl, HB.out⟩
  · have hb1 : ((l0.length : Int) != (l1.length : Int)) = true := by rw [bne_iff_ne]; omega
    have hb2 : (l0.length != l1.length) = true := by rw [bne_iff_ne]; exact hlen
    have HS : Aside0 (¬ l0.map S43.f0 = l1.map S43.f0) := ⟨fun h => hlen (by have := congrArg List.length h; simpa using this)⟩
    clear hlen
    go_enter Try.func94, Try.ntmps94
    go_wp2_with fail
    go_ret
    exact ⟨by rw [decide_eq_false HS.out]; rfl, HB.out⟩
end Go.Proofs.Ythlbjdiicmojfaa.P

/-! Part H100. -/
namespace Go.Proofs.Ythlbjdiicmojfaa.P
open Go.RowKit Go.Proofs.YthlbjdiicmojfaaW.PrintWords Go.Proofs.YthlbjdiicmojfaaW.PrintLast Go.Proofs.YthlbjdiicmojfaaW.PrintMore
set_option linter.unusedVariables false

/-- The cells of parts. -/
def fl : List S43 → List Value
  | [] => []
  | p :: l => .int .i64 p.f0 :: .int .i64 p.f1 :: fl l
theorem fl_length : ∀ l, (fl l).length = l.length * 2
  | [] => rfl
  | p :: l => by simp [fl, fl_length l]; omega
theorem fl_drop : ∀ (l : List S43) (k : Nat), fl (l.drop k) = (fl l).drop (k * 2)
  | l, 0 => by simp
  | [], k + 1 => by simp [fl]
  | p :: l, k + 1 => by
    rw [List.drop_succ_cons, fl_drop l k, show (k + 1) * 2 = k * 2 + 1 + 1 by omega]
    simp [fl]
theorem fl_seg : ∀ (l : List S43) (j : Nat) (p : S43), l[j]? = some p → ((fl l).drop (j * 2)).take 2 = [.int .i64 p.f0, .int .i64 p.f1] := by
  intro l j p h
  rw [← fl_drop]
  obtain ⟨hj, rfl⟩ := List.getElem?_eq_some_iff.1 h
  rw [List.drop_eq_getElem_cons hj]
  rfl

theorem own43 {w : World} {base : Nat} {v : Value} {l : List S43} {ok : Nat → Prop} (h : Kd.R k43 43 w base ok v l) : w.ownsRow base 43 2 v l.length (fl l) := by
  obtain ⟨_, inner, ho, hr⟩ := h
  have e : inner = fl l := by
    apply List.ext_getElem?
    intro i
    have hl : inner.length = l.length * 2 := hr.1
    rcases Nat.lt_or_ge (i / 2) l.length with hj | hj
    · have h2 := k43_openM (hr.2 (i / 2) _ (List.getElem?_eq_getElem hj))
      have h3 := fl_seg l (i / 2) _ (List.getElem?_eq_getElem hj)
      have h4 : ((inner.drop (i / 2 * 2)).take 2)[i % 2]? = (((fl l).drop (i / 2 * 2)).take 2)[i % 2]? := by
        rw [h3]; exact congrArg (fun x : List Value => x[i % 2]?) h2
      rw [List.getElem?_take, List.getElem?_take, List.getElem?_drop, List.getElem?_drop, if_pos (by omega), if_pos (by omega), show i / 2 * 2 + i % 2 = i by omega] at h4
      exact h4
    · rw [List.getElem?_eq_none (by omega), List.getElem?_eq_none (by rw [fl_length]; omega)]
  rw [← e]; exact ho
theorem R43 {w : World} {base : Nat} {v : Value} {l : List S43} (h : w.ownsRow base 43 2 v l.length (fl l)) : Kd.R k43 43 w base (fun _ => True) v l :=
  ⟨fun _ _ => trivial, fl l, h, fl_length l, fun j p hp => by
    have := fl_seg l j p hp
    show k43.M w base _ p (((fl l).drop (j * 2)).take 2)
    rw [this]
    exact k43_mkM _ _ _ p⟩

end Go.Proofs.Ythlbjdiicmojfaa.P

/-! Part H57. -/
namespace Go.Proofs.Ythlbjdiicmojfaa.P
open Go.RowKit Go.Proofs.YthlbjdiicmojfaaW.PrintWords Go.Proofs.YthlbjdiicmojfaaW.PrintLast Go.Proofs.YthlbjdiicmojfaaW.PrintMore
set_option linter.unusedVariables false

theorem fl_set : ∀ (l : List S43) (k : Nat) (hk : k < l.length) (s : Int), fl (l.set k ⟨l[k].f0, s⟩) = (fl l).take (k * 2 + 1) ++ [.int .i64 s] ++ (fl l).drop (k * 2 + 1 + 1)
  | p :: l, 0, _, s => by simp [fl]
  | p :: l, k + 1, hk, s => by
    have h := fl_set l k (by simpa using hk) s
    rw [show (k + 1) * 2 + 1 = k * 2 + 1 + 1 + 1 by omega]
    simp only [List.set_cons_succ, List.getElem_cons_succ, fl, List.take_succ_cons, List.drop_succ_cons, List.cons_append]
    rw [h]
theorem own43_set {w : World} {base g cap : Nat} {l : List S43} (h : w.ownsRow base 43 2 (.slice (some ⟨g, 0, none⟩) l.length cap) l.length (fl l)) (k : Nat) (hk : k < l.length) (s : Int) :
    (w.setCell ⟨g, k * 2 + 1, none⟩ (.int .i64 s)).ownsRow base 43 2 (.slice (some ⟨g, 0, none⟩) (l.set k ⟨l[k].f0, s⟩).length cap) (l.set k ⟨l[k].f0, s⟩).length (fl (l.set k ⟨l[k].f0, s⟩)) := by
  obtain ⟨hlen0, h2⟩ := h
  rcases h2 with ⟨he, _⟩ | ⟨g', cap', cur, he, h3, h4, h5, h6, h7, h8⟩
  · cases he
  · cases he
    obtain ⟨cur2, hc2, hs2, ht2⟩ := setCells_row [.int .i64 s] (k * 2 + 1) w cur h4 (by simp only [List.length_cons, List.length_nil]; omega)
    have hsz : cur.toList.length = cap * 2 := by rw [Array.length_toList]; exact h7
    refine ⟨fl_length _, .inr ⟨g, cap, cur2, rfl, h3, hc2, by rw [List.length_set]; omega, h6, by rw [hs2]; exact h7, ?_⟩⟩
    rw [List.length_set, ht2, fl_set l k hk s, ← h8, List.take_take, Nat.min_eq_left (by omega)]
    simp only [List.length_cons, List.length_nil, Nat.zero_add]
    have hl1 : (cur.toList.take (k * 2 + 1) ++ [Value.int .i64 s]).length = k * 2 + 1 + 1 := by
      rw [List.length_append, List.length_take]; simp only [List.length_cons, List.length_nil]; omega
    rw [List.take_append, List.take_of_length_le (by rw [hl1]; omega), hl1, List.drop_take]
theorem own43_cell {w : World} {base g cap : Nat} {l : List S43} (h : w.ownsRow base 43 2 (.slice (some ⟨g, 0, none⟩) l.length cap) l.length (fl l)) (k : Nat) (hk : k < l.length) :
    w.cell? ⟨g, k * 2, none⟩ = some (.int .i64 l[k].f0) ∧ w.cell? ⟨g, k * 2 + 1, none⟩ = some (.int .i64 l[k].f1) ∧ ∀ i, w.frozen? ⟨g, i, none⟩ = false := by
  obtain ⟨hlen0, h2⟩ := h
  rcases h2 with ⟨he, _⟩ | ⟨g', cap', cur, he, h3, h4, h5, h6, h7, h8⟩
  · cases he
  · cases he
    have hseg := fl_seg l k _ (List.getElem?_eq_getElem hk)
    have hget : ∀ j, j < 2 → cur[k * 2 + j]? = ([Value.int .i64 l[k].f0, .int .i64 l[k].f1] : List Value)[j]? := by
      intro j hj
      rw [← hseg, List.getElem?_take, if_pos hj, List.getElem?_drop, ← h8, List.getElem?_take, if_pos (by omega), Array.getElem?_toList]
    exact ⟨(blk_cell h4 _).trans (hget 0 (by omega)), (blk_cell h4 _).trans (hget 1 (by omega)), fun i => blk_frozen h4 i⟩
theorem own43_below {w : World} {base g cap : Nat} {l : List S43} (h : w.ownsRow base 43 2 (.slice (some ⟨g, 0, none⟩) l.length cap) l.length (fl l)) : base ≤ g := by
  rcases h.2 with ⟨he, _⟩ | ⟨g', cap', cur, he, h3, _⟩
  · cases he
  · cases he; exact h3

/-- The parts of two lists added, up to place i. -/
def addTo (l m : List S43) (i : Nat) : List S43 := List.zipWith (fun p q => (⟨p.f0, (p.f1 + q.f1) % 251⟩ : S43)) (l.take i) (m.take i) ++ l.drop i
theorem addTo_length (l m : List S43) (i : Nat) (hi : i ≤ l.length) (h : l.length = m.length) : (addTo l m i).length = l.length := by
  unfold addTo; simp; omega
theorem addTo_get (l m : List S43) (i : Nat) (hi : i < l.length) (h : l.length = m.length) : (addTo l m i)[i]? = some l[i] := by
  unfold addTo
  rw [List.getElem?_append_right (by simp; omega)]
  simp only [List.length_zipWith, List.length_take]
  rw [show i - min (min i l.length) (min i m.length) = 0 by omega, List.getElem?_drop]
  simp [hi]
theorem addTo_succ (l m : List S43) (i : Nat) (hi : i < l.length) (h : l.length = m.length) (hg : i < (addTo l m i).length) : (addTo l m i).set i ⟨(addTo l m i)[i].f0, (l[i].f1 + (m[i]'(by omega)).f1) % 251⟩ = addTo l m (i + 1) := by
  have h1 : (addTo l m i)[i] = l[i] := by have := addTo_get l m i hi h; rw [List.getElem?_eq_getElem hg] at this; exact Option.some.inj this
  rw [h1]
  unfold addTo
  have hz : (List.zipWith (fun p q => (⟨p.f0, (p.f1 + q.f1) % 251⟩ : S43)) (l.take i) (m.take i)).length = i := by simp; omega
  rw [List.set_append_right _ _ (by omega), hz, Nat.sub_self, List.drop_eq_getElem_cons hi, List.set_cons_zero, List.take_succ_eq_append_getElem hi, List.take_succ_eq_append_getElem (show i < m.length by omega), List.zipWith_append (by simp; omega)]
  simp

set_option maxHeartbeats 4000000 in
set_option maxRecDepth 100000 in
theorem secret_Add.calls (A0 : Option Addr) (c0 : Nat) (l0 : List (S43)) (A1 : Option Addr) (c1 : Nat) (l1 : List (S43)) (r1 : List (S43)) (r2 : Int) (w : World) (hr0 : Kd.C k43 w A0 l0.length l0) (hc0 : l0.length ≤ c0) (hr1 : Kd.C k43 w A1 l1.length l1) (hc1 : l1.length ≤ c1) (h : secret_Add.f l0 l1 = some (r1, r2)) :
    Calls Try.prog 57 #[.slice A0 l0.length c0, .slice A1 l1.length c1] w fun e w' => ∃ v0_ : Value, e = .returned (.tuple #[v0_, .int .i64 r2]) ∧ Kd.R k43 43 w' w.heap.size (fun _ => True) v0_ r1 ∧ Below w.heap.size w w' := by
  have HV0 := Aside0.mk (secret_Validate.calls A0 c0 l0 (valid l0) w hr0 hc0 rfl)
  have HV1 : Aside0 (∀ W, Below w.heap.size w W → Calls Try.prog 65 #[.slice A1 l1.length c1] W fun e w' => e = .returned (.int .i64 (valid l1)) ∧ Below W.heap.size W w') := ⟨fun W hW => secret_Validate.calls A1 c1 l1 (valid l1) W (Kd.C_below hr1 hW) hc1 rfl⟩
  have HR0 := Aside0.mk hr0
  have HR1 := Aside0.mk hr1
  have HC0 := Aside0.mk hc0
  have HC1 := Aside0.mk hc1
  have hu43 := Try.underlying43
  clear hr0 hr1 hc0 hc1
  unfold secret_Add.f at h
  split at h
  · rename_i hv
    obtain ⟨hlen, -, -⟩ := valid_iff.1 hv
    have hok0 := (valid_iff.1 hv).2.1
    rw [hv] at HV0
    have HOK0 := Aside0.mk hok0
    clear hv hok0
    split at h
    · rename_i hv1
      have HOK1 := Aside0.mk (valid_iff.1 hv1).2.1
      rw [hv1] at HV1
      clear hv1
      split at h
      · rename_i heq
        simp only [Option.some.injEq, Prod.mk.injEq] at h
        obtain ⟨hr, rfl⟩ := h
        have HR := Aside0.mk hr
        have hll : l0.length = l1.length := by have := congrArg List.length heq; simpa using this
        have HLL := Aside0.mk hll
        have hle : l0.length ≤ l1.length := by omega
        have HEQ := Aside0.mk (decide_eq_true heq)
        clear hr heq hll
        go_enter Try.func57, Try.ntmps57
        go_wp2_with fail
        with_reducible refine HV0.out.mono ?_
        rintro e w1 ⟨rfl, hb⟩
        have HB1 := Aside0.mk hb
        clear hb
        go_wp2_with fail
        with_reducible refine (HV1.out w1 HB1.out).mono ?_
        rintro e w2 ⟨rfl, hb⟩
        have HB2 := Aside0.mk (below_step HB1.out hb)
        clear hb
        go_wp2_with fail
        with_reducible refine (equalX A0 c0 l0 A1 c1 l1 _ (Kd.C_below HR0.out HB2.out) (Kd.C_below HR1.out HB2.out)).mono ?_
        rw [HEQ.out]
        rintro e w3 ⟨rfl, hb⟩
        have HB3 := Aside0.mk (below_step HB2.out hb)
        clear hb
        go_wp2_with fail
        with_reducible refine (api_Part_93.calls A0 c0 l0 l0 _ (Kd.C_below HR0.out HB3.out) HC0.out (by unfold api_Part_93.f; rw [if_pos hlen])).mono ?_
        rintro e w4 ⟨v, rfl, hR, hb⟩
        have HB4 := Aside0.mk (below_step HB3.out hb)
        have HO := Aside0.mk (own43 (Kd.R_lower hR (below_size HB3.out)))
        obtain ⟨Av, cv, ev⟩ := Kd.R_slice hR
        subst ev
        clear hb hR
        go_wp2_with fail
        go_loopg [28] l0.length (fun gg s28 wr => ∃ i : Nat, i ≤ l0.length ∧ l0.length - i ≤ gg ∧ s28 = .int .i64 i ∧ Aside0 (wr.ownsRow w.heap.size 43 2 (.slice Av l0.length cv) l0.length (fl (addTo l0 l1 i))) ∧ Aside0 (Below w.heap.size w wr))
        case atStart => exact ⟨0, Nat.zero_le _, by omega, rfl, ⟨by have := HO.out; simpa [addTo] using this⟩, HB4⟩
        case round =>
          clear HO HB4 HB3 HB2 HB1
          obtain ⟨i, hi, hg, rfl, HO, HB⟩ := hrel
          by_cases hlt : i < l0.length
          · have hltz : (i : Int) < (l0.length : Int) := by omega
            have hlt1 : i < l1.length := by omega
            have hltz1 : (i : Int) < (l1.length : Int) := by omega
            have hq0 : (0 : Int) ≤ (i : Int) := by omega
            obtain ⟨g, hAv⟩ : ∃ g, Av = some ⟨g, 0, none⟩ := by
              rcases HO.out.2 with ⟨_, h0⟩ | ⟨g, cap, _, he, _⟩
              · omega
              · cases he; exact ⟨g, rfl⟩
            subst hAv
            have hal : (addTo l0 l1 i).length = l0.length := addTo_length l0 l1 i hi HLL.out
            have hown := HO.out
            rw [← hal] at hown
            have hia : i < (addTo l0 l1 i).length := by rw [hal]; exact hlt
            obtain ⟨-, hcy, hfz⟩ := own43_cell hown i hia
            have hgi : (addTo l0 l1 i)[i] = l0[i] := by have := addTo_get l0 l1 i hlt HLL.out; rw [List.getElem?_eq_getElem hia] at this; exact Option.some.inj this
            have HGB := Aside0.mk (own43_below hown)
            have hset := own43_set hown i hia ((l0[i].f1 + l1[i].f1) % 251)
            rw [addTo_succ l0 l1 i hlt HLL.out hia, addTo_length l0 l1 (i + 1) (by omega) HLL.out] at hset
            have HSET := Aside0.mk hset
            rw [hgi] at hcy
            have hfz1 := hfz (i * 2 + 1)
            obtain ⟨ad1, e1, -, hm1⟩ := at_T43 (Kd.C_below HR1.out HB.out) (i : Int) hq0 hltz1
            cases e1
            rw [rd43_get l1 i hlt1] at hm1
            simp only [Int.toNat_natCast] at hm1
            have hy0 := okP_iff.1 (HOK0.out l0[i] (List.getElem_mem hlt))
            have hy1 := okP_iff.1 (HOK1.out l1[i] (List.getElem_mem hlt1))
            generalize l0[i].f1 = y0 at hcy hy0 HSET
            generalize l1[i].f1 = y1 at hm1 hy1 HSET
            obtain ⟨-, -, hy00, hy01⟩ := hy0
            obtain ⟨-, -, hy10, hy11⟩ := hy1
            have hsum : IntKind.i64.wrap (y0 + y1) = y0 + y1 := IntWalk.i64_in _ (by omega)
            clear hown hfz hset hal hia hgi
            go_wp2_with fail
            go_region_with (go_at_call 96; refine (secret_rest.calls _ _ _ (rest_eq _)).mono ?_; rintro e w' ⟨rfl, ⟨nd, rfl⟩⟩)
            all_goals
              go_wp2_with fail
              go_roundg (l0.length - (i + 1))
              case measure => omega
              case rel => exact ⟨i + 1, by omega, by omega, by go_num, ⟨HSET.out⟩, ⟨(pw_below_drewN HB.out _).setCell (p := ⟨g, i * 2 + 1, none⟩) HGB.out _⟩⟩
          · have hltz : ¬ (i : Int) < (l0.length : Int) := by omega
            have HE : Aside0 (addTo l0 l1 i = List.zipWith (fun p q => (⟨p.f0, (p.f1 + q.f1) % 251⟩ : S43)) l0 l1) := ⟨by unfold addTo; have h2 := HLL.out; rw [List.take_of_length_le (by omega), List.take_of_length_le (by omega), List.drop_of_length_le (by omega), List.append_nil]⟩
            go_wp2_with fail
            go_ret2
            refine ⟨_, rfl, ?_, HB.out⟩
            rw [← HR.out, ← HE.out]
            refine R43 ?_
            rw [addTo_length l0 l1 i hi HLL.out]
            exact HO.out
      · rename_i heq
        simp only [Option.some.injEq, Prod.mk.injEq] at h
        obtain ⟨rfl, rfl⟩ := h
        have HEQ := Aside0.mk (decide_eq_false heq)
        clear heq
        go_enter Try.func57, Try.ntmps57
        go_wp2_with fail
        with_reducible refine HV0.out.mono ?_
        rintro e w1 ⟨rfl, hb⟩
        have HB1 := Aside0.mk hb
        clear hb
        go_wp2_with fail
        with_reducible refine (HV1.out w1 HB1.out).mono ?_
        rintro e w2 ⟨rfl, hb⟩
        have HB2 := Aside0.mk (below_step HB1.out hb)
        clear hb
        go_wp2_with fail
        with_reducible refine (equalX A0 c0 l0 A1 c1 l1 _ (Kd.C_below HR0.out HB2.out) (Kd.C_below HR1.out HB2.out)).mono ?_
        rw [HEQ.out]
        rintro e w3 ⟨rfl, hb⟩
        have HB3 := Aside0.mk (below_step HB2.out hb)
        clear hb
        go_wp2_with fail
        go_ret2
        exact ⟨_, rfl, Kd.R_nil _ _ _ _ _, HB3.out⟩
    · rename_i hv1
      simp only [Option.some.injEq, Prod.mk.injEq] at h
      obtain ⟨rfl, rfl⟩ := h
      have hw1 : (valid l1 == 0) = false := by simpa using hv1
      have hw2 : (valid l1 != 0) = true := by simpa using hv1
      obtain ⟨vv, hvv⟩ : ∃ vv, valid l1 = vv := ⟨_, rfl⟩
      rw [hvv] at HV1 hw1 hw2 ⊢
      clear hv1 hvv
      go_enter Try.func57, Try.ntmps57
      go_wp2_with fail
      with_reducible refine HV0.out.mono ?_
      rintro e w1 ⟨rfl, hb⟩
      have HB1 := Aside0.mk hb
      clear hb
      go_wp2_with fail
      with_reducible refine (HV1.out w1 HB1.out).mono ?_
      rintro e w2 ⟨rfl, hb⟩
      have HB2 := Aside0.mk (below_step HB1.out hb)
      clear hb
      go_wp2_with fail
      go_ret2
      exact ⟨_, rfl, Kd.R_nil _ _ _ _ _, HB2.out⟩
  · rename_i hv
    simp only [Option.some.injEq, Prod.mk.injEq] at h
    obtain ⟨rfl, rfl⟩ := h
    have hw1 : (valid l0 == 0) = false := by simpa using hv
    have hw2 : (valid l0 != 0) = true := by simpa using hv
    obtain ⟨vv, hvv⟩ : ∃ vv, valid l0 = vv := ⟨_, rfl⟩
    rw [hvv] at HV0 hw1 hw2 ⊢
    clear hv hvv
    go_enter Try.func57, Try.ntmps57
    go_wp2_with fail
    with_reducible refine HV0.out.mono ?_
    rintro e w1 ⟨rfl, hb⟩
    have HB1 := Aside0.mk hb
    clear hb
    go_wp2_with fail
    go_ret2
    exact ⟨_, rfl, Kd.R_nil _ _ _ _ _, HB1.out⟩
end Go.Proofs.Ythlbjdiicmojfaa.P

/-! Part H59. -/
namespace Go.Proofs.Ythlbjdiicmojfaa.P
open Go.RowKit Go.Proofs.YthlbjdiicmojfaaW.PrintWords Go.Proofs.YthlbjdiicmojfaaW.PrintLast Go.Proofs.YthlbjdiicmojfaaW.PrintMore
set_option linter.unusedVariables false

/-- The parts renewed, up to place i. -/
def renP (c : List Int) (p : S43) : S43 := ⟨p.f0, (p.f1 + atI c p.f0) % 251⟩
def renTo (c : List Int) (l : List S43) (i : Nat) : List S43 := (l.take i).map (renP c) ++ l.drop i
theorem renTo_length (c : List Int) (l : List S43) (i : Nat) (hi : i ≤ l.length) : (renTo c l i).length = l.length := by
  unfold renTo; simp; omega
theorem renTo_get (c : List Int) (l : List S43) (i : Nat) (hi : i < l.length) : (renTo c l i)[i]? = some l[i] := by
  unfold renTo
  rw [List.getElem?_append_right (by simp; omega)]
  simp only [List.length_map, List.length_take]
  rw [show i - min i l.length = 0 by omega, List.getElem?_drop]
  simp [hi]
theorem renTo_succ (c : List Int) (l : List S43) (i : Nat) (hi : i < l.length) (hg : i < (renTo c l i).length) : (renTo c l i).set i ⟨(renTo c l i)[i].f0, (l[i].f1 + atI c l[i].f0) % 251⟩ = renTo c l (i + 1) := by
  have h1 : (renTo c l i)[i] = l[i] := by have := renTo_get c l i hi; rw [List.getElem?_eq_getElem hg] at this; exact Option.some.inj this
  rw [h1]
  unfold renTo
  have hz : ((l.take i).map (renP c)).length = i := by simp; omega
  rw [List.set_append_right _ _ (by omega), hz, Nat.sub_self, List.drop_eq_getElem_cons hi, List.set_cons_zero, List.take_succ_eq_append_getElem hi, List.map_append, List.append_assoc]
  rfl
theorem frozen_below {w w1 : World} (h : Below w.heap.size w w1) {p : Addr} (hp : p.block < w.heap.size) (hf : w.frozen? p = false) : w1.frozen? p = false := (h.frozen hp).trans hf

set_option maxHeartbeats 8000000 in
set_option maxRecDepth 100000 in
theorem secret_Renew.calls (A0 : Option Addr) (c0 : Nat) (l0 : List (S43)) (A1 : Option Addr) (c1 : Nat) (l1 : List Int) (r1 : List (S43)) (r2 : Int) (w : World) (hr0 : Kd.C k43 w A0 l0.length l0) (hc0 : l0.length ≤ c0) (hr1 : Kd.C (Kd.int .i64) w A1 l1.length l1) (hc1 : l1.length ≤ c1) (h : secret_Renew.f l0 l1 = some (r1, r2)) :
    Calls Try.prog 59 #[.slice A0 l0.length c0, .slice A1 l1.length c1] w fun e w' => ∃ v0_ : Value, e = .returned (.tuple #[v0_, .int .i64 r2]) ∧ Kd.R k43 43 w' w.heap.size (fun _ => True) v0_ r1 ∧ Below w.heap.size w w' := by
  have HV0 := Aside0.mk (secret_Validate.calls A0 c0 l0 (valid l0) w hr0 hc0 rfl)
  have HV1 : Aside0 (∀ W, Below w.heap.size w W → Calls Try.prog 79 #[.slice A1 l1.length c1] W fun e w' => e = .returned (.int .i64 (curveErr l1)) ∧ Below W.heap.size W w') := ⟨fun W hW => secret_isCurve.calls A1 c1 l1 (curveErr l1) W (Kd.C_below hr1 hW) hc1 rfl⟩
  have HR0 := Aside0.mk hr0
  have HR1 := Aside0.mk hr1
  have HC0 := Aside0.mk hc0
  have HC1 := Aside0.mk hc1
  have hu43 := Try.underlying43
  clear hr0 hr1 hc0 hc1
  unfold secret_Renew.f at h
  split at h
  · rename_i hv
    obtain ⟨hlen, -, -⟩ := valid_iff.1 hv
    have hok0 := (valid_iff.1 hv).2.1
    rw [hv] at HV0
    have HOK0 := Aside0.mk hok0
    clear hv hok0
    split at h
    · rename_i hv1
      obtain ⟨hl1, hl6, hnn⟩ := curveErr_iff.1 hv1
      have HNN := Aside0.mk hnn
      rw [hv1] at HV1
      clear hv1 hnn
      have hcell : ∀ W, Below w.heap.size w W → ∃ ad, A1 = some ad ∧ W.cell? ad = some (.int .i64 (l1.getD 0 0)) := by
        intro W hW
        obtain ⟨ad, e, hx⟩ := Kd.at_int (Kd.C_below HR1.out hW) 0 (by omega) (by omega)
        refine ⟨ad, e, ?_⟩
        rw [show (0 : Int).toNat = 0 from rfl, Addr.add_zero'] at hx
        exact hx
      obtain ⟨ad, hA1, -⟩ := hcell w (Below.refl _ _)
      subst hA1
      have HCELL : Aside0 (∀ W, Below w.heap.size w W → W.cell? ad = some (.int .i64 (l1.getD 0 0))) := ⟨fun W hW => by obtain ⟨ad', e, h⟩ := hcell W hW; cases e; exact h⟩
      clear hcell
      have hl0z : (0 : Int) < (l1.length : Int) := by omega
      split at h
      · rename_i hz
        simp only [Option.some.injEq, Prod.mk.injEq] at h
        obtain ⟨hr, rfl⟩ := h
        have HR := Aside0.mk hr
        have HZ := Aside0.mk hz
        clear hr hz
        go_enter Try.func59, Try.ntmps59
        go_wp2_with fail
        with_reducible refine HV0.out.mono ?_
        rintro e w1 ⟨rfl, hb⟩
        have HB1 := Aside0.mk hb
        clear hb
        go_wp2_with fail
        with_reducible refine (HV1.out w1 HB1.out).mono ?_
        rintro e w2 ⟨rfl, hb⟩
        have HB2 := Aside0.mk (below_step HB1.out hb)
        clear hb
        have hc0' := HCELL.out w2 HB2.out
        rw [HZ.out] at hc0'
        go_wp2_with fail
        with_reducible refine (api_Part_93.calls A0 c0 l0 l0 _ (Kd.C_below HR0.out HB2.out) HC0.out (by unfold api_Part_93.f; rw [if_pos hlen])).mono ?_
        rintro e w4 ⟨v, rfl, hR, hb⟩
        have HB4 := Aside0.mk (below_step HB2.out hb)
        have HO := Aside0.mk (own43 (Kd.R_lower hR (below_size HB2.out)))
        obtain ⟨Av, cv, ev⟩ := Kd.R_slice hR
        subst ev
        clear hb hR hc0'
        go_wp2_with fail
        go_loopg [29] l0.length (fun gg s29 wr => ∃ i : Nat, i ≤ l0.length ∧ l0.length - i ≤ gg ∧ s29 = .int .i64 i ∧ Aside0 (wr.ownsRow w.heap.size 43 2 (.slice Av l0.length cv) l0.length (fl (renTo l1 l0 i))) ∧ Aside0 (Below w.heap.size w wr))
        case atStart => exact ⟨0, Nat.zero_le _, by omega, rfl, ⟨by have := HO.out; simpa [renTo] using this⟩, HB4⟩
        case round =>
          clear HO HB4 HB2 HB1
          obtain ⟨i, hi, hg, rfl, HO, HB⟩ := hrel
          by_cases hlt : i < l0.length
          · have hltz : (i : Int) < (l0.length : Int) := by omega
            have hq0 : (0 : Int) ≤ (i : Int) := by omega
            obtain ⟨g, hAv⟩ : ∃ g, Av = some ⟨g, 0, none⟩ := by
              rcases HO.out.2 with ⟨_, h0⟩ | ⟨g, cap, _, he, _⟩
              · omega
              · cases he; exact ⟨g, rfl⟩
            subst hAv
            have hal : (renTo l1 l0 i).length = l0.length := renTo_length l1 l0 i hi
            have hown := HO.out
            rw [← hal] at hown
            have hia : i < (renTo l1 l0 i).length := by rw [hal]; exact hlt
            obtain ⟨hcx, hcy, hfz⟩ := own43_cell hown i hia
            have hgi : (renTo l1 l0 i)[i] = l0[i] := by have := renTo_get l1 l0 i hlt; rw [List.getElem?_eq_getElem hia] at this; exact Option.some.inj this
            rw [hgi] at hcx hcy
            have HGB := Aside0.mk (own43_below hown)
            have HGL : Aside0 (g < wr.heap.size) := ⟨World.block_lt_of_cell? wr _ hcx⟩
            have hfz1 := hfz (i * 2 + 1)
            have HFZ := Aside0.mk hfz1
            have HCY := Aside0.mk hcy
            have hy0 := okP_iff.1 (HOK0.out l0[i] (List.getElem_mem hlt))
            have HAT := Aside0.mk (at_eq HNN.out (by omega : l1.length ≤ 12) (num_iff.2 ⟨by omega, hy0.2.1⟩ : num l0[i].f0 = true))
            have hna := num_iff.1 (num_atI l1 l0[i].f0)
            have HSET : Aside0 (∀ W : World, W.ownsRow w.heap.size 43 2 (.slice (some ⟨g, 0, none⟩) l0.length cv) l0.length (fl (renTo l1 l0 i)) → (W.setCell ⟨g, i * 2 + 1, none⟩ (.int .i64 ((l0[i].f1 + atI l1 l0[i].f0) % 251))).ownsRow w.heap.size 43 2 (.slice (some ⟨g, 0, none⟩) l0.length cv) l0.length (fl (renTo l1 l0 (i + 1)))) := ⟨fun W hW => by
              rw [← hal] at hW
              have hset := own43_set hW i hia ((l0[i].f1 + atI l1 l0[i].f0) % 251)
              rw [renTo_succ l1 l0 i hlt hia, renTo_length l1 l0 (i + 1) (by omega)] at hset
              exact hset⟩
            generalize atI l1 l0[i].f0 = av at HAT hna HSET
            generalize l0[i].f1 = y0 at hcy hy0 HSET HCY
            generalize l0[i].f0 = x0 at hcx HAT hy0
            obtain ⟨-, -, hy00, hy01⟩ := hy0
            obtain ⟨hna0, hna1⟩ := hna
            have hsum : IntKind.i64.wrap (y0 + av) = y0 + av := IntWalk.i64_in _ (by omega)
            clear hown hfz hal hia hgi
            have hal2 := below_alloc (Below.refl wr.heap.size wr) (.cells #[.int .i64 x0, .int .i64 y0] 43)
            have HW := Aside0.mk (below_step HB.out hal2)
            have HOW := Aside0.mk (pw_own_below HO.out hal2)
            have HB0 : Aside0 ((wr.alloc (.cells #[.int .i64 x0, .int .i64 y0] 43)).cell? ⟨wr.heap.size, 0, none⟩ = some (.int .i64 x0)) := ⟨blk_cell (alloc_new wr (.cells #[.int .i64 x0, .int .i64 y0] 43)).2 0⟩
            have HB1 : Aside0 ((wr.alloc (.cells #[.int .i64 x0, .int .i64 y0] 43)).cell? ⟨wr.heap.size, 1, none⟩ = some (.int .i64 y0)) := ⟨blk_cell (alloc_new wr (.cells #[.int .i64 x0, .int .i64 y0] 43)).2 1⟩
            have HCYW := Aside0.mk (pw_cell_below hal2 HCY.out)
            have HFZW := Aside0.mk (frozen_below hal2 (p := ⟨g, i * 2 + 1, none⟩) HGL.out HFZ.out)
            have HGLW : Aside0 (g < (wr.alloc (.cells #[.int .i64 x0, .int .i64 y0] 43)).heap.size) := ⟨Nat.lt_of_lt_of_le HGL.out hal2.size⟩
            obtain ⟨n1, hn1⟩ : ∃ n1, wr.heap.size = n1 := ⟨_, rfl⟩
            rw [hn1] at HB0 HB1
            have HN1 := Aside0.mk hn1
            clear hal2
            go_wp2_with fail
            clear hn1
            generalize wr.alloc (.cells #[.int .i64 x0, .int .i64 y0] 43) = w5 at HW HOW HB0 HB1 HCYW HFZW HGLW ⊢
            have hb0 := HB0.out
            have hb1 := HB1.out
            go_region_with (first | (go_at_call 80; refine (secret_curve_at.calls (some ad) c1 l1 x0 av _ (Kd.C_drew (Kd.C_below HR1.out HW.out)) HC1.out HAT.out).mono ?_; rintro e w6 ⟨rfl, hb⟩; have hd0 := pw_cell_below hb HB0.out; have hd1 := pw_cell_below hb HB1.out; have hd2 := pw_cell_below hb HCYW.out; have hd3 := frozen_below hb (p := ⟨g, i * 2 + 1, none⟩) HGLW.out HFZW.out; have HH := Aside0.mk hb; clear hb) | (go_at_call 96; refine (secret_rest.calls _ _ _ (rest_eq _)).mono ?_; rintro e w' ⟨rfl, ⟨nd, rfl⟩⟩))
            all_goals
              go_wp2_with fail
              go_roundg (l0.length - (i + 1))
              case measure => omega
              case rel => exact ⟨i + 1, by omega, by omega, by go_num, ⟨HSET.out (w6.drewN nd) (pw_own_below (w := w5.drew) HOW.out (pw_below_drewN HH.out nd))⟩, ⟨(pw_below_drewN (below_step (below_drew HW.out) HH.out) nd).setCell (p := ⟨g, i * 2 + 1, none⟩) HGB.out _⟩⟩
          · have hltz : ¬ (i : Int) < (l0.length : Int) := by omega
            have HE : Aside0 (renTo l1 l0 i = l0.map (renP l1)) := ⟨by unfold renTo; rw [List.take_of_length_le (by omega), List.drop_of_length_le (by omega), List.append_nil]⟩
            go_wp2_with fail
            go_ret2
            refine ⟨_, rfl, ?_, HB.out⟩
            have h1 : r1 = l0.map (renP l1) := HR.out.symm
            rw [h1, ← HE.out]
            refine R43 ?_
            rw [renTo_length l1 l0 i hi]
            exact HO.out
      · rename_i hz
        simp only [Option.some.injEq, Prod.mk.injEq] at h
        obtain ⟨rfl, rfl⟩ := h
        have hz1 : (l1.getD 0 0 != 0) = true := by rw [bne_iff_ne]; exact hz
        obtain ⟨zz, hzz⟩ : ∃ zz, l1.getD 0 0 = zz := ⟨_, rfl⟩
        rw [hzz] at HCELL hz1
        clear hz hzz
        go_enter Try.func59, Try.ntmps59
        go_wp2_with fail
        with_reducible refine HV0.out.mono ?_
        rintro e w1 ⟨rfl, hb⟩
        have HB1 := Aside0.mk hb
        clear hb
        go_wp2_with fail
        with_reducible refine (HV1.out w1 HB1.out).mono ?_
        rintro e w2 ⟨rfl, hb⟩
        have HB2 := Aside0.mk (below_step HB1.out hb)
        clear hb
        have hc0' := HCELL.out w2 HB2.out
        go_wp2_with fail
        go_ret2
        exact ⟨_, rfl, Kd.R_nil _ _ _ _ _, HB2.out⟩
    · rename_i hv1
      simp only [Option.some.injEq, Prod.mk.injEq] at h
      obtain ⟨rfl, rfl⟩ := h
      have hw1 : (curveErr l1 == 0) = false := by simpa using hv1
      have hw2 : (curveErr l1 != 0) = true := by simpa using hv1
      obtain ⟨vv, hvv⟩ : ∃ vv, curveErr l1 = vv := ⟨_, rfl⟩
      rw [hvv] at HV1 hw1 hw2 ⊢
      clear hv1 hvv
      go_enter Try.func59, Try.ntmps59
      go_wp2_with fail
      with_reducible refine HV0.out.mono ?_
      rintro e w1 ⟨rfl, hb⟩
      have HB1 := Aside0.mk hb
      clear hb
      go_wp2_with fail
      with_reducible refine (HV1.out w1 HB1.out).mono ?_
      rintro e w2 ⟨rfl, hb⟩
      have HB2 := Aside0.mk (below_step HB1.out hb)
      clear hb
      go_wp2_with fail
      go_ret2
      exact ⟨_, rfl, Kd.R_nil _ _ _ _ _, HB2.out⟩
  · rename_i hv
    simp only [Option.some.injEq, Prod.mk.injEq] at h
    obtain ⟨rfl, rfl⟩ := h
    have hw1 : (valid l0 == 0) = false := by simpa using hv
    have hw2 : (valid l0 != 0) = true := by simpa using hv
    obtain ⟨vv, hvv⟩ : ∃ vv, valid l0 = vv := ⟨_, rfl⟩
    rw [hvv] at HV0 hw1 hw2 ⊢
    clear hv hvv
    go_enter Try.func59, Try.ntmps59
    go_wp2_with fail
    with_reducible refine HV0.out.mono ?_
    rintro e w1 ⟨rfl, hb⟩
    have HB1 := Aside0.mk hb
    clear hb
    go_wp2_with fail
    go_ret2
    exact ⟨_, rfl, Kd.R_nil _ _ _ _ _, HB1.out⟩
end Go.Proofs.Ythlbjdiicmojfaa.P

/-! Part PF28D. -/
-- Written for this claim by wip/print_more.py (a session's program that runs the kit's printer with hand-proved functions beside). Lean checks it.
namespace Go.Proofs.Ythlbjdiicmojfaa.P
open Go.RowKit Go.Proofs.YthlbjdiicmojfaaW.PrintWords Go.Proofs.YthlbjdiicmojfaaW.PrintLast Go.Proofs.YthlbjdiicmojfaaW.PrintMore
attribute [local go_sem] max2_int min2_int max_two min_two max_three min_three max_four min_four   -- for this text's walks alone
set_option linter.unusedVariables false
set_option linter.unusedSimpArgs false

attribute [local go_sem high] eqA43
/-! ### verditertop_topSecrets: function 28 -/
mutual
def verditertop_topSecrets.j0 : Nat → Int → Int → List Int → List Int → Bool → Option (Bool)
  | 0, _, _, _, _, _ => none
  | k + 1, x1, x2, x7, x8, x50 => if x50 = true then (some false) else (if (x7.length : Int) > 100 then (verditertop_topSecrets.j1 k x1 x2 x7 x8 true) else (verditertop_topSecrets.j1 k x1 x2 x7 x8 (decide ((x8.length : Int) > 100))))
def verditertop_topSecrets.j1 : Nat → Int → Int → List Int → List Int → Bool → Option (Bool)
  | 0, _, _, _, _, _ => none
  | k + 1, x1, x2, x7, x8, x58 => if x58 = true then (some true) else ((secret_Share.f k x7 12).bind fun bt728 => (if bt728.2 = 0 then (if (x7.length : Int) < 1 then (verditertop_topSecrets.j2 k x1 x2 x7 x8 bt728.1 true) else (if (x7.length : Int) > 6 then (verditertop_topSecrets.j2 k x1 x2 x7 x8 bt728.1 true) else (verditertop_topSecrets.j2 k x1 x2 x7 x8 bt728.1 ((bt728.1.length : Int) != 12)))) else (some true)))
def verditertop_topSecrets.j2 : Nat → Int → Int → List Int → List Int → List (S43) → Bool → Option (Bool)
  | 0, _, _, _, _, _, _ => none
  | k + 1, x1, x2, x7, x8, x11, x78 => if x78 = true then (some false) else (if (IntKind.u64.wrap (wrap64 ((wrap64 (12 - (x7.length : Int))) + 1))) = 0 then (none) else ((some (([] : List (S43)) : List (S43))).bind fun y732 => (if 0 ≤ (wrap64 (Int.tmod (IntKind.u64.wrap (x1)) (IntKind.u64.wrap (wrap64 ((wrap64 (12 - (x7.length : Int))) + 1))))) then (if (wrap64 (Int.tmod (IntKind.u64.wrap (x1)) (IntKind.u64.wrap (wrap64 ((wrap64 (12 - (x7.length : Int))) + 1))))) ≤ (wrap64 ((wrap64 (Int.tmod (IntKind.u64.wrap (x1)) (IntKind.u64.wrap (wrap64 ((wrap64 (12 - (x7.length : Int))) + 1))))) + (x7.length : Int))) then (if (wrap64 ((wrap64 (Int.tmod (IntKind.u64.wrap (x1)) (IntKind.u64.wrap (wrap64 ((wrap64 (12 - (x7.length : Int))) + 1))))) + (x7.length : Int))) ≤ (x11.length : Int) then ((some ((x11.take ((wrap64 ((wrap64 (Int.tmod (IntKind.u64.wrap (x1)) (IntKind.u64.wrap (wrap64 ((wrap64 (12 - (x7.length : Int))) + 1))))) + (x7.length : Int))) : Int).toNat).drop ((wrap64 (Int.tmod (IntKind.u64.wrap (x1)) (IntKind.u64.wrap (wrap64 ((wrap64 (12 - (x7.length : Int))) + 1))))) : Int).toNat : List (S43))).bind fun y735 => (if y732.length + y735.length < 8796093022208 then ((some (y732 ++ y735 : List (S43))).bind fun y739 => ((secret_Curve.f y739).bind fun bt742 => ((some (([] : List (S43)) : List (S43))).bind fun y746 => (if 1 ≤ (y739.length : Int) then ((some (y739.drop 1 : List (S43))).bind fun y749 => (if y746.length + y749.length < 8796093022208 then ((some (y746 ++ y749 : List (S43))).bind fun y753 => ((secret_Complete.f y753 (wrap64 (Int.tmod (IntKind.u64.wrap (x2)) 251))).bind fun bt756 => ((secret_LieOn.f x11 (x7.length : Int)).bind fun bt760 => (if bt742.2 = 0 then ((verditerref08_SameInts.f k bt742.1 x7).bind fun t762 => (if t762 = true then (if bt756.2 = 0 then (if (bt756.1.length : Int) = (x7.length : Int) then (if 0 < (bt756.1.length : Int) then (if (rd bt756.1 0) = (wrap64 (Int.tmod (IntKind.u64.wrap (x2)) 251)) then (if bt760.2 = 0 then (verditertop_topSecrets.j3 k x7 x8 x11 (wrap64 (Int.tmod (IntKind.u64.wrap (x1)) (IntKind.u64.wrap (wrap64 ((wrap64 (12 - (x7.length : Int))) + 1))))) y739 y753 bt756.1 (!bt760.1)) else (verditertop_topSecrets.j3 k x7 x8 x11 (wrap64 (Int.tmod (IntKind.u64.wrap (x1)) (IntKind.u64.wrap (wrap64 ((wrap64 (12 - (x7.length : Int))) + 1))))) y739 y753 bt756.1 true)) else (verditertop_topSecrets.j3 k x7 x8 x11 (wrap64 (Int.tmod (IntKind.u64.wrap (x1)) (IntKind.u64.wrap (wrap64 ((wrap64 (12 - (x7.length : Int))) + 1))))) y739 y753 bt756.1 true)) else (none)) else (verditertop_topSecrets.j3 k x7 x8 x11 (wrap64 (Int.tmod (IntKind.u64.wrap (x1)) (IntKind.u64.wrap (wrap64 ((wrap64 (12 - (x7.length : Int))) + 1))))) y739 y753 bt756.1 true)) else (verditertop_topSecrets.j3 k x7 x8 x11 (wrap64 (Int.tmod (IntKind.u64.wrap (x1)) (IntKind.u64.wrap (wrap64 ((wrap64 (12 - (x7.length : Int))) + 1))))) y739 y753 bt756.1 true)) else (verditertop_topSecrets.j3 k x7 x8 x11 (wrap64 (Int.tmod (IntKind.u64.wrap (x1)) (IntKind.u64.wrap (wrap64 ((wrap64 (12 - (x7.length : Int))) + 1))))) y739 y753 bt756.1 true))) else (verditertop_topSecrets.j3 k x7 x8 x11 (wrap64 (Int.tmod (IntKind.u64.wrap (x1)) (IntKind.u64.wrap (wrap64 ((wrap64 (12 - (x7.length : Int))) + 1))))) y739 y753 bt756.1 true))))) else (none))) else (none))))) else (none))) else (none)) else (none)) else (none))))
def verditertop_topSecrets.j3 : Nat → List Int → List Int → List (S43) → Int → List (S43) → List (S43) → List Int → Bool → Option (Bool)
  | 0, _, _, _, _, _, _, _, _ => none
  | k + 1, x7, x8, x11, x13, x14, x16, x17, x156 => if x156 = true then (some false) else (verditertop_topSecrets.l0 k x7 x8 x11 x13 x14 x16 x17 0)
def verditertop_topSecrets.l0 : Nat → List Int → List Int → List (S43) → Int → List (S43) → List (S43) → List Int → Int → Option (Bool)
  | 0, _, _, _, _, _, _, _, _ => none
  | k + 1, x7, x8, x11, x13, x14, x16, x17, x21 => if x21 < (x16.length : Int) then (if 0 ≤ x21 then ((secret_At.f x17 ((rd_T43 x16 x21).f0)).bind fun bt765 => (if bt765.2 = 0 then (if bt765.1 = ((rd_T43 x16 x21).f1) then (verditertop_topSecrets.l0 k x7 x8 x11 x13 x14 x16 x17 (wrap64 (x21 + 1))) else (some false)) else (some false))) else (none)) else (verditertop_topSecrets.l1 k x7 x8 x11 x13 x14 1)
def verditertop_topSecrets.l1 : Nat → List Int → List Int → List (S43) → Int → List (S43) → Int → Option (Bool)
  | 0, _, _, _, _, _, _ => none
  | k + 1, x7, x8, x11, x13, x14, x24 => if x24 ≤ 12 then ((secret_Part.f k x14 x24).bind fun bt768 => (if bt768.2.2 = 0 then (if 0 ≤ (wrap64 (x24 - 1)) then (if (wrap64 (x24 - 1)) < (x11.length : Int) then (if (!(bt768.1 == ((rd_T43 x11 (wrap64 (x24 - 1))).f0)) || (!(bt768.2.1 == ((rd_T43 x11 (wrap64 (x24 - 1))).f1)))) = true then (some false) else (verditertop_topSecrets.l1 k x7 x8 x11 x13 x14 (wrap64 (x24 + 1)))) else (none)) else (none)) else (some false))) else (verditertop_topSecrets.l2 k x7 x8 x11 x13 x14 ([] : List Int) 0)
def verditertop_topSecrets.l2 : Nat → List Int → List Int → List (S43) → Int → List (S43) → List Int → Int → Option (Bool)
  | 0, _, _, _, _, _, _, _ => none
  | k + 1, x7, x8, x11, x13, x14, x27, x28 => if x28 < (x14.length : Int) then (if 0 ≤ x28 then (if x27.length < 17592186044416 then (verditertop_topSecrets.l2 k x7 x8 x11 x13 x14 (x27 ++ [(rd_T43 x14 x28).f0]) (wrap64 (x28 + 1))) else (none)) else (none)) else ((secret_Weights.f k x27).bind fun bt777 => (if bt777.2 = 0 then (verditertop_topSecrets.j7 k x7 x8 x11 x13 x14 bt777.1 ((bt777.1.length : Int) != (x14.length : Int))) else (verditertop_topSecrets.j7 k x7 x8 x11 x13 x14 bt777.1 true)))
def verditertop_topSecrets.j7 : Nat → List Int → List Int → List (S43) → Int → List (S43) → List Int → Bool → Option (Bool)
  | 0, _, _, _, _, _, _, _ => none
  | k + 1, x7, x8, x11, x13, x14, x29, x232 => if x232 = true then (some false) else (verditertop_topSecrets.l3 k x7 x8 x11 x13 x14 x29 0 0)
def verditertop_topSecrets.l3 : Nat → List Int → List Int → List (S43) → Int → List (S43) → List Int → Int → Int → Option (Bool)
  | 0, _, _, _, _, _, _, _, _ => none
  | k + 1, x7, x8, x11, x13, x14, x29, x30, x31 => if x31 < (x14.length : Int) then (if 0 ≤ x31 then (if x31 < (x29.length : Int) then (if (rd x29 x31) < 0 then (some false) else (if (rd x29 x31) ≥ 251 then (some false) else (if ((rd_T43 x14 x31).f1) < 0 then (some false) else (if ((rd_T43 x14 x31).f1) ≥ 251 then (some false) else (verditertop_topSecrets.l3 k x7 x8 x11 x13 x14 x29 (Int.tmod (wrap64 (x30 + (wrap64 ((rd x29 x31) * ((rd_T43 x14 x31).f1))))) 251) (wrap64 (x31 + 1))))))) else (none)) else (none)) else (if 0 < (x7.length : Int) then (if x30 = (rd x7 0) then ((secret_Share.f k x8 12).bind fun bt788 => (if bt788.2 = 0 then (verditertop_topSecrets.j9 k x7 x8 x11 x13 x14 bt788.1 ((x8.length : Int) != (x7.length : Int))) else (verditertop_topSecrets.j9 k x7 x8 x11 x13 x14 bt788.1 true))) else (some false)) else (none))
def verditertop_topSecrets.j9 : Nat → List Int → List Int → List (S43) → Int → List (S43) → List (S43) → Bool → Option (Bool)
  | 0, _, _, _, _, _, _, _ => none
  | k + 1, x7, x8, x11, x13, x14, x32, x298 => if x298 = true then (some true) else ((secret_Add.f x11 x32).bind fun bt792 => (if bt792.2 = 0 then (verditertop_topSecrets.j10 k x7 x8 x13 x14 bt792.1 ((bt792.1.length : Int) != 12)) else (verditertop_topSecrets.j10 k x7 x8 x13 x14 bt792.1 true)))
def verditertop_topSecrets.j10 : Nat → List Int → List Int → Int → List (S43) → List (S43) → Bool → Option (Bool)
  | 0, _, _, _, _, _, _ => none
  | k + 1, x7, x8, x13, x14, x33, x311 => if x311 = true then (some false) else ((some (([] : List (S43)) : List (S43))).bind fun y796 => (if 0 ≤ x13 then (if x13 ≤ (wrap64 (x13 + (x7.length : Int))) then (if (wrap64 (x13 + (x7.length : Int))) ≤ (x33.length : Int) then ((some ((x33.take ((wrap64 (x13 + (x7.length : Int))) : Int).toNat).drop (x13 : Int).toNat : List (S43))).bind fun y799 => (if y796.length + y799.length < 8796093022208 then ((secret_Secret.f (y796 ++ y799)).bind fun bt806 => (if bt806.2 = 0 then (if (x8.length : Int) = 0 then (verditertop_topSecrets.j11 k x7 x8 x14 true) else (if 0 < (x7.length : Int) then (if 0 < (x8.length : Int) then (verditertop_topSecrets.j11 k x7 x8 x14 (bt806.1 != (Int.tmod (wrap64 ((rd x7 0) + (rd x8 0))) 251))) else (none)) else (none))) else (verditertop_topSecrets.j11 k x7 x8 x14 true))) else (none))) else (none)) else (none)) else (none)))
def verditertop_topSecrets.j11 : Nat → List Int → List Int → List (S43) → Bool → Option (Bool)
  | 0, _, _, _, _ => none
  | k + 1, x7, x8, x14, x343 => if x343 = true then (some false) else ((some (([0] : List Int) : List Int)).bind fun y810 => (if 1 ≤ (x8.length : Int) then (if y810.length + (x8.drop 1).length < 17592186044416 then ((secret_Renew.f x14 (y810 ++ (x8.drop 1))).bind fun bt817 => ((secret_Secret.f bt817.1).bind fun bt821 => (if bt817.2 = 0 then (if bt821.2 = 0 then (if 0 < (x7.length : Int) then (some (bt821.1 == (rd x7 0))) else (none)) else (some false)) else (some false)))) else (none)) else (none)))
end
def verditertop_topSecrets.f (k : Nat) (l0_0 : List Int) (l0_1 : List Int) (a1 : Int) (a2 : Int) : Option (Bool) := (secret_Inverse.f k 2).bind fun bt726 => (if bt726.2 = 0 then (verditertop_topSecrets.j0 k a1 a2 l0_0 l0_1 (bt726.1 != 126)) else (verditertop_topSecrets.j0 k a1 a2 l0_0 l0_1 true))
end Go.Proofs.Ythlbjdiicmojfaa.P
