/- Parts of the proof of the law SecretReturns: walks of functions that it reaches, and plain facts about numbers, lists and curves; without a condition. -/
import Derived.Deep.RegionWith
import Derived.Test.YthlbjdiicmojfaaSecretReturnsM2
import Derived.Test.YthlbjdiicmojfaaSecretReturnsM1
import Derived.Test.YthlbjdiicmojfaaSecretReturnsM6
import Derived.Test.YthlbjdiicmojfaaSecretReturnsM4
import Derived.Test.YthlbjdiicmojfaaSecretReturnsM5
/-! Part H90. -/
namespace Go.Proofs.Ythlbjdiicmojfaa.P
open Go.RowKit Go.Proofs.YthlbjdiicmojfaaW.PrintWords Go.Proofs.YthlbjdiicmojfaaW.PrintLast Go.Proofs.YthlbjdiicmojfaaW.PrintMore
set_option linter.unusedVariables false

set_option maxHeartbeats 4000000 in
set_option maxRecDepth 100000 in
theorem off113 (x y : Int) (B : Nat) (A : Option Addr) (cap : Nat) (c : List Int) (r : Int) (w : World) (hB : w.heap[B]? = some (.cells #[.slice A c.length cap] 68 (0, 0))) (hC : Kd.C (Kd.int .i64) w A c.length c) (hc : c.length ≤ cap) (h : secret_curve_at.f c x = some r) :
    Calls Try.prog 113 #[.agg #[.int .i64 x, .int .i64 y], .pointer (some ⟨B, 0, none⟩)] w fun e w' => e = .returned (.bool (r != y)) ∧ Below w.heap.size w w' := by
  have hu43 := Try.underlying43
  have hal := below_alloc (Below.refl w.heap.size w) (.cells #[.int .i64 x, .int .i64 y] 43)
  have hc1 : (w.alloc (.cells #[.int .i64 x, .int .i64 y] 43)).cell? ⟨B, 0, none⟩ = some (.slice A c.length cap) := pw_cell_below hal (blk_cell hB 0)
  have hc2 : (w.alloc (.cells #[.int .i64 x, .int .i64 y] 43)).cell? ⟨w.heap.size, 0, none⟩ = some (.int .i64 x) := blk_cell (alloc_new w (.cells #[.int .i64 x, .int .i64 y] 43)).2 0
  have hc3 : (w.alloc (.cells #[.int .i64 x, .int .i64 y] 43)).cell? ⟨w.heap.size, 1, none⟩ = some (.int .i64 y) := blk_cell (alloc_new w (.cells #[.int .i64 x, .int .i64 y] 43)).2 1
  have HAL := Aside0.mk hal
  have HC := Aside0.mk (Kd.C_below hC hal)
  have H1 := Aside0.mk hc1
  have H2 := Aside0.mk hc2
  have H3 := Aside0.mk hc3
  have HL := Aside0.mk hc
  have HF := Aside0.mk h
  obtain ⟨n0, hn0⟩ : ∃ n0, w.heap.size = n0 := ⟨_, rfl⟩
  have HN0 := Aside0.mk hn0
  clear hal hc1 hc2 hc3 hB hC hc h
  rw [hn0] at HAL H2 H3
  go_enter Try.func113, Try.ntmps113
  go_wp2_with fail
  clear hn0
  generalize w.alloc (.cells #[.int .i64 x, .int .i64 y] 43) = w1 at HAL HC H1 H2 H3 ⊢
  have h1 := H1.out
  have h2 := H2.out
  have h3 := H3.out
  go_region_held3 (fun w' => w'.cell? ⟨B, 0, none⟩ = some (.slice A c.length cap) ∧ w'.cell? ⟨n0, 0, none⟩ = some (.int .i64 x) ∧ w'.cell? ⟨n0, 1, none⟩ = some (.int .i64 y))
    (first | go_keep | exact ⟨HK1.out, HK2.out, HK3.out⟩)
    ((go_at_call 80; refine (secret_curve_at.calls A cap c x r _ (Kd.C_drew HC.out) HL.out HF.out).mono ?_; rintro e w2 ⟨rfl, hb⟩; have HK1 := Aside0.mk (pw_cell_below hb H1.out); have HK2 := Aside0.mk (pw_cell_below hb H2.out); have HK3 := Aside0.mk (pw_cell_below hb H3.out); have HB2 := Aside0.mk (hb); clear hb))
  go_wp2_with fail
  go_ret
  have hfin := HAL.out
  rw [← HN0.out] at hfin
  exact ⟨rfl, below_step (below_drew hfin) HB2.out⟩

theorem eg113 : ∀ args w, (callFunc 113 args).run Try.prog w = .ok (.enter 113 args) w := enters_of Try.func113 (by kernel_rfl) rfl
theorem interp_length (p : List (Int × Int)) : (interp p).length = p.length := interpTo_length p p.length (Nat.le_refl _)
theorem interp_num (p : List (Int × Int)) : ∀ n ∈ interp p, num n = true := interpTo_num p p.length
theorem at_eq {c : List Int} {x : Int} (h : ∀ n ∈ c, num n = true) (hl : c.length ≤ 12) (hx : num x = true) : secret_curve_at.f c x = some (atI c x) := by
  unfold secret_curve_at.f
  rw [if_pos]
  simp only [Bool.and_eq_true, List.all_eq_true, decide_eq_true_eq]
  exact ⟨⟨h, hx⟩, hl⟩
theorem valid_take {l : List S43} (h : valid l = 0) (n : Nat) : valid (l.take n) = 0 := by
  obtain ⟨h1, h2, h3⟩ := valid_iff.1 h
  refine valid_iff.2 ⟨by rw [List.length_take]; omega, fun p hp => h2 p (List.mem_of_mem_take hp), ?_⟩
  rw [List.map_take]
  exact h3.sublist (List.take_sublist _ _)
theorem not_any_ne (l : List S43) (c : List Int) : (!(l.any fun q => atI c q.f0 != q.f1)) = l.all fun q => atI c q.f0 == q.f1 := by
  rw [List.not_any_eq_all_not]
  congr 1
  funext q
  simp [bne]

set_option maxHeartbeats 4000000 in
set_option maxRecDepth 100000 in
theorem secret_lieOn.calls (A0 : Option Addr) (c0 : Nat) (l0 : List (S43)) (a1 : Int) (r : Bool) (w : World) (hr0 : Kd.C k43 w A0 l0.length l0) (hc0 : l0.length ≤ c0) (h : secret_lieOn.f l0 a1 = some r) :
    Calls Try.prog 90 #[.slice A0 l0.length c0, .int .i64 a1] w fun e w' => e = .returned (.bool r) ∧ Below w.heap.size w w' := by
  unfold secret_lieOn.f at h
  split at h
  · rename_i hg
    obtain ⟨hv, h1, h6⟩ := hg
    obtain ⟨n, rfl⟩ := Int.eq_ofNat_of_zero_le (show 0 ≤ a1 by omega)
    rw [Int.toNat_natCast] at h
    have hr := Option.some.inj h
    have HR := Aside0.mk hr
    have hu43 := Try.underlying43
    clear h hr
    by_cases hle : l0.length ≤ n
    · have HE : Aside0 (lies l0 n = true) := ⟨by unfold lies; simp [hle]⟩
      have hlez : (l0.length : Int) ≤ (n : Int) := by omega
      clear hr0
      go_enter Try.func90, Try.ntmps90
      go_wp2_with fail
      go_ret
      exact ⟨by rw [← HR.out, HE.out]; rfl, Below.refl _ _⟩
    · have hlez : ¬ (l0.length : Int) ≤ (n : Int) := by omega
      have hlt2 : (l0.take n).length = n := by rw [List.length_take]; omega
      have hvt := valid_take hv n
      have HO := Aside0.mk (secret_of.calls A0 c0 (l0.take n) (interp (pts (l0.take n))) w (Kd.C_take hr0 (by omega)) (by omega) (by unfold secret_of.f; rw [if_pos hvt]))
      rw [hlt2] at HO
      have hcl : (interp (pts (l0.take n))).length = n := by rw [interp_length, pts, List.length_map, hlt2]
      have HE : Aside0 (lies l0 n = l0.all fun q => atI (interp (pts (l0.take n))) q.f0 == q.f1) := ⟨by unfold lies; rw [show decide (l0.length ≤ n) = false by simp; omega, Bool.false_or]⟩
      have hat : ∀ q ∈ l0, secret_curve_at.f (interp (pts (l0.take n))) q.f0 = some (atI (interp (pts (l0.take n))) q.f0) := fun q hq => at_eq (interp_num _) (by omega) (num_iff.2 (by have := okP_iff.1 ((valid_iff.1 hv).2.1 q hq); omega))
      have HAT := Aside0.mk hat
      have HCL := Aside0.mk hcl
      obtain ⟨c, hc⟩ : ∃ c, interp (pts (l0.take n)) = c := ⟨_, rfl⟩
      rw [hc] at HO HE HAT HCL
      have HR0 := Aside0.mk hr0
      have HC0 := Aside0.mk hc0
      have hnc : n ≤ c0 := by omega
      have hnl : (n : Int) ≤ (l0.length : Int) := by omega
      clear hc hcl hat hvt hlt2 hv hr0 hc0
      go_enter Try.func90, Try.ntmps90
      go_wp2_with fail
      with_reducible refine HO.out.mono ?_
      rintro e w1 ⟨v, rfl, hR, hb⟩
      obtain ⟨A, cap, e1⟩ := Kd.R_slice hR
      subst e1
      have HB := Aside0.mk hb
      have HRR := Aside0.mk hR
      clear hR hb HO
      obtain ⟨n1, hn1⟩ : ∃ n1, w1.heap.size = n1 := ⟨_, rfl⟩
      have HN1 := Aside0.mk hn1
      clear hn1
      go_wp2_with fail
      have hpred : PredB 113 #[.pointer (some ⟨w1.heap.size, 0, none⟩)] enc43 (fun q => atI c q.f0 != q.f1) l0 (w1.alloc (.cells #[.slice A c.length cap] 68)) := fun W q hq hb =>
        off113 q.f0 q.f1 w1.heap.size A cap c _ W ((hb.block w1.heap.size (alloc_new w1 _).1).trans (alloc_new w1 _).2) (Kd.C_below (Kd.C_alloc (Kd.R_reads' HRR.out).2.2 _) hb) (Kd.R_reads' HRR.out).2.1 (HAT.out q hq)
      with_reducible refine (contains43 A0 c0 l0 113 _ _ eg113 _ (Kd.C_alloc (Kd.C_below HR0.out HB.out) _) hpred).mono ?_
      rintro e w2 ⟨rfl, hb2⟩
      have HB2 := Aside0.mk (below_step (below_alloc HB.out _) hb2)
      clear hb2 hpred
      generalize hbv : (l0.any fun q => atI c q.f0 != q.f1) = bv
      have HBV := Aside0.mk hbv
      clear hbv
      go_wp2_with fail
      go_ret
      exact ⟨by rw [← HR.out, HE.out, ← not_any_ne, HBV.out]; rfl, HB2.out⟩
  · cases h
end Go.Proofs.Ythlbjdiicmojfaa.P

/-! Part PF53. -/
-- Written for this claim by wip/print_more.py (a session's program that runs the kit's printer with hand-proved functions beside). Lean checks it.
namespace Go.Proofs.Ythlbjdiicmojfaa.P
open Go.RowKit Go.Proofs.YthlbjdiicmojfaaW.PrintWords Go.Proofs.YthlbjdiicmojfaaW.PrintLast Go.Proofs.YthlbjdiicmojfaaW.PrintMore
attribute [local go_sem] max2_int min2_int max_two min_two max_three min_three max_four min_four   -- for this text's walks alone
set_option linter.unusedVariables false
set_option linter.unusedSimpArgs false

/-! ### secret_LieOn: function 53 -/
def secret_LieOn.f (l0 : List (S43)) (a1 : Int) : Option (Bool × Int) := (secret_needed.f l0 a1).bind fun t306 => (if t306 = 0 then ((secret_lieOn.f l0 a1).bind fun t307 => (some (t307, 0))) else (some (false, t306)))
set_option maxHeartbeats 8000000 in
set_option maxRecDepth 100000 in
theorem secret_LieOn.calls (A0 : Option Addr) (c0 : Nat) (l0 : List (S43)) (a1 : Int) (r1 : Bool) (r2 : Int) (w : World) (hr0 : Kd.C k43 w A0 l0.length l0) (hc0 : l0.length ≤ c0) (h : secret_LieOn.f l0 a1 = some (r1, r2)) :
    Calls Try.prog 53 #[.slice A0 l0.length c0, .int .i64 a1] w fun e w' => e = .returned (.tuple #[.bool r1, .int .i64 r2]) ∧ Below w.heap.size w w' := by
  have HR0 := Aside0.mk hr0
  have HC0 := Aside0.mk hc0
  clear hr0 hc0
  have HB := Aside0.mk (Below.refl w.heap.size w)
  have H : ((secret_needed.f l0 a1).bind fun t306 => (if t306 = 0 then ((secret_lieOn.f l0 a1).bind fun t307 => (some (t307, 0))) else (some (false, t306)))) = some (r1, r2) := h
  clear h
  replace H := Option.bind_eq_some_iff.mp H
  obtain ⟨t306, A30, H⟩ := H
  replace H : (if t306 = 0 then ((secret_lieOn.f l0 a1).bind fun t307 => (some (t307, 0))) else (some (false, t306))) = some (r1, r2) := H
  have A3 := Aside0.mk A30
  clear A30
  by_cases c4 : t306 = 0
  · rw [if_pos c4] at H
    have c4b0 : (t306 == 0) = true := beq_iff_eq.mpr c4
    have c4b1 : (t306 != 0) = false := bne_eq_false_iff_eq.mpr c4
    clear c4
    replace H := Option.bind_eq_some_iff.mp H
    obtain ⟨t307, A50, H⟩ := H
    replace H : (some (t307, 0)) = some (r1, r2) := H
    have A5 := Aside0.mk A50
    clear A50
    simp only [Option.some.injEq, Prod.mk.injEq] at H
    obtain ⟨rfl, rfl⟩ := H
    go_enter Try.func53, Try.ntmps53
    go_wp2_with (first | ((with_reducible refine gate_callee (f := 89) rfl ?_); refine goesL_ (some 9) rfl rfl Try.func89 (by kernel_rfl) rfl #[.slice A0 l0.length c0, .int .i64 a1] rfl (by (try simp only [List.map_toArray, List.map_cons, List.map_nil]); first | done | rfl | (simp only [List.length_drop, List.length_take]; rfl)) ?_; (with_reducible refine (secret_needed.calls _ _ l0 a1 t306 _ ?side1 ?side2 A3.out).mono ?_); (case side1 => repeat (first | exact HR0.out | (with_reducible refine Kd.C_alloc ?_ _) | (with_reducible refine Kd.C_drewN ?_ _) | (with_reducible refine Kd.C_drew ?_))); (case side2 => exact HC0.out); rintro e w6 ⟨rfl, hb⟩; refine ⟨_, rfl, ?_⟩; have n0_ := Aside0.mk (below_step (by repeat (first | (with_reducible first | exact HB.out | apply below_alloc | apply pw_below_drewN | apply below_drew1) | exact HB.out)) hb); clear HB; have HB := n0_; clear n0_; (try clear hb); (try clear hb2); (try clear hk); (try clear hi)) | ((with_reducible refine gate_callee (f := 90) rfl ?_); refine goesL_ (some 15) rfl rfl Try.func90 (by kernel_rfl) rfl #[.slice A0 l0.length c0, .int .i64 a1] rfl (by (try simp only [List.map_toArray, List.map_cons, List.map_nil]); first | done | rfl | (simp only [List.length_drop, List.length_take]; rfl)) ?_; (with_reducible refine (secret_lieOn.calls _ _ l0 a1 t307 _ ?side1 ?side2 A5.out).mono ?_); (case side1 => repeat (first | exact (Kd.C_below HR0.out HB.out) | (with_reducible refine Kd.C_alloc ?_ _) | (with_reducible refine Kd.C_drewN ?_ _) | (with_reducible refine Kd.C_drew ?_))); (case side2 => exact HC0.out); rintro e w7 ⟨rfl, hb⟩; refine ⟨_, rfl, ?_⟩; have n0_ := Aside0.mk (below_step (by repeat (first | (with_reducible first | exact HB.out | apply below_alloc | apply pw_below_drewN | apply below_drew1) | exact HB.out)) hb); clear HB; have HB := n0_; clear n0_; (try clear hb); (try clear hb2); (try clear hk); (try clear hi)))
    go_ret2
    exact ⟨by first | rfl | (simp [errW_none, errW_some] <;> rfl) | (simp [*, errW_none, errW_some] <;> rfl), by repeat (first | (with_reducible first | exact HB.out | apply below_alloc | apply pw_below_drewN | apply below_drew1) | exact HB.out)⟩
  · rw [if_neg c4] at H
    have c4b0 : (t306 == 0) = false := beq_eq_false_iff_ne.mpr c4
    have c4b1 : (t306 != 0) = true := bne_iff_ne.mpr c4
    simp only [Option.some.injEq, Prod.mk.injEq] at H
    obtain ⟨rfl, rfl⟩ := H
    go_enter Try.func53, Try.ntmps53
    go_wp2_with (first | ((with_reducible refine gate_callee (f := 89) rfl ?_); refine goesL_ (some 9) rfl rfl Try.func89 (by kernel_rfl) rfl #[.slice A0 l0.length c0, .int .i64 a1] rfl (by (try simp only [List.map_toArray, List.map_cons, List.map_nil]); first | done | rfl | (simp only [List.length_drop, List.length_take]; rfl)) ?_; (with_reducible refine (secret_needed.calls _ _ l0 a1 t306 _ ?side1 ?side2 A3.out).mono ?_); (case side1 => repeat (first | exact HR0.out | (with_reducible refine Kd.C_alloc ?_ _) | (with_reducible refine Kd.C_drewN ?_ _) | (with_reducible refine Kd.C_drew ?_))); (case side2 => exact HC0.out); rintro e w8 ⟨rfl, hb⟩; refine ⟨_, rfl, ?_⟩; have n0_ := Aside0.mk (below_step (by repeat (first | (with_reducible first | exact HB.out | apply below_alloc | apply pw_below_drewN | apply below_drew1) | exact HB.out)) hb); clear HB; have HB := n0_; clear n0_; (try clear hb); (try clear hb2); (try clear hk); (try clear hi)))
    go_ret2
    exact ⟨by first | rfl | (simp [errW_none, errW_some] <;> rfl) | (simp [*, errW_none, errW_some] <;> rfl), by repeat (first | (with_reducible first | exact HB.out | apply below_alloc | apply pw_below_drewN | apply below_drew1) | exact HB.out)⟩

end Go.Proofs.Ythlbjdiicmojfaa.P

/-! Part PF91. -/
-- Written for this claim by wip/print_more.py (a session's program that runs the kit's printer with hand-proved functions beside). Lean checks it.
namespace Go.Proofs.Ythlbjdiicmojfaa.P
open Go.RowKit Go.Proofs.YthlbjdiicmojfaaW.PrintWords Go.Proofs.YthlbjdiicmojfaaW.PrintLast Go.Proofs.YthlbjdiicmojfaaW.PrintMore
attribute [local go_sem] max2_int min2_int max_two min_two max_three min_three max_four min_four   -- for this text's walks alone
set_option linter.unusedVariables false
set_option linter.unusedSimpArgs false

/-! ### verditerref08_needed: function 91 -/
def verditerref08_needed.f (k : Nat) (l0 : List (S43)) (a1 : Int) : Option (Int) := (verditerref08_Validate.f k l0).bind fun t322 => (if t322 = 0 then ((verditerref08_within.f a1 1 6).bind fun t323 => (if t323 = true then (some 0) else (some 1))) else (some t322))
theorem verditerref08_needed.mono : ∀ a0 a1 k, LeO (verditerref08_needed.f k a0 a1) (verditerref08_needed.f (k + 1) a0 a1) := by
  intro a0 a1 k
  unfold verditerref08_needed.f
  repeat' first
      | (with_reducible exact verditerref08_Validate.mono _ _)
      | (with_reducible exact LeO.refl _)
      | (with_reducible exact LeO.none _)
      | (with_reducible refine LeO.ite ?_ ?_)
      | (with_reducible refine LeO.bind ?_ (fun _ => ?_))
      | exact verditerref08_Validate.mono _ _
      | exact LeO.none _
      | refine LeO.ite ?_ ?_
      | refine LeO.bind ?_ (fun _ => ?_)
set_option maxHeartbeats 8000000 in
set_option maxRecDepth 100000 in
theorem verditerref08_needed.calls (k : Nat) (A0 : Option Addr) (c0 : Nat) (l0 : List (S43)) (a1 : Int) (r : Int) (w : World) (hr0 : Kd.C k43 w A0 l0.length l0) (hc0 : l0.length ≤ c0) (h : verditerref08_needed.f k l0 a1 = some r) :
    Calls Try.prog 91 #[.slice A0 l0.length c0, .int .i64 a1] w fun e w' => e = .returned (.int .i64 r) ∧ Drawn0 w w' := by
  have HR0 := Aside0.mk hr0
  have HC0 := Aside0.mk hc0
  clear hr0 hc0
  have H : ((verditerref08_Validate.f k l0).bind fun t322 => (if t322 = 0 then ((verditerref08_within.f a1 1 6).bind fun t323 => (if t323 = true then (some 0) else (some 1))) else (some t322))) = some r := h
  clear h
  replace H := Option.bind_eq_some_iff.mp H
  obtain ⟨t322, A30, H⟩ := H
  replace H : (if t322 = 0 then ((verditerref08_within.f a1 1 6).bind fun t323 => (if t323 = true then (some 0) else (some 1))) else (some t322)) = some r := H
  have A3 := Aside0.mk A30
  clear A30
  by_cases c4 : t322 = 0
  · rw [if_pos c4] at H
    have c4b0 : (t322 == 0) = true := beq_iff_eq.mpr c4
    have c4b1 : (t322 != 0) = false := bne_eq_false_iff_eq.mpr c4
    clear c4
    replace H := Option.bind_eq_some_iff.mp H
    obtain ⟨t323, A50, H⟩ := H
    replace H : (if t323 = true then (some 0) else (some 1)) = some r := H
    have A5 := Aside0.mk A50
    clear A50
    by_cases c6 : t323 = true
    · subst c6
      have H1 : (some 0) = some r := by rw [if_pos rfl] at H; exact H
      clear H
      have H := H1
      clear H1
      obtain rfl := Option.some.inj H
      go_enter Try.func91, Try.ntmps91
      go_wp2_with (first | ((with_reducible refine gate_callee (f := 66) rfl ?_); refine goesL_ (some 7) rfl rfl Try.func66 (by kernel_rfl) rfl #[.slice A0 l0.length c0] rfl (by (try simp only [List.map_toArray, List.map_cons, List.map_nil]); first | done | rfl | (simp only [List.length_drop, List.length_take]; rfl)) ?_; (with_reducible refine (verditerref08_Validate.calls k _ _ l0 t322 _ ?side1 ?side2 A3.out).mono ?_); (case side1 => repeat (first | exact HR0.out | (with_reducible refine Kd.C_alloc ?_ _) | (with_reducible refine Kd.C_drewN ?_ _) | (with_reducible refine Kd.C_drew ?_))); (case side2 => exact HC0.out); rintro e w' ⟨rfl, ⟨nd, rfl⟩⟩; refine ⟨_, rfl, ?_⟩) | ((with_reducible refine gate_callee (f := 83) rfl ?_); refine goesL_ (some 12) rfl rfl Try.func83 (by kernel_rfl) rfl #[.int .i64 a1, .int .i64 1, .int .i64 6] rfl (by (try simp only [List.map_toArray, List.map_cons, List.map_nil]); first | done | rfl | (simp only [List.length_drop, List.length_take]; rfl)) ?_; (with_reducible refine (verditerref08_within.calls a1 1 6 true _ A5.out).mono ?_); rintro e w' ⟨rfl, ⟨nd, rfl⟩⟩; refine ⟨_, rfl, ?_⟩))
      go_ret
      exact ⟨by first | rfl | (simp; done) | (simp [*]; done), by repeat (first | exact Drawn0.refl _ | apply Drawn0.step)⟩
    · replace c6 := Bool.eq_false_iff.mpr c6
      subst c6
      have H1 : (some 1) = some r := by rw [if_neg (show ¬ (false = true) by decide)] at H; exact H
      clear H
      have H := H1
      clear H1
      obtain rfl := Option.some.inj H
      go_enter Try.func91, Try.ntmps91
      go_wp2_with (first | ((with_reducible refine gate_callee (f := 66) rfl ?_); refine goesL_ (some 7) rfl rfl Try.func66 (by kernel_rfl) rfl #[.slice A0 l0.length c0] rfl (by (try simp only [List.map_toArray, List.map_cons, List.map_nil]); first | done | rfl | (simp only [List.length_drop, List.length_take]; rfl)) ?_; (with_reducible refine (verditerref08_Validate.calls k _ _ l0 t322 _ ?side1 ?side2 A3.out).mono ?_); (case side1 => repeat (first | exact HR0.out | (with_reducible refine Kd.C_alloc ?_ _) | (with_reducible refine Kd.C_drewN ?_ _) | (with_reducible refine Kd.C_drew ?_))); (case side2 => exact HC0.out); rintro e w' ⟨rfl, ⟨nd, rfl⟩⟩; refine ⟨_, rfl, ?_⟩) | ((with_reducible refine gate_callee (f := 83) rfl ?_); refine goesL_ (some 12) rfl rfl Try.func83 (by kernel_rfl) rfl #[.int .i64 a1, .int .i64 1, .int .i64 6] rfl (by (try simp only [List.map_toArray, List.map_cons, List.map_nil]); first | done | rfl | (simp only [List.length_drop, List.length_take]; rfl)) ?_; (with_reducible refine (verditerref08_within.calls a1 1 6 false _ A5.out).mono ?_); rintro e w' ⟨rfl, ⟨nd, rfl⟩⟩; refine ⟨_, rfl, ?_⟩))
      go_ret
      exact ⟨by first | rfl | (simp; done) | (simp [*]; done), by repeat (first | exact Drawn0.refl _ | apply Drawn0.step)⟩
  · rw [if_neg c4] at H
    have c4b0 : (t322 == 0) = false := beq_eq_false_iff_ne.mpr c4
    have c4b1 : (t322 != 0) = true := bne_iff_ne.mpr c4
    obtain rfl := Option.some.inj H
    go_enter Try.func91, Try.ntmps91
    go_wp2_with (first | ((with_reducible refine gate_callee (f := 66) rfl ?_); refine goesL_ (some 7) rfl rfl Try.func66 (by kernel_rfl) rfl #[.slice A0 l0.length c0] rfl (by (try simp only [List.map_toArray, List.map_cons, List.map_nil]); first | done | rfl | (simp only [List.length_drop, List.length_take]; rfl)) ?_; (with_reducible refine (verditerref08_Validate.calls k _ _ l0 t322 _ ?side1 ?side2 A3.out).mono ?_); (case side1 => repeat (first | exact HR0.out | (with_reducible refine Kd.C_alloc ?_ _) | (with_reducible refine Kd.C_drewN ?_ _) | (with_reducible refine Kd.C_drew ?_))); (case side2 => exact HC0.out); rintro e w' ⟨rfl, ⟨nd, rfl⟩⟩; refine ⟨_, rfl, ?_⟩))
    go_ret
    exact ⟨by first | rfl | (simp; done) | (simp [*]; done), by repeat (first | exact Drawn0.refl _ | apply Drawn0.step)⟩

end Go.Proofs.Ythlbjdiicmojfaa.P

/-! Part PF92. -/
-- Written for this claim by wip/print_more.py (a session's program that runs the kit's printer with hand-proved functions beside). Lean checks it.
namespace Go.Proofs.Ythlbjdiicmojfaa.P
open Go.RowKit Go.Proofs.YthlbjdiicmojfaaW.PrintWords Go.Proofs.YthlbjdiicmojfaaW.PrintLast Go.Proofs.YthlbjdiicmojfaaW.PrintMore
attribute [local go_sem] max2_int min2_int max_two min_two max_three min_three max_four min_four   -- for this text's walks alone
set_option linter.unusedVariables false
set_option linter.unusedSimpArgs false

/-! ### verditerref08_lie: function 92 -/
def verditerref08_lie.l0 : Nat → List (S43) → List Int → Int → Option (Bool)
  | 0, _, _, _ => none
  | k + 1, x0, x5, x6 => if x6 < (x0.length : Int) then (if 0 ≤ x6 then ((verditerref08_at.f k x5 ((rd_T43 x0 x6).f0)).bind fun t332 => (if t332 = ((rd_T43 x0 x6).f1) then (verditerref08_lie.l0 k x0 x5 (wrap64 (x6 + 1))) else (some false))) else (none)) else (some true)
def verditerref08_lie.f (k : Nat) (l0 : List (S43)) (a1 : Int) : Option (Bool) := if (l0.length : Int) ≤ a1 then (some true) else (if 0 ≤ a1 then (if a1 ≤ (l0.length : Int) then ((verditerref08_through.f k (l0.take (a1 : Int).toNat)).bind fun t328 => (verditerref08_lie.l0 k l0 t328 a1)) else (none)) else (none))
theorem verditerref08_lie.mono_l : ∀ k, (∀ y0 y1 y2, LeO (verditerref08_lie.l0 k y0 y1 y2) (verditerref08_lie.l0 (k + 1) y0 y1 y2))
  | 0 => fun _ _ _ r h => by simp [verditerref08_lie.l0] at h
  | k + 1 => by
    have ih0 := verditerref08_lie.mono_l k
    · intro y0 y1 y2
      unfold verditerref08_lie.l0
      repeat' first
      | (with_reducible exact ih0 _ _ _)
      | (with_reducible exact verditerref08_at.mono _ _ _)
      | (with_reducible exact verditerref08_through.mono _ _)
      | (with_reducible exact LeO.refl _)
      | (with_reducible exact LeO.none _)
      | (with_reducible refine LeO.ite ?_ ?_)
      | (with_reducible refine LeO.bind ?_ (fun _ => ?_))
      | exact ih0 _ _ _
      | exact verditerref08_at.mono _ _ _
      | exact verditerref08_through.mono _ _
      | exact LeO.none _
      | refine LeO.ite ?_ ?_
      | refine LeO.bind ?_ (fun _ => ?_)
theorem verditerref08_lie.mono : ∀ a0 a1 k, LeO (verditerref08_lie.f k a0 a1) (verditerref08_lie.f (k + 1) a0 a1) := by
  intro a0 a1 k
  have ih0 := verditerref08_lie.mono_l k
  unfold verditerref08_lie.f
  repeat' first
      | (with_reducible exact ih0 _ _ _)
      | (with_reducible exact verditerref08_at.mono _ _ _)
      | (with_reducible exact verditerref08_through.mono _ _)
      | (with_reducible exact LeO.refl _)
      | (with_reducible exact LeO.none _)
      | (with_reducible refine LeO.ite ?_ ?_)
      | (with_reducible refine LeO.bind ?_ (fun _ => ?_))
      | exact ih0 _ _ _
      | exact verditerref08_at.mono _ _ _
      | exact verditerref08_through.mono _ _
      | exact LeO.none _
      | refine LeO.ite ?_ ?_
      | refine LeO.bind ?_ (fun _ => ?_)
set_option maxHeartbeats 8000000 in
set_option maxRecDepth 100000 in
theorem verditerref08_lie.calls (k : Nat) (A0 : Option Addr) (c0 : Nat) (l0 : List (S43)) (a1 : Int) (r : Bool) (w : World) (hr0 : Kd.C k43 w A0 l0.length l0) (hc0 : l0.length ≤ c0) (h : verditerref08_lie.f k l0 a1 = some r) :
    Calls Try.prog 92 #[.slice A0 l0.length c0, .int .i64 a1] w fun e w' => e = .returned (.bool r) ∧ Below w.heap.size w w' := by
  have HR0 := Aside0.mk hr0
  have HC0 := Aside0.mk hc0
  clear hr0 hc0
  have HB := Aside0.mk (Below.refl w.heap.size w)
  have H : (if (l0.length : Int) ≤ a1 then (some true) else (if 0 ≤ a1 then (if a1 ≤ (l0.length : Int) then ((verditerref08_through.f k (l0.take (a1 : Int).toNat)).bind fun t328 => (verditerref08_lie.l0 k l0 t328 a1)) else (none)) else (none))) = some r := h
  clear h
  by_cases c3 : (l0.length : Int) ≤ a1
  · rw [if_pos c3] at H
    have c3b0 : decide ((l0.length : Int) ≤ a1) = true := decide_eq_true c3
    clear c3
    obtain rfl := Option.some.inj H
    go_enter Try.func92, Try.ntmps92
    go_wp2
    repeat (go_quiet (fail); try go_wp2)
    go_ret
    exact ⟨by first | rfl | (simp [errW_none, errW_some] <;> rfl) | (simp [*, errW_none, errW_some] <;> rfl), by repeat (first | (with_reducible first | exact HB.out | apply below_alloc | apply pw_below_drewN | apply below_drew1) | exact HB.out)⟩
  · rw [if_neg c3] at H
    have c3b0 : decide ((l0.length : Int) ≤ a1) = false := decide_eq_false c3
    clear c3
    by_cases c4 : 0 ≤ a1
    · rw [if_pos c4] at H
      have c4b0 := eq_true c4
      have c4b1 : decide (0 ≤ a1) = true := decide_eq_true c4
      clear c4
      by_cases c5 : a1 ≤ (l0.length : Int)
      · rw [if_pos c5] at H
        have c5b0 := eq_true c5
        have c5b1 : decide (a1 ≤ (l0.length : Int)) = true := decide_eq_true c5
        clear c5
        obtain ⟨y324, hy324⟩ : ∃ y_ : List (S43), y_ = (l0.take (a1 : Int).toNat) := ⟨_, rfl⟩
        replace H : ((verditerref08_through.f k y324).bind fun t328 => (verditerref08_lie.l0 k l0 t328 a1)) = some r := by first | (rw [hy324]; with_reducible exact H) | (have H2_ := (Option.bind_some _ _).symm.trans H; rw [hy324]; with_reducible exact H2_) | (have H2_ := (Option.bind_some _ _).symm.trans H; with_reducible exact H2_) | with_reducible exact H | (rw [hy324]; exact H) | exact H
        have Ny324 := Aside0.mk hy324
        clear hy324
        replace H := Option.bind_eq_some_iff.mp H
        obtain ⟨t328, A60, H⟩ := H
        replace H : (verditerref08_lie.l0 k l0 t328 a1) = some r := H
        have A6 := Aside0.mk A60
        clear A60
        have H' := Aside0.mk H
        clear H
        have q7 : (a1 : Int) ≤ ((l0.length : Int) : Int) := of_decide_eq_true (by first | (with_reducible assumption) | assumption)
        obtain ⟨i07, hi07, _, hsz7, _⟩ := info_parts info43
        have hroom7 : l0.length ≤ c0 := HC0.out
        have hC7 : Kd.C k43 _ A0 l0.length l0 := HR0.out
        have hcut7 := cut_to (P := Try.prog) 22 43 .i64 Try.underlying22 hi07 A0 l0.length c0 a1 (of_decide_eq_true (by first | (with_reducible assumption) | assumption)) q7 hroom7
        have hr7 := Kd.C_take (m := (a1 : Int).toNat) hC7 (by omega)
        have hy7 : y324.length = (a1 : Int).toNat := (by rw [Ny324.out, List.length_take]; omega)
        rw [← Ny324.out] at hr7
        rw [← hy7] at hcut7
        have HR327 := Aside0.mk hr7
        have HC327 := Aside0.mk (show y324.length ≤ c0 from by omega)
        clear hr7 hC7 hroom7 hi07 hsz7
        have KY7 := Aside0.mk hy7
        clear hy7
        replace q7 := eq_true q7
        go_enter Try.func92, Try.ntmps92
        go_wp2_with (first | (go_at_call 76; (with_reducible refine (verditerref08_through.calls k _ _ y324 t328 _ ?side1 ?side2 A6.out).mono ?_); (case side1 => repeat (first | exact HR327.out | (with_reducible refine Kd.C_alloc ?_ _) | (with_reducible refine Kd.C_drewN ?_ _) | (with_reducible refine Kd.C_drew ?_))); (case side2 => exact HC327.out); rintro e w8 ⟨v329, rfl, ho0, hb⟩; have n0_ := Aside0.mk (Kd.R_lower ho0 (below_size (by repeat (first | (with_reducible first | exact HB.out | apply below_alloc | apply pw_below_drewN | apply below_drew1) | exact HB.out)))); have n1_ := Aside0.mk (below_step (by repeat (first | (with_reducible first | exact HB.out | apply below_alloc | apply pw_below_drewN | apply below_drew1) | exact HB.out)) hb); clear HB; have HO330 := n0_; have HB := n1_; clear n0_ n1_; (try clear hb); (try clear hb2); (try clear hk); (try clear hi); (try clear ho0)))
        repeat (go_quiet (first | (go_at_call 76; (with_reducible refine (verditerref08_through.calls k _ _ y324 t328 _ ?side1 ?side2 A6.out).mono ?_); (case side1 => repeat (first | exact HR327.out | (with_reducible refine Kd.C_alloc ?_ _) | (with_reducible refine Kd.C_drewN ?_ _) | (with_reducible refine Kd.C_drew ?_))); (case side2 => exact HC327.out); rintro e w8 ⟨v329, rfl, ho0, hb⟩; have n0_ := Aside0.mk (Kd.R_lower ho0 (below_size (by repeat (first | (with_reducible first | exact HB.out | apply below_alloc | apply pw_below_drewN | apply below_drew1) | exact HB.out)))); have n1_ := Aside0.mk (below_step (by repeat (first | (with_reducible first | exact HB.out | apply below_alloc | apply pw_below_drewN | apply below_drew1) | exact HB.out)) hb); clear HB; have HO330 := n0_; have HB := n1_; clear n0_ n1_; (try clear hb); (try clear hb2); (try clear hk); (try clear hi); (try clear ho0))); try go_wp2_with (first | (go_at_call 76; (with_reducible refine (verditerref08_through.calls k _ _ y324 t328 _ ?side1 ?side2 A6.out).mono ?_); (case side1 => repeat (first | exact HR327.out | (with_reducible refine Kd.C_alloc ?_ _) | (with_reducible refine Kd.C_drewN ?_ _) | (with_reducible refine Kd.C_drew ?_))); (case side2 => exact HC327.out); rintro e w8 ⟨v329, rfl, ho0, hb⟩; have n0_ := Aside0.mk (Kd.R_lower ho0 (below_size (by repeat (first | (with_reducible first | exact HB.out | apply below_alloc | apply pw_below_drewN | apply below_drew1) | exact HB.out)))); have n1_ := Aside0.mk (below_step (by repeat (first | (with_reducible first | exact HB.out | apply below_alloc | apply pw_below_drewN | apply below_drew1) | exact HB.out)) hb); clear HB; have HO330 := n0_; have HB := n1_; clear n0_ n1_; (try clear hb); (try clear hb2); (try clear hk); (try clear hi); (try clear ho0))))
        go_loopg [6] k (fun kq v6 w' => ∃ (x6_1 : Int), v6 = .int .i64 x6_1 ∧ Aside0 (verditerref08_lie.l0 kq l0 t328 x6_1 = some r) ∧ Aside0 (kq ≤ k) ∧ Aside0 (Kd.R (Kd.int .i64) 3 w' w.heap.size (fun _ => True) v329 t328) ∧ Aside0 (Below w.heap.size w w'))
        case atStart => exact ⟨(a1), (by first | rfl | (simp; done) | (simp [*]; done)), H', ⟨Nat.le_refl _⟩, ⟨by (with_reducible repeat (first | apply Kd.R_alloc | apply Kd.R_drewN | apply Kd.R_drew)); exact HO330.out⟩, ⟨by repeat (first | (with_reducible first | exact HB.out | apply below_alloc | apply pw_below_drewN | apply below_drew1) | exact HB.out)⟩⟩
        case round =>
          clear H'
          try clear p2
          try clear c3
          try clear c3b0
          try clear c4
          try clear c4b0
          try clear c4b1
          try clear c5
          try clear c5b0
          try clear c5b1
          try clear q7
          try clear q7
          obtain ⟨x6_1, rfl, HA, HK1, HO_5, HB⟩ := hrel
          cases gk with
          | zero => exact absurd HA.out (by simp [verditerref08_lie.l0])
          | succ k1 =>
            have H := HA.out
            clear HA
            simp only [verditerref08_lie.l0] at H
            by_cases c9 : x6_1 < (l0.length : Int)
            · rw [if_pos c9] at H
              have c9b0 : decide (x6_1 < (l0.length : Int)) = true := decide_eq_true c9
              clear c9
              by_cases c10 : 0 ≤ x6_1
              · rw [if_pos c10] at H
                have c10b0 : decide (0 ≤ x6_1) = true := decide_eq_true c10
                clear c10
                replace H := Option.bind_eq_some_iff.mp H
                obtain ⟨t332, A110, H⟩ := H
                replace H : (if t332 = ((rd_T43 l0 x6_1).f1) then (verditerref08_lie.l0 k1 l0 t328 (wrap64 (x6_1 + 1))) else (some false)) = some r := H
                have A11 := Aside0.mk A110
                clear A110
                by_cases c12 : t332 = ((rd_T43 l0 x6_1).f1)
                · rw [if_pos c12] at H
                  have c12b0 : (t332 == ((rd_T43 l0 x6_1).f1)) = true := beq_iff_eq.mpr c12
                  have c12b1 : (t332 != ((rd_T43 l0 x6_1).f1)) = false := bne_eq_false_iff_eq.mpr c12
                  clear c12
                  have H' := Aside0.mk H
                  clear H
                  have p331 : 0 ≤ (x6_1 : Int) := of_decide_eq_true (by first | (with_reducible assumption) | assumption)
                  have q331 : x6_1 < (l0.length : Int) := of_decide_eq_true (by first | (with_reducible assumption) | assumption)
                  obtain ⟨ad331, e331, hx331_0, hx331_1⟩ := at_T43 HR0.out x6_1 p331 q331
                  cases e331
                  replace hx331_0 := (HB.out.cell (World.block_lt_of_cell? w _ hx331_0)).trans hx331_0
                  replace hx331_1 := (HB.out.cell (World.block_lt_of_cell? w _ hx331_1)).trans hx331_1
                  replace p331 := eq_true p331
                  replace q331 := eq_true q331
                  obtain ⟨Ao13, co13, eo13⟩ := Kd.R_slice HO_5.out
                  subst eo13
                  go_wp2_with (first | (go_at_call 82; (with_reducible refine (verditerref08_at.calls k1 _ _ t328 ((rd_T43 l0 x6_1).f0) t332 _ ?side1 ?side2 A11.out).mono ?_); (case side1 => repeat (first | exact (Kd.R_reads' HO_5.out).2.2 | (with_reducible refine Kd.C_alloc ?_ _) | (with_reducible refine Kd.C_drewN ?_ _) | (with_reducible refine Kd.C_drew ?_))); (case side2 => exact (Kd.R_reads' HO_5.out).2.1); rintro e w' ⟨rfl, ⟨nd, rfl⟩⟩; (try first | exact ⟨rfl, _, World.drewN_drewN _ _ _⟩ | exact ⟨rfl, _, Eq.trans (World.drewN_drewN _ _ _) (congrArg (World.drewN _) (Nat.add_assoc _ _ _))⟩); have p333 : 0 ≤ (x6_1 : Int) := of_decide_eq_true (by first | (with_reducible assumption) | assumption); have q333 : x6_1 < (l0.length : Int) := of_decide_eq_true (by first | (with_reducible assumption) | assumption); obtain ⟨ad333, e333, hx333_0, hx333_1⟩ := at_T43 HR0.out x6_1 p333 q333; obtain rfl : ad331 = ad333 := (by injection e333); replace hx333_0 := (HB.out.cell (World.block_lt_of_cell? w _ hx333_0)).trans hx333_0; replace hx333_1 := (HB.out.cell (World.block_lt_of_cell? w _ hx333_1)).trans hx333_1; replace p333 := eq_true p333; replace q333 := eq_true q333))
                  repeat (go_quiet (first | (go_at_call 82; (with_reducible refine (verditerref08_at.calls k1 _ _ t328 ((rd_T43 l0 x6_1).f0) t332 _ ?side1 ?side2 A11.out).mono ?_); (case side1 => repeat (first | exact (Kd.R_reads' HO_5.out).2.2 | (with_reducible refine Kd.C_alloc ?_ _) | (with_reducible refine Kd.C_drewN ?_ _) | (with_reducible refine Kd.C_drew ?_))); (case side2 => exact (Kd.R_reads' HO_5.out).2.1); rintro e w' ⟨rfl, ⟨nd, rfl⟩⟩; (try first | exact ⟨rfl, _, World.drewN_drewN _ _ _⟩ | exact ⟨rfl, _, Eq.trans (World.drewN_drewN _ _ _) (congrArg (World.drewN _) (Nat.add_assoc _ _ _))⟩); have p333 : 0 ≤ (x6_1 : Int) := of_decide_eq_true (by first | (with_reducible assumption) | assumption); have q333 : x6_1 < (l0.length : Int) := of_decide_eq_true (by first | (with_reducible assumption) | assumption); obtain ⟨ad333, e333, hx333_0, hx333_1⟩ := at_T43 HR0.out x6_1 p333 q333; obtain rfl : ad331 = ad333 := (by injection e333); replace hx333_0 := (HB.out.cell (World.block_lt_of_cell? w _ hx333_0)).trans hx333_0; replace hx333_1 := (HB.out.cell (World.block_lt_of_cell? w _ hx333_1)).trans hx333_1; replace p333 := eq_true p333; replace q333 := eq_true q333)); try go_wp2_with (first | (go_at_call 82; (with_reducible refine (verditerref08_at.calls k1 _ _ t328 ((rd_T43 l0 x6_1).f0) t332 _ ?side1 ?side2 A11.out).mono ?_); (case side1 => repeat (first | exact (Kd.R_reads' HO_5.out).2.2 | (with_reducible refine Kd.C_alloc ?_ _) | (with_reducible refine Kd.C_drewN ?_ _) | (with_reducible refine Kd.C_drew ?_))); (case side2 => exact (Kd.R_reads' HO_5.out).2.1); rintro e w' ⟨rfl, ⟨nd, rfl⟩⟩; (try first | exact ⟨rfl, _, World.drewN_drewN _ _ _⟩ | exact ⟨rfl, _, Eq.trans (World.drewN_drewN _ _ _) (congrArg (World.drewN _) (Nat.add_assoc _ _ _))⟩); have p333 : 0 ≤ (x6_1 : Int) := of_decide_eq_true (by first | (with_reducible assumption) | assumption); have q333 : x6_1 < (l0.length : Int) := of_decide_eq_true (by first | (with_reducible assumption) | assumption); obtain ⟨ad333, e333, hx333_0, hx333_1⟩ := at_T43 HR0.out x6_1 p333 q333; obtain rfl : ad331 = ad333 := (by injection e333); replace hx333_0 := (HB.out.cell (World.block_lt_of_cell? w _ hx333_0)).trans hx333_0; replace hx333_1 := (HB.out.cell (World.block_lt_of_cell? w _ hx333_1)).trans hx333_1; replace p333 := eq_true p333; replace q333 := eq_true q333)))
                  go_roundg k1
                  case measure => have := HK1.out; omega
                  case rel => exact ⟨(wrap64 (x6_1 + 1)), (by first | rfl | (simp; done) | (simp [*]; done)), H', ⟨by have := HK1.out; omega⟩, ⟨by (with_reducible repeat (first | apply Kd.R_alloc | apply Kd.R_drewN | apply Kd.R_drew)); exact HO_5.out⟩, ⟨by repeat (first | (with_reducible first | exact HB.out | apply below_alloc | apply pw_below_drewN | apply below_drew1) | exact HB.out)⟩⟩
                · rw [if_neg c12] at H
                  have c12b0 : (t332 == ((rd_T43 l0 x6_1).f1)) = false := beq_eq_false_iff_ne.mpr c12
                  have c12b1 : (t332 != ((rd_T43 l0 x6_1).f1)) = true := bne_iff_ne.mpr c12
                  obtain rfl := Option.some.inj H
                  have p331 : 0 ≤ (x6_1 : Int) := of_decide_eq_true (by first | (with_reducible assumption) | assumption)
                  have q331 : x6_1 < (l0.length : Int) := of_decide_eq_true (by first | (with_reducible assumption) | assumption)
                  obtain ⟨ad331, e331, hx331_0, hx331_1⟩ := at_T43 HR0.out x6_1 p331 q331
                  cases e331
                  replace hx331_0 := (HB.out.cell (World.block_lt_of_cell? w _ hx331_0)).trans hx331_0
                  replace hx331_1 := (HB.out.cell (World.block_lt_of_cell? w _ hx331_1)).trans hx331_1
                  replace p331 := eq_true p331
                  replace q331 := eq_true q331
                  obtain ⟨Ao14, co14, eo14⟩ := Kd.R_slice HO_5.out
                  subst eo14
                  go_wp2_with (first | (go_at_call 82; (with_reducible refine (verditerref08_at.calls k1 _ _ t328 ((rd_T43 l0 x6_1).f0) t332 _ ?side1 ?side2 A11.out).mono ?_); (case side1 => repeat (first | exact (Kd.R_reads' HO_5.out).2.2 | (with_reducible refine Kd.C_alloc ?_ _) | (with_reducible refine Kd.C_drewN ?_ _) | (with_reducible refine Kd.C_drew ?_))); (case side2 => exact (Kd.R_reads' HO_5.out).2.1); rintro e w' ⟨rfl, ⟨nd, rfl⟩⟩; (try first | exact ⟨rfl, _, World.drewN_drewN _ _ _⟩ | exact ⟨rfl, _, Eq.trans (World.drewN_drewN _ _ _) (congrArg (World.drewN _) (Nat.add_assoc _ _ _))⟩); have p333 : 0 ≤ (x6_1 : Int) := of_decide_eq_true (by first | (with_reducible assumption) | assumption); have q333 : x6_1 < (l0.length : Int) := of_decide_eq_true (by first | (with_reducible assumption) | assumption); obtain ⟨ad333, e333, hx333_0, hx333_1⟩ := at_T43 HR0.out x6_1 p333 q333; obtain rfl : ad331 = ad333 := (by injection e333); replace hx333_0 := (HB.out.cell (World.block_lt_of_cell? w _ hx333_0)).trans hx333_0; replace hx333_1 := (HB.out.cell (World.block_lt_of_cell? w _ hx333_1)).trans hx333_1; replace p333 := eq_true p333; replace q333 := eq_true q333))
                  repeat (go_quiet (first | (go_at_call 82; (with_reducible refine (verditerref08_at.calls k1 _ _ t328 ((rd_T43 l0 x6_1).f0) t332 _ ?side1 ?side2 A11.out).mono ?_); (case side1 => repeat (first | exact (Kd.R_reads' HO_5.out).2.2 | (with_reducible refine Kd.C_alloc ?_ _) | (with_reducible refine Kd.C_drewN ?_ _) | (with_reducible refine Kd.C_drew ?_))); (case side2 => exact (Kd.R_reads' HO_5.out).2.1); rintro e w' ⟨rfl, ⟨nd, rfl⟩⟩; (try first | exact ⟨rfl, _, World.drewN_drewN _ _ _⟩ | exact ⟨rfl, _, Eq.trans (World.drewN_drewN _ _ _) (congrArg (World.drewN _) (Nat.add_assoc _ _ _))⟩); have p333 : 0 ≤ (x6_1 : Int) := of_decide_eq_true (by first | (with_reducible assumption) | assumption); have q333 : x6_1 < (l0.length : Int) := of_decide_eq_true (by first | (with_reducible assumption) | assumption); obtain ⟨ad333, e333, hx333_0, hx333_1⟩ := at_T43 HR0.out x6_1 p333 q333; obtain rfl : ad331 = ad333 := (by injection e333); replace hx333_0 := (HB.out.cell (World.block_lt_of_cell? w _ hx333_0)).trans hx333_0; replace hx333_1 := (HB.out.cell (World.block_lt_of_cell? w _ hx333_1)).trans hx333_1; replace p333 := eq_true p333; replace q333 := eq_true q333)); try go_wp2_with (first | (go_at_call 82; (with_reducible refine (verditerref08_at.calls k1 _ _ t328 ((rd_T43 l0 x6_1).f0) t332 _ ?side1 ?side2 A11.out).mono ?_); (case side1 => repeat (first | exact (Kd.R_reads' HO_5.out).2.2 | (with_reducible refine Kd.C_alloc ?_ _) | (with_reducible refine Kd.C_drewN ?_ _) | (with_reducible refine Kd.C_drew ?_))); (case side2 => exact (Kd.R_reads' HO_5.out).2.1); rintro e w' ⟨rfl, ⟨nd, rfl⟩⟩; (try first | exact ⟨rfl, _, World.drewN_drewN _ _ _⟩ | exact ⟨rfl, _, Eq.trans (World.drewN_drewN _ _ _) (congrArg (World.drewN _) (Nat.add_assoc _ _ _))⟩); have p333 : 0 ≤ (x6_1 : Int) := of_decide_eq_true (by first | (with_reducible assumption) | assumption); have q333 : x6_1 < (l0.length : Int) := of_decide_eq_true (by first | (with_reducible assumption) | assumption); obtain ⟨ad333, e333, hx333_0, hx333_1⟩ := at_T43 HR0.out x6_1 p333 q333; obtain rfl : ad331 = ad333 := (by injection e333); replace hx333_0 := (HB.out.cell (World.block_lt_of_cell? w _ hx333_0)).trans hx333_0; replace hx333_1 := (HB.out.cell (World.block_lt_of_cell? w _ hx333_1)).trans hx333_1; replace p333 := eq_true p333; replace q333 := eq_true q333)))
                  go_ret
                  exact ⟨by first | rfl | (simp [errW_none, errW_some] <;> rfl) | (simp [*, errW_none, errW_some] <;> rfl), by repeat (first | (with_reducible first | exact HB.out | apply below_alloc | apply pw_below_drewN | apply below_drew1) | exact HB.out)⟩
              · rw [if_neg c10] at H
                exact absurd H (by simp)
            · rw [if_neg c9] at H
              have c9b0 : decide (x6_1 < (l0.length : Int)) = false := decide_eq_false c9
              clear c9
              obtain rfl := Option.some.inj H
              go_wp2
              repeat (go_quiet (fail); try go_wp2)
              go_ret
              exact ⟨by first | rfl | (simp [errW_none, errW_some] <;> rfl) | (simp [*, errW_none, errW_some] <;> rfl), by repeat (first | (with_reducible first | exact HB.out | apply below_alloc | apply pw_below_drewN | apply below_drew1) | exact HB.out)⟩
      · rw [if_neg c5] at H
        exact absurd H (by simp)
    · rw [if_neg c4] at H
      exact absurd H (by simp)

end Go.Proofs.Ythlbjdiicmojfaa.P

/-! Part PF54. -/
-- Written for this claim by wip/print_more.py (a session's program that runs the kit's printer with hand-proved functions beside). Lean checks it.
namespace Go.Proofs.Ythlbjdiicmojfaa.P
open Go.RowKit Go.Proofs.YthlbjdiicmojfaaW.PrintWords Go.Proofs.YthlbjdiicmojfaaW.PrintLast Go.Proofs.YthlbjdiicmojfaaW.PrintMore
attribute [local go_sem] max2_int min2_int max_two min_two max_three min_three max_four min_four   -- for this text's walks alone
set_option linter.unusedVariables false
set_option linter.unusedSimpArgs false

/-! ### verditerref08_LieOn: function 54 -/
def verditerref08_LieOn.f (k : Nat) (l0 : List (S43)) (a1 : Int) : Option (Bool × Int) := (verditerref08_needed.f k l0 a1).bind fun t334 => (if t334 = 0 then ((verditerref08_lie.f k l0 a1).bind fun t335 => (some (t335, 0))) else (some (false, t334)))
theorem verditerref08_LieOn.mono : ∀ a0 a1 k, LeO (verditerref08_LieOn.f k a0 a1) (verditerref08_LieOn.f (k + 1) a0 a1) := by
  intro a0 a1 k
  unfold verditerref08_LieOn.f
  repeat' first
      | (with_reducible exact verditerref08_lie.mono _ _ _)
      | (with_reducible exact verditerref08_needed.mono _ _ _)
      | (with_reducible exact LeO.refl _)
      | (with_reducible exact LeO.none _)
      | (with_reducible refine LeO.ite ?_ ?_)
      | (with_reducible refine LeO.bind ?_ (fun _ => ?_))
      | exact verditerref08_lie.mono _ _ _
      | exact verditerref08_needed.mono _ _ _
      | exact LeO.none _
      | refine LeO.ite ?_ ?_
      | refine LeO.bind ?_ (fun _ => ?_)
set_option maxHeartbeats 8000000 in
set_option maxRecDepth 100000 in
theorem verditerref08_LieOn.calls (k : Nat) (A0 : Option Addr) (c0 : Nat) (l0 : List (S43)) (a1 : Int) (r1 : Bool) (r2 : Int) (w : World) (hr0 : Kd.C k43 w A0 l0.length l0) (hc0 : l0.length ≤ c0) (h : verditerref08_LieOn.f k l0 a1 = some (r1, r2)) :
    Calls Try.prog 54 #[.slice A0 l0.length c0, .int .i64 a1] w fun e w' => e = .returned (.tuple #[.bool r1, .int .i64 r2]) ∧ Below w.heap.size w w' := by
  have HR0 := Aside0.mk hr0
  have HC0 := Aside0.mk hc0
  clear hr0 hc0
  have HB := Aside0.mk (Below.refl w.heap.size w)
  have H : ((verditerref08_needed.f k l0 a1).bind fun t334 => (if t334 = 0 then ((verditerref08_lie.f k l0 a1).bind fun t335 => (some (t335, 0))) else (some (false, t334)))) = some (r1, r2) := h
  clear h
  replace H := Option.bind_eq_some_iff.mp H
  obtain ⟨t334, A30, H⟩ := H
  replace H : (if t334 = 0 then ((verditerref08_lie.f k l0 a1).bind fun t335 => (some (t335, 0))) else (some (false, t334))) = some (r1, r2) := H
  have A3 := Aside0.mk A30
  clear A30
  by_cases c4 : t334 = 0
  · rw [if_pos c4] at H
    have c4b0 : (t334 == 0) = true := beq_iff_eq.mpr c4
    have c4b1 : (t334 != 0) = false := bne_eq_false_iff_eq.mpr c4
    clear c4
    replace H := Option.bind_eq_some_iff.mp H
    obtain ⟨t335, A50, H⟩ := H
    replace H : (some (t335, 0)) = some (r1, r2) := H
    have A5 := Aside0.mk A50
    clear A50
    simp only [Option.some.injEq, Prod.mk.injEq] at H
    obtain ⟨rfl, rfl⟩ := H
    go_enter Try.func54, Try.ntmps54
    go_wp2_with (first | ((with_reducible refine gate_callee (f := 91) rfl ?_); refine goesL_ (some 9) rfl rfl Try.func91 (by kernel_rfl) rfl #[.slice A0 l0.length c0, .int .i64 a1] rfl (by (try simp only [List.map_toArray, List.map_cons, List.map_nil]); first | done | rfl | (simp only [List.length_drop, List.length_take]; rfl)) ?_; (with_reducible refine (verditerref08_needed.calls k _ _ l0 a1 t334 _ ?side1 ?side2 A3.out).mono ?_); (case side1 => repeat (first | exact HR0.out | (with_reducible refine Kd.C_alloc ?_ _) | (with_reducible refine Kd.C_drewN ?_ _) | (with_reducible refine Kd.C_drew ?_))); (case side2 => exact HC0.out); rintro e w' ⟨rfl, ⟨nd, rfl⟩⟩; refine ⟨_, rfl, ?_⟩) | ((with_reducible refine gate_callee (f := 92) rfl ?_); refine goesL_ (some 15) rfl rfl Try.func92 (by kernel_rfl) rfl #[.slice A0 l0.length c0, .int .i64 a1] rfl (by (try simp only [List.map_toArray, List.map_cons, List.map_nil]); first | done | rfl | (simp only [List.length_drop, List.length_take]; rfl)) ?_; (with_reducible refine (verditerref08_lie.calls k _ _ l0 a1 t335 _ ?side1 ?side2 A5.out).mono ?_); (case side1 => repeat (first | exact HR0.out | (with_reducible refine Kd.C_alloc ?_ _) | (with_reducible refine Kd.C_drewN ?_ _) | (with_reducible refine Kd.C_drew ?_))); (case side2 => exact HC0.out); rintro e w6 ⟨rfl, hb⟩; refine ⟨_, rfl, ?_⟩; have n0_ := Aside0.mk (below_step (by repeat (first | (with_reducible first | exact HB.out | apply below_alloc | apply pw_below_drewN | apply below_drew1) | exact HB.out)) hb); clear HB; have HB := n0_; clear n0_; (try clear hb); (try clear hb2); (try clear hk); (try clear hi)))
    go_ret2
    exact ⟨by first | rfl | (simp [errW_none, errW_some] <;> rfl) | (simp [*, errW_none, errW_some] <;> rfl), by repeat (first | (with_reducible first | exact HB.out | apply below_alloc | apply pw_below_drewN | apply below_drew1) | exact HB.out)⟩
  · rw [if_neg c4] at H
    have c4b0 : (t334 == 0) = false := beq_eq_false_iff_ne.mpr c4
    have c4b1 : (t334 != 0) = true := bne_iff_ne.mpr c4
    simp only [Option.some.injEq, Prod.mk.injEq] at H
    obtain ⟨rfl, rfl⟩ := H
    go_enter Try.func54, Try.ntmps54
    go_wp2_with (first | ((with_reducible refine gate_callee (f := 91) rfl ?_); refine goesL_ (some 9) rfl rfl Try.func91 (by kernel_rfl) rfl #[.slice A0 l0.length c0, .int .i64 a1] rfl (by (try simp only [List.map_toArray, List.map_cons, List.map_nil]); first | done | rfl | (simp only [List.length_drop, List.length_take]; rfl)) ?_; (with_reducible refine (verditerref08_needed.calls k _ _ l0 a1 t334 _ ?side1 ?side2 A3.out).mono ?_); (case side1 => repeat (first | exact HR0.out | (with_reducible refine Kd.C_alloc ?_ _) | (with_reducible refine Kd.C_drewN ?_ _) | (with_reducible refine Kd.C_drew ?_))); (case side2 => exact HC0.out); rintro e w' ⟨rfl, ⟨nd, rfl⟩⟩; refine ⟨_, rfl, ?_⟩))
    go_ret2
    exact ⟨by first | rfl | (simp [errW_none, errW_some] <;> rfl) | (simp [*, errW_none, errW_some] <;> rfl), by repeat (first | (with_reducible first | exact HB.out | apply below_alloc | apply pw_below_drewN | apply below_drew1) | exact HB.out)⟩

end Go.Proofs.Ythlbjdiicmojfaa.P

/-! Part Eqs2. -/
namespace Go.Proofs.Ythlbjdiicmojfaa.P
open Go.RowKit Go.Proofs.YthlbjdiicmojfaaW.PrintWords Go.Proofs.YthlbjdiicmojfaaW.PrintLast Go.Proofs.YthlbjdiicmojfaaW.PrintMore
set_option linter.unusedVariables false

/-! ### What lies on a curve -/
def neededR (l : List S43) (n : Int) : Int := if valid l = 0 then (if 1 ≤ n ∧ n ≤ 6 then 0 else 1) else valid l
theorem neededR_ok {l : List S43} {n : Int} (h : neededR l n = 0) : valid l = 0 ∧ 1 ≤ n ∧ n ≤ 6 := by
  unfold neededR at h
  by_cases hv : valid l = 0
  · rw [if_pos hv] at h
    by_cases hn : 1 ≤ n ∧ n ≤ 6
    · exact ⟨hv, hn⟩
    · rw [if_neg hn] at h; cases h
  · rw [if_neg hv] at h
    exact absurd h hv
theorem neededR_eq {l : List S43} {n : Int} (hv : valid l = 0) (h1 : 1 ≤ n) (h6 : n ≤ 6) : neededR l n = 0 := by
  unfold neededR; rw [if_pos hv, if_pos ⟨h1, h6⟩]
theorem swithin_eq (a lo hi : Int) : secret_within.f a lo hi = some (decide (lo ≤ a) && decide (a ≤ hi)) := by
  unfold secret_within.f
  split
  · rename_i h; rw [decide_eq_true (show lo ≤ a from h)]; rfl
  · rename_i h; rw [decide_eq_false (show ¬ lo ≤ a from h)]; rfl
theorem within_if {α : Type} (a lo hi : Int) (x y : α) : (if (decide (lo ≤ a) && decide (a ≤ hi)) = true then x else y) = (if lo ≤ a ∧ a ≤ hi then x else y) := by
  by_cases h : lo ≤ a ∧ a ≤ hi
  · rw [if_pos h, if_pos (by rw [decide_eq_true h.1, decide_eq_true h.2]; rfl)]
  · rw [if_neg h, if_neg]
    intro e
    rw [Bool.and_eq_true, decide_eq_true_iff, decide_eq_true_iff] at e
    exact h e
theorem needed_eq (l : List S43) (n : Int) : secret_needed.f l n = some (neededR l n) := by
  rw [secret_needed.f, secret_Validate.f, Option.bind_some]
  unfold neededR
  by_cases hv : valid l = 0
  · rw [if_pos hv, if_pos hv, swithin_eq, Option.bind_some, within_if]
    split <;> rfl
  · rw [if_neg hv, if_neg hv]
theorem rneeded_eq (l : List S43) (n : Int) (k : Nat) (hk : 300 ≤ k) : verditerref08_needed.f k l n = some (neededR l n) := by
  rw [verditerref08_needed.f, rval_eq l k hk, Option.bind_some]
  unfold neededR
  by_cases hv : valid l = 0
  · rw [if_pos hv, if_pos hv, rwithin_eq, Option.bind_some, within_if]
    split <;> rfl
  · rw [if_neg hv, if_neg hv]
theorem valid_sub {l m : List S43} (h : valid l = 0) (hs : m.Sublist l) : valid m = 0 := by
  obtain ⟨h1, h2, h3⟩ := valid_iff.1 h
  exact valid_iff.2 ⟨Nat.le_trans hs.length_le h1, fun p hp => h2 p (hs.subset hp), List.Nodup.sublist (hs.map S43.f0) h3⟩
theorem lie_loop (l : List S43) (c : List Int) (hv : valid l = 0) (hc : ∀ n ∈ c, num n = true) (hcl : c.length ≤ 12) : ∀ (d i k : Nat), i + d = l.length → d + 100 < k → verditerref08_lie.l0 k l c (i : Int) = some ((l.drop i).all fun p => atI c p.f0 == p.f1) := by
  obtain ⟨hlen, _, _⟩ := valid_iff.1 hv
  intro d
  induction d with
  | zero =>
    intro i k hi hk
    obtain ⟨k, rfl⟩ : ∃ j, k = j + 1 := ⟨k - 1, by omega⟩
    rw [verditerref08_lie.l0, if_neg (by omega), List.drop_of_length_le (by omega)]; rfl
  | succ d ih =>
    intro i k hi hk
    obtain ⟨k, rfl⟩ : ∃ j, k = j + 1 := ⟨k - 1, by omega⟩
    have hil : i < l.length := by omega
    rw [verditerref08_lie.l0, if_pos (by omega), if_pos (by omega), rdT_get l i hil, rat_eq c _ hc (valid_num hv (List.getElem_mem hil)).1 (by omega) k (by omega), Option.bind_some, List.drop_eq_getElem_cons hil, List.all_cons]
    by_cases e : atI c l[i].f0 = l[i].f1
    · rw [if_pos e, wrap_succ i (by omega), ih (i + 1) k (by omega) (by omega), beq_iff_eq.2 e]; rfl
    · rw [if_neg e, beq_eq_false_iff_ne.2 e]; rfl
theorem all_take {l : List S43} {n : Nat} (hv : valid l = 0) : ((l.take n).all fun p => atI (interp (pts (l.take n))) p.f0 == p.f1) = true := by
  rw [List.all_eq_true]
  intro p hp
  exact beq_iff_eq.2 (interp_at (good_pts (valid_sub hv (List.take_sublist n l))) (mem_pts hp))
theorem rlie_eq (l : List S43) (n : Int) (hv : valid l = 0) (h1 : 1 ≤ n) (h6 : n ≤ 6) (k : Nat) (hk : 7000 ≤ k) : verditerref08_lie.f k l n = some (lies l n.toNat) := by
  obtain ⟨hlen, _, _⟩ := valid_iff.1 hv
  rw [verditerref08_lie.f]
  unfold lies
  by_cases hln : (l.length : Int) ≤ n
  · rw [if_pos hln, decide_eq_true (show l.length ≤ n.toNat by omega)]; rfl
  · rw [if_neg hln, if_pos (by omega), if_pos (by omega), decide_eq_false (show ¬ l.length ≤ n.toNat by omega), Bool.false_or]
    have hvt := valid_sub hv (List.take_sublist n.toNat l)
    have htl : (l.take n.toNat).length = n.toNat := by rw [List.length_take]; omega
    rw [through_eq _ (by omega) (good_pts hvt) k hk, Option.bind_some]
    have := lie_loop l (interp (pts (l.take n.toNat))) hv (interp_nums _) (by rw [interp_len, pts_length]; omega) (l.length - n.toNat) n.toNat k (by omega) (by omega)
    rw [show ((n.toNat : Nat) : Int) = n by omega] at this
    rw [this]
    have h := all_take (n := n.toNat) hv
    have e : (l.all fun p => atI (interp (pts (l.take n.toNat))) p.f0 == p.f1) = (((l.take n.toNat) ++ (l.drop n.toNat)).all fun p => atI (interp (pts (l.take n.toNat))) p.f0 == p.f1) := by rw [List.take_append_drop]
    rw [e, List.all_append, h, Bool.true_and]
def lieOnR (l : List S43) (n : Int) : Bool × Int := if neededR l n = 0 then (lies l n.toNat, 0) else (false, neededR l n)
theorem lieOn_eq' (l : List S43) (n : Int) : secret_LieOn.f l n = some (lieOnR l n) := by
  rw [secret_LieOn.f, needed_eq, Option.bind_some]
  unfold lieOnR
  by_cases h : neededR l n = 0
  · obtain ⟨hv, h1, h6⟩ := neededR_ok h
    rw [if_pos h, if_pos h, secret_lieOn.f, if_pos ⟨hv, h1, h6⟩]; rfl
  · rw [if_neg h, if_neg h]
theorem rlieOn_eq (l : List S43) (n : Int) (k : Nat) (hk : 7000 ≤ k) : verditerref08_LieOn.f k l n = some (lieOnR l n) := by
  rw [verditerref08_LieOn.f, rneeded_eq l n k (by omega), Option.bind_some]
  unfold lieOnR
  by_cases h : neededR l n = 0
  · obtain ⟨hv, h1, h6⟩ := neededR_ok h
    rw [if_pos h, if_pos h, rlie_eq l n hv h1 h6 k hk]; rfl
  · rw [if_neg h, if_neg h]

/-! ### Shares -/
def shares (c : List Int) (n : Nat) : List S43 := (List.range n).map fun i => ⟨((i + 1 : Nat) : Int), atI c ((i + 1 : Nat) : Int)⟩
def shareR (c : List Int) (n : Int) : List S43 × Int := if curveErr c = 0 then (if 1 ≤ n ∧ n ≤ 12 then (shares c n.toNat, 0) else ([], 1)) else ([], curveErr c)
theorem shares_succ (c : List Int) (n : Nat) : shares c (n + 1) = shares c n ++ [⟨((n + 1 : Nat) : Int), atI c ((n + 1 : Nat) : Int)⟩] := by
  unfold shares; rw [List.range_succ, List.map_append]; rfl
theorem shares_length (c : List Int) (n : Nat) : (shares c n).length = n := by simp [shares]
theorem share_loop (c : List Int) (n : Nat) (hc : curveErr c = 0) (hn : n ≤ 12) : ∀ (d i k : Nat), i + d = n → d + 100 < k → secret_Share.l0 k c (n : Int) (shares c i) ((i + 1 : Nat) : Int) = some (shares c n, 0) := by
  obtain ⟨h1, h2, h3⟩ := curveErr_iff.1 hc
  intro d
  induction d with
  | zero =>
    intro i k hi hk
    obtain ⟨k, rfl⟩ : ∃ j, k = j + 1 := ⟨k - 1, by omega⟩
    rw [secret_Share.l0, if_neg (by omega), show i = n by omega]
  | succ d ih =>
    intro i k hi hk
    obtain ⟨k, rfl⟩ : ∃ j, k = j + 1 := ⟨k - 1, by omega⟩
    have hx : num ((i + 1 : Nat) : Int) = true := num_iff.2 (by omega)
    rw [secret_Share.l0, if_pos (by omega), secret_curve_at.f, if_pos (by rw [hx, List.all_eq_true.2 h3, decide_eq_true (show c.length ≤ 12 by omega)]; rfl), Option.bind_some, if_pos (by rw [shares_length]; omega), ← shares_succ, wrap_succ (i + 1) (by omega)]
    exact ih (i + 1) k (by omega) (by omega)
theorem share_eq (c : List Int) (n : Int) (k : Nat) (hk : 200 ≤ k) : secret_Share.f k c n = some (shareR c n) := by
  rw [secret_Share.f, secret_isCurve.f, Option.bind_some]
  unfold shareR
  by_cases hc : curveErr c = 0
  · rw [if_pos hc, if_pos hc, swithin_eq, Option.bind_some, within_if]
    by_cases hn : 1 ≤ n ∧ n ≤ 12
    · rw [if_pos hn, if_pos hn]
      have := share_loop c n.toNat hc (by omega) n.toNat 0 k (by omega) (by omega)
      rw [show ((n.toNat : Nat) : Int) = n by omega] at this
      exact this
    · rw [if_neg hn, if_neg hn]
  · rw [if_neg hc, if_neg hc]
theorem rshare_loop (c : List Int) (n : Nat) (hc : curveErr c = 0) (hn : n ≤ 12) : ∀ (d i k : Nat), i + d = n → d + 100 < k → verditerref08_Share.l0 k c (n : Int) (shares c i) ((i + 1 : Nat) : Int) = some (shares c n, 0) := by
  obtain ⟨h1, h2, h3⟩ := curveErr_iff.1 hc
  intro d
  induction d with
  | zero =>
    intro i k hi hk
    obtain ⟨k, rfl⟩ : ∃ j, k = j + 1 := ⟨k - 1, by omega⟩
    rw [verditerref08_Share.l0, if_neg (by omega), show i = n by omega]
  | succ d ih =>
    intro i k hi hk
    obtain ⟨k, rfl⟩ : ∃ j, k = j + 1 := ⟨k - 1, by omega⟩
    have hx : num ((i + 1 : Nat) : Int) = true := num_iff.2 (by omega)
    rw [verditerref08_Share.l0, if_pos (by omega), rat_eq c _ h3 hx (by omega) k (by omega), Option.bind_some, if_pos (by rw [shares_length]; omega), ← shares_succ, wrap_succ (i + 1) (by omega)]
    exact ih (i + 1) k (by omega) (by omega)
theorem rshare_eq (c : List Int) (n : Int) (hl : c.length ≤ 100) (k : Nat) (hk : 200 ≤ k) : verditerref08_Share.f k c n = some (shareR c n) := by
  rw [verditerref08_Share.f, rcurved_eq c (by omega) k (by omega), Option.bind_some]
  unfold shareR
  by_cases hc : curveErr c = 0
  · rw [if_pos hc, if_pos hc, rwithin_eq, Option.bind_some, within_if]
    by_cases hn : 1 ≤ n ∧ n ≤ 12
    · rw [if_pos hn, if_pos hn]
      have := rshare_loop c n.toNat hc (by omega) n.toNat 0 k (by omega) (by omega)
      rw [show ((n.toNat : Nat) : Int) = n by omega] at this
      exact this
    · rw [if_neg hn, if_neg hn]
  · rw [if_neg hc, if_neg hc]
theorem mem_shares {c : List Int} {n : Nat} {p : S43} (h : p ∈ shares c n) : 1 ≤ p.f0 ∧ p.f0 ≤ n ∧ p.f1 = atI c p.f0 := by
  obtain ⟨i, hi, rfl⟩ := List.mem_map.1 h
  have := List.mem_range.1 hi
  exact ⟨by simp only; omega, by simp only; omega, rfl⟩
theorem valid_shares (c : List Int) {n : Nat} (hn : n ≤ 12) : valid (shares c n) = 0 := by
  refine valid_iff.2 ⟨by rw [shares_length]; exact hn, fun p hp => ?_, ?_⟩
  · obtain ⟨h1, h2, h3⟩ := mem_shares hp
    have := num_iff.1 (num_atI c p.f0)
    exact okP_iff.2 (by rw [h3]; omega)
  · unfold shares
    rw [List.map_map]
    refine List.Pairwise.map _ (fun a b (h : a ≠ b) => ?_) List.nodup_range
    show ((a + 1 : Nat) : Int) ≠ ((b + 1 : Nat) : Int)
    omega
/-- Parts of one curve lie on the curve through the first of them. -/
theorem interp_of_curve {l : List S43} {c : List Int} (hv : valid l = 0) (hc : ∀ n ∈ c, num n = true) (hl : l.length = c.length) (h : ∀ p ∈ l, p.f1 = atI c p.f0) : interp (pts l) = c := by
  symm
  refine interp_uniq (good_pts hv) (by rw [pts_length]; omega) hc fun q hq => ?_
  obtain ⟨p, hp, rfl⟩ := List.mem_map.1 hq
  exact (h p hp).symm
theorem lies_of_curve {l : List S43} {c : List Int} {n : Nat} (hv : valid l = 0) (hc : ∀ n ∈ c, num n = true) (hn : c.length = n) (h : ∀ p ∈ l, p.f1 = atI c p.f0) : lies l n = true := by
  unfold lies
  by_cases hl : l.length ≤ n
  · rw [decide_eq_true hl]; rfl
  · rw [decide_eq_false hl, Bool.false_or, List.all_eq_true]
    intro p hp
    rw [interp_of_curve (valid_sub hv (List.take_sublist n l)) hc (by rw [List.length_take]; omega) (fun p hp => h p (List.mem_of_mem_take hp))]
    exact beq_iff_eq.2 (h p hp).symm
end Go.Proofs.Ythlbjdiicmojfaa.P

/-! Part PF67. -/
-- Written for this claim by wip/print_more.py (a session's program that runs the kit's printer with hand-proved functions beside). Lean checks it.
namespace Go.Proofs.Ythlbjdiicmojfaa.P
open Go.RowKit Go.Proofs.YthlbjdiicmojfaaW.PrintWords Go.Proofs.YthlbjdiicmojfaaW.PrintLast Go.Proofs.YthlbjdiicmojfaaW.PrintMore
attribute [local go_sem] max2_int min2_int max_two min_two max_three min_three max_four min_four   -- for this text's walks alone
set_option linter.unusedVariables false
set_option linter.unusedSimpArgs false

/-! ### verditerref08_Scale: function 67 -/
def verditerref08_Scale.l0 : Nat → List (S43) → Int → List (S43) → Int → Option ((List (S43)) × Int)
  | 0, _, _, _, _ => none
  | k + 1, x0, x1, x7, x8 => if x8 < (x0.length : Int) then (if 0 ≤ x8 then ((verditerref08_mod.f (wrap64 (x1 * ((rd_T43 x0 x8).f1)))).bind fun t502 => (if x7.length < 8796093022208 then (verditerref08_Scale.l0 k x0 x1 (x7 ++ [(⟨(rd_T43 x0 x8).f0, t502⟩ : S43)]) (wrap64 (x8 + 1))) else (none))) else (none)) else (some (x7, 0))
def verditerref08_Scale.f (k : Nat) (l0 : List (S43)) (a1 : Int) : Option ((List (S43)) × Int) := (verditerref08_Validate.f k l0).bind fun t498 => (if t498 = 0 then ((verditerref08_isNumber.f a1).bind fun t499 => (if t499 = true then (verditerref08_Scale.l0 k l0 a1 ([] : List (S43)) 0) else (some (([] : List (S43)), 1)))) else (some (([] : List (S43)), t498)))
theorem verditerref08_Scale.mono_l : ∀ k, (∀ y0 y1 y2 y3, LeO (verditerref08_Scale.l0 k y0 y1 y2 y3) (verditerref08_Scale.l0 (k + 1) y0 y1 y2 y3))
  | 0 => fun _ _ _ _ r h => by simp [verditerref08_Scale.l0] at h
  | k + 1 => by
    have ih0 := verditerref08_Scale.mono_l k
    · intro y0 y1 y2 y3
      unfold verditerref08_Scale.l0
      repeat' first
      | (with_reducible exact ih0 _ _ _ _)
      | (with_reducible exact verditerref08_Validate.mono _ _)
      | (with_reducible exact LeO.refl _)
      | (with_reducible exact LeO.none _)
      | (with_reducible refine LeO.ite ?_ ?_)
      | (with_reducible refine LeO.bind ?_ (fun _ => ?_))
      | exact ih0 _ _ _ _
      | exact verditerref08_Validate.mono _ _
      | exact LeO.none _
      | refine LeO.ite ?_ ?_
      | refine LeO.bind ?_ (fun _ => ?_)
theorem verditerref08_Scale.mono : ∀ a0 a1 k, LeO (verditerref08_Scale.f k a0 a1) (verditerref08_Scale.f (k + 1) a0 a1) := by
  intro a0 a1 k
  have ih0 := verditerref08_Scale.mono_l k
  unfold verditerref08_Scale.f
  repeat' first
      | (with_reducible exact ih0 _ _ _ _)
      | (with_reducible exact verditerref08_Validate.mono _ _)
      | (with_reducible exact LeO.refl _)
      | (with_reducible exact LeO.none _)
      | (with_reducible refine LeO.ite ?_ ?_)
      | (with_reducible refine LeO.bind ?_ (fun _ => ?_))
      | exact ih0 _ _ _ _
      | exact verditerref08_Validate.mono _ _
      | exact LeO.none _
      | refine LeO.ite ?_ ?_
      | refine LeO.bind ?_ (fun _ => ?_)
def verditerref08_Scale.T10 : Bool × List (List Nat × List Nat) := (true, [([], []), ([], []), ([], []), ([1, 2], [1, 2]), ([3], [3]), ([4], [4]), ([], []), ([], []), ([], []), ([7, 8], [7, 8]), ([9], [9]), ([10], [10]), ([6, 11], [6, 11]), ([12], [12]), ([5, 13], [5, 13]), ([14], [14]), ([0, 15, 13], [0, 15]), ([16, 16, 0, 1, 2, 3, 4, 5, 6, 7, 8, 9, 10, 11, 12, 13, 14, 15, 16], [0, 16])])
def verditerref08_Scale.B10 : List Nat := [0, 0, 0, 6, 14, 30, 0, 0, 0, 384, 896, 1920, 4032, 8128, 16382, 32766, 65535, 131071]
theorem verditerref08_Scale.tab10 : rtab .any (opsOf Try.f67 10) = verditerref08_Scale.T10 := by kernel_rfl
theorem verditerref08_Scale.bits10 : waitsOk verditerref08_Scale.T10.2 verditerref08_Scale.B10 = true := by kernel_rfl
set_option maxHeartbeats 8000000 in
set_option maxRecDepth 100000 in
theorem verditerref08_Scale.calls (k : Nat) (A0 : Option Addr) (c0 : Nat) (l0 : List (S43)) (a1 : Int) (r1 : List (S43)) (r2 : Int) (w : World) (hr0 : Kd.C k43 w A0 l0.length l0) (hc0 : l0.length ≤ c0) (h : verditerref08_Scale.f k l0 a1 = some (r1, r2)) :
    Calls Try.prog 67 #[.slice A0 l0.length c0, .int .i64 a1] w fun e w' => ∃ v0_ : Value, e = .returned (.tuple #[v0_, .int .i64 r2]) ∧ Kd.R k43 43 w' w.heap.size (fun _ => True) v0_ r1 ∧ Below w.heap.size w w' := by
  have hu43 := Try.underlying43
  have HR0 := Aside0.mk hr0
  have HC0 := Aside0.mk hc0
  clear hr0 hc0
  have HB := Aside0.mk (Below.refl w.heap.size w)
  have H : ((verditerref08_Validate.f k l0).bind fun t498 => (if t498 = 0 then ((verditerref08_isNumber.f a1).bind fun t499 => (if t499 = true then (verditerref08_Scale.l0 k l0 a1 ([] : List (S43)) 0) else (some (([] : List (S43)), 1)))) else (some (([] : List (S43)), t498)))) = some (r1, r2) := h
  clear h
  replace H := Option.bind_eq_some_iff.mp H
  obtain ⟨t498, A30, H⟩ := H
  replace H : (if t498 = 0 then ((verditerref08_isNumber.f a1).bind fun t499 => (if t499 = true then (verditerref08_Scale.l0 k l0 a1 ([] : List (S43)) 0) else (some (([] : List (S43)), 1)))) else (some (([] : List (S43)), t498))) = some (r1, r2) := H
  have A3 := Aside0.mk A30
  clear A30
  by_cases c4 : t498 = 0
  · rw [if_pos c4] at H
    have c4b0 : (t498 == 0) = true := beq_iff_eq.mpr c4
    have c4b1 : (t498 != 0) = false := bne_eq_false_iff_eq.mpr c4
    clear c4
    replace H := Option.bind_eq_some_iff.mp H
    obtain ⟨t499, A50, H⟩ := H
    replace H : (if t499 = true then (verditerref08_Scale.l0 k l0 a1 ([] : List (S43)) 0) else (some (([] : List (S43)), 1))) = some (r1, r2) := H
    have A5 := Aside0.mk A50
    clear A50
    by_cases c6 : t499 = true
    · subst c6
      have H1 : (verditerref08_Scale.l0 k l0 a1 ([] : List (S43)) 0) = some (r1, r2) := by rw [if_pos rfl] at H; exact H
      clear H
      have H := H1
      clear H1
      have H' := Aside0.mk H
      clear H
      go_enter Try.func67, Try.ntmps67
      go_wp2_with (first | ((with_reducible refine gate_callee (f := 66) rfl ?_); refine goesL_ (some 10) rfl rfl Try.func66 (by kernel_rfl) rfl #[.slice A0 l0.length c0] rfl (by (try simp only [List.map_toArray, List.map_cons, List.map_nil]); first | done | rfl | (simp only [List.length_drop, List.length_take]; rfl)) ?_; (with_reducible refine (verditerref08_Validate.calls k _ _ l0 t498 _ ?side1 ?side2 A3.out).mono ?_); (case side1 => repeat (first | exact HR0.out | (with_reducible refine Kd.C_alloc ?_ _) | (with_reducible refine Kd.C_drewN ?_ _) | (with_reducible refine Kd.C_drew ?_))); (case side2 => exact HC0.out); rintro e w' ⟨rfl, ⟨nd, rfl⟩⟩; refine ⟨_, rfl, ?_⟩) | ((with_reducible refine gate_callee (f := 75) rfl ?_); refine goesL_ (some 15) rfl rfl Try.func75 (by kernel_rfl) rfl #[.int .i64 a1] rfl (by (try simp only [List.map_toArray, List.map_cons, List.map_nil]); first | done | rfl | (simp only [List.length_drop, List.length_take]; rfl)) ?_; (with_reducible refine (verditerref08_isNumber.calls a1 true _ A5.out).mono ?_); rintro e w' ⟨rfl, ⟨nd, rfl⟩⟩; refine ⟨_, rfl, ?_⟩))
      go_loopg [7, 8] k (fun kq v7 v8 w' => ∃ (x7_1 : List (S43)) (x8_1 : Int), v8 = .int .i64 x8_1 ∧ Aside0 (verditerref08_Scale.l0 kq l0 a1 x7_1 x8_1 = some (r1, r2)) ∧ Aside0 (kq ≤ k) ∧ Aside0 (Kd.R k43 43 w' w.heap.size (fun _ => True) v7 x7_1) ∧ Aside0 (Below w.heap.size w w'))
      case atStart => exact ⟨(([] : List (S43))), (0), (by first | rfl | (simp; done) | (simp [*]; done)), H', ⟨Nat.le_refl _⟩, ⟨by first | exact Kd.R_nil _ _ _ _ _ | exact Kd.N_nil _ _ _ _ _ | exact Kd.V_nil _ _ _ _ _ | exact Kd.Q_nil _ _ _ _ _ | exact Kd.S_nil _ _ _ _ _⟩, ⟨by repeat (first | (with_reducible first | exact HB.out | apply below_alloc | apply pw_below_drewN | apply below_drew1) | exact HB.out)⟩⟩
      case round =>
        clear H'
        try clear p2
        try clear c4
        try clear c4b0
        try clear c4b1
        try clear c6
        obtain ⟨x7_1, x8_1, rfl, HA, HK1, HO_7, HB⟩ := hrel
        cases gk with
        | zero => exact absurd HA.out (by simp [verditerref08_Scale.l0])
        | succ k1 =>
          have H := HA.out
          clear HA
          simp only [verditerref08_Scale.l0] at H
          by_cases c7 : x8_1 < (l0.length : Int)
          · rw [if_pos c7] at H
            have c7b0 : decide (x8_1 < (l0.length : Int)) = true := decide_eq_true c7
            clear c7
            by_cases c8 : 0 ≤ x8_1
            · rw [if_pos c8] at H
              have c8b0 : decide (0 ≤ x8_1) = true := decide_eq_true c8
              clear c8
              replace H := Option.bind_eq_some_iff.mp H
              obtain ⟨t502, A90, H⟩ := H
              replace H : (if x7_1.length < 8796093022208 then (verditerref08_Scale.l0 k1 l0 a1 (x7_1 ++ [(⟨(rd_T43 l0 x8_1).f0, t502⟩ : S43)]) (wrap64 (x8_1 + 1))) else (none)) = some (r1, r2) := H
              have A9 := Aside0.mk A90
              clear A90
              by_cases c10 : x7_1.length < 8796093022208
              · rw [if_pos c10] at H
                have LMc10 := Aside0.mk c10
                clear c10
                obtain ⟨y503, hy503⟩ : ∃ y_ : List (S43), y_ = (x7_1 ++ [(⟨(rd_T43 l0 x8_1).f0, t502⟩ : S43)]) := ⟨_, rfl⟩
                replace H : (verditerref08_Scale.l0 k1 l0 a1 y503 (wrap64 (x8_1 + 1))) = some (r1, r2) := by first | (rw [hy503]; with_reducible exact H) | (have H2_ := (Option.bind_some _ _).symm.trans H; rw [hy503]; with_reducible exact H2_) | (have H2_ := (Option.bind_some _ _).symm.trans H; with_reducible exact H2_) | with_reducible exact H | (rw [hy503]; exact H) | exact H
                have Ny503 := Aside0.mk hy503
                clear hy503
                have H' := Aside0.mk H
                clear H
                try go_wp2
                have n0_ := Aside0.mk (Kd.R_drew HO_7.out)
                have n1_ := Aside0.mk (below_drew1 HB.out)
                clear HO_7
                clear HB
                have HO_7 := n0_
                have HB := n1_
                clear n0_ n1_
                have p500 : 0 ≤ (x8_1 : Int) := of_decide_eq_true (by first | (with_reducible assumption) | assumption)
                have q500 : x8_1 < (l0.length : Int) := of_decide_eq_true (by first | (with_reducible assumption) | assumption)
                obtain ⟨ad500, e500, hx500_0, hx500_1⟩ := at_T43 HR0.out x8_1 p500 q500
                have hw500_1 := hx500_1
                have hw500_0 := hx500_0
                cases e500
                replace hx500_0 := (HB.out.cell (World.block_lt_of_cell? w _ hx500_0)).trans hx500_0
                replace hx500_1 := (HB.out.cell (World.block_lt_of_cell? w _ hx500_1)).trans hx500_1
                replace p500 := eq_true p500
                replace q500 := eq_true q500
                have p501 : 0 ≤ (x8_1 : Int) := of_decide_eq_true (by first | (with_reducible assumption) | assumption)
                have q501 : x8_1 < (l0.length : Int) := of_decide_eq_true (by first | (with_reducible assumption) | assumption)
                obtain ⟨ad501, e501, hx501_0, hx501_1⟩ := at_T43 HR0.out x8_1 p501 q501
                have hw501_1 := hx501_1
                have hw501_0 := hx501_0
                obtain rfl : ad500 = ad501 := (by injection e501)
                replace hx501_0 := (HB.out.cell (World.block_lt_of_cell? w _ hx501_0)).trans hx501_0
                replace hx501_1 := (HB.out.cell (World.block_lt_of_cell? w _ hx501_1)).trans hx501_1
                replace p501 := eq_true p501
                replace q501 := eq_true q501
                refine start_ (n := 18) (S := fun w' => w'.cell? (ad500.add ((x8_1).toNat * 2)) = some (.int .i64 ((rd_T43 l0 x8_1).f0)) ∧ w'.cell? ⟨(ad500.add ((x8_1).toNat * 2)).block, (ad500.add ((x8_1).toNat * 2)).off + 1, none⟩ = some (.int .i64 ((rd_T43 l0 x8_1).f1)) ∧ w'.cell? (ad500.add ((x8_1).toNat * 2)) = some (.int .i64 ((rd_T43 l0 x8_1).f0)) ∧ w'.cell? ⟨(ad500.add ((x8_1).toNat * 2)).block, (ad500.add ((x8_1).toNat * 2)).off + 1, none⟩ = some (.int .i64 ((rd_T43 l0 x8_1).f1))) (ds := []) #[false, false, false, false, false, false, false, false, false, false, false, false, false, false, false, false, false, false] (by kernel_rfl) rfl rfl ⟨((HB.out.cell (World.block_lt_of_cell? w _ hw500_0)).trans hw500_0), ((HB.out.cell (World.block_lt_of_cell? w _ hw500_1)).trans hw500_1), ((HB.out.cell (World.block_lt_of_cell? w _ hw501_0)).trans hw501_0), ((HB.out.cell (World.block_lt_of_cell? w _ hw501_1)).trans hw501_1)⟩ (fun hHeld => ?_); refine with_tabW verditerref08_Scale.tab10 verditerref08_Scale.bits10 (fun HT_ HW_ => ?_)
                generalize wr.drew = w11 at HO_7 HB hx500_0 hx500_1 hx501_0 hx501_1 hHeld ⊢
                refine pure_ (i := 0) (N := some 23) (v := ?_) (a' := ?_) #[true, false, false, false, false, false, false, false, false, false, false, false, false, false, false, false, false, false] rfl rfl (any_of HT_.out (by kernel_rfl)) (fun _ _ _ h => h) (Or.inl ⟨by rfl, ?_⟩) ?_ ?_
                rotate_left
                · intro w'
                  go_simp
                  with_reducible rfl
                rotate_left
                · simp only [Act.put, List.setIfInBounds_toArray, List.set_cons_zero, List.set_cons_succ, i64_w, i32_w]
                  rfl
                refine pure_ (i := 1) (N := some 24) (v := ?_) (a' := ?_) #[true, true, false, false, false, false, false, false, false, false, false, false, false, false, false, false, false, false] rfl rfl (any_of HT_.out (by kernel_rfl)) (fun _ _ _ h => h) (Or.inl ⟨by rfl, ?_⟩) ?_ ?_
                rotate_left
                · intro w'
                  go_simp
                  with_reducible rfl
                rotate_left
                · simp only [Act.put, List.setIfInBounds_toArray, List.set_cons_zero, List.set_cons_succ, i64_w, i32_w]
                  rfl
                refine pure_ (i := 2) (N := some 25) (v := ?_) (a' := ?_) #[true, true, true, false, false, false, false, false, false, false, false, false, false, false, false, false, false, false] rfl rfl (any_of HT_.out (by kernel_rfl)) (fun _ _ _ h => h) (Or.inl ⟨by rfl, ?_⟩) ?_ ?_
                rotate_left
                · intro w'
                  go_simp
                  with_reducible rfl
                rotate_left
                · simp only [Act.put, List.setIfInBounds_toArray, List.set_cons_zero, List.set_cons_succ, i64_w, i32_w]
                  rfl
                refine pure_ (i := 3) (N := some 26) (v := ?_) (a' := ?_) #[true, true, true, true, false, false, false, false, false, false, false, false, false, false, false, false, false, false] rfl rfl (any_of HT_.out (by kernel_rfl)) (fun _ _ _ h => h) (Or.inl ⟨by rfl, ?_⟩) ?_ ?_
                rotate_left
                · intro w'
                  go_simp
                  with_reducible rfl
                rotate_left
                · simp only [Act.put, List.setIfInBounds_toArray, List.set_cons_zero, List.set_cons_succ, i64_w, i32_w]
                  rfl
                refine pure_ (i := 4) (N := some 27) (v := ?_) (a' := ?_) #[true, true, true, true, true, false, false, false, false, false, false, false, false, false, false, false, false, false] rfl rfl (any_of HT_.out (by kernel_rfl)) (fun _ _ _ h => h) (Or.inl ⟨by rfl, ?_⟩) ?_ ?_
                rotate_left
                · intro w'
                  go_simp
                  with_reducible rfl
                rotate_left
                · simp only [Act.put, List.setIfInBounds_toArray, List.set_cons_zero, List.set_cons_succ, i64_w, i32_w]
                  rfl
                refine pure_ (i := 6) (N := some 29) (v := ?_) (a' := ?_) #[true, true, true, true, true, false, true, false, false, false, false, false, false, false, false, false, false, false] rfl rfl (any_of HT_.out (by kernel_rfl)) (fun _ _ _ h => h) (Or.inl ⟨by rfl, ?_⟩) ?_ ?_
                rotate_left
                · intro w'
                  go_simp
                  with_reducible rfl
                rotate_left
                · simp only [Act.put, List.setIfInBounds_toArray, List.set_cons_zero, List.set_cons_succ, i64_w, i32_w]
                  rfl
                refine pure_ (i := 7) (N := some 30) (v := ?_) (a' := ?_) #[true, true, true, true, true, false, true, true, false, false, false, false, false, false, false, false, false, false] rfl rfl (any_of HT_.out (by kernel_rfl)) (fun _ _ _ h => h) (Or.inl ⟨by rfl, ?_⟩) ?_ ?_
                rotate_left
                · intro w'
                  go_simp
                  with_reducible rfl
                rotate_left
                · simp only [Act.put, List.setIfInBounds_toArray, List.set_cons_zero, List.set_cons_succ, i64_w, i32_w]
                  rfl
                refine pure_ (i := 8) (N := some 31) (v := ?_) (a' := ?_) #[true, true, true, true, true, false, true, true, true, false, false, false, false, false, false, false, false, false] rfl rfl (any_of HT_.out (by kernel_rfl)) (fun _ _ _ h => h) (Or.inl ⟨by rfl, ?_⟩) ?_ ?_
                rotate_left
                · intro w'
                  go_simp
                  with_reducible rfl
                rotate_left
                · simp only [Act.put, List.setIfInBounds_toArray, List.set_cons_zero, List.set_cons_succ, i64_w, i32_w]
                  rfl
                refine pure_ (i := 9) (N := some 32) (v := ?_) (a' := ?_) #[true, true, true, true, true, false, true, true, true, true, false, false, false, false, false, false, false, false] rfl rfl (any_of HT_.out (by kernel_rfl)) (fun _ _ _ h => h) (Or.inl ⟨by rfl, ?_⟩) ?_ ?_
                rotate_left
                · intro w'
                  go_simp
                  with_reducible rfl
                rotate_left
                · simp only [Act.put, List.setIfInBounds_toArray, List.set_cons_zero, List.set_cons_succ, i64_w, i32_w]
                  rfl
                refine pure_ (i := 10) (N := some 33) (v := ?_) (a' := ?_) #[true, true, true, true, true, false, true, true, true, true, true, false, false, false, false, false, false, false] rfl rfl (any_of HT_.out (by kernel_rfl)) (fun _ _ _ h => h) (Or.inl ⟨by rfl, ?_⟩) ?_ ?_
                rotate_left
                · intro w'
                  go_simp
                  with_reducible rfl
                rotate_left
                · simp only [Act.put, List.setIfInBounds_toArray, List.set_cons_zero, List.set_cons_succ, i64_w, i32_w]
                  rfl
                refine take_ (i := 5) (N := some 28) (v := ?_) (a' := ?_) #[true, true, true, true, true, true, true, true, true, true, true, false, false, false, false, false, false, false] rfl rfl (take_ofW HT_.out HW_.out (by kernel_rfl)) (fun _ _ _ h => h) (Or.inl ⟨by rfl, ?_⟩) hHeld ?_ ?_
                rotate_left
                · rintro w' ⟨s0, s1, s2, s3⟩
                  go_simp
                  with_reducible rfl
                rotate_left
                · simp only [Act.put, List.setIfInBounds_toArray, List.set_cons_zero, List.set_cons_succ, i64_w, i32_w]
                  rfl
                refine take_ (i := 11) (N := some 34) (v := ?_) (a' := ?_) #[true, true, true, true, true, true, true, true, true, true, true, true, false, false, false, false, false, false] rfl rfl (take_ofW HT_.out HW_.out (by kernel_rfl)) (fun _ _ _ h => h) (Or.inl ⟨by rfl, ?_⟩) hHeld ?_ ?_
                rotate_left
                · rintro w' ⟨s0, s1, s2, s3⟩
                  go_simp
                  with_reducible rfl
                rotate_left
                · simp only [Act.put, List.setIfInBounds_toArray, List.set_cons_zero, List.set_cons_succ, i64_w, i32_w]
                  rfl
                refine pure_ (i := 12) (N := some 35) (v := ?_) (a' := ?_) #[true, true, true, true, true, true, true, true, true, true, true, true, true, false, false, false, false, false] rfl rfl (any_of HT_.out (by kernel_rfl)) (fun _ _ _ h => h) (Or.inl ⟨by rfl, ?_⟩) ?_ ?_
                rotate_left
                · intro w'
                  go_simp
                  with_reducible rfl
                rotate_left
                · simp only [Act.put, List.setIfInBounds_toArray, List.set_cons_zero, List.set_cons_succ, i64_w, i32_w]
                  rfl
                refine one_ (i := 13) (N := some 36) #[true, true, true, true, true, true, true, true, true, true, true, true, true, true, false, false, false, false] rfl rfl (one_of HT_.out (by kernel_rfl)) (by decide) (fun K hK => ?_)
                refine goes_ Try.func104 (by kernel_rfl) rfl #[.int .i64 (wrap64 (a1 * ((rd_T43 l0 x8_1).f1)))] (by rfl) rfl rfl (by (try simp only [List.map_toArray, List.map_cons, List.map_nil]); first | done | rfl | (simp only [List.length_drop, List.length_take]; rfl)) ?_
                with_reducible refine (verditerref08_mod.calls (wrap64 (a1 * ((rd_T43 l0 x8_1).f1))) t502 _ A9.out).mono ?_
                rintro e w' ⟨rfl, ⟨nd, rfl⟩⟩
                refine ⟨_, rfl, ?_⟩
                refine hK.out _ _ ⟨((HB.out.cell (World.block_lt_of_cell? w _ hw500_0)).trans hw500_0), ((HB.out.cell (World.block_lt_of_cell? w _ hw500_1)).trans hw500_1), ((HB.out.cell (World.block_lt_of_cell? w _ hw501_0)).trans hw501_0), ((HB.out.cell (World.block_lt_of_cell? w _ hw501_1)).trans hw501_1)⟩ (fun hHeld => ?_)
                clear hK K
                refine norm_ (a' := ?_) ?_ ?_
                rotate_left
                · show Act.put _ (some 36) _ = _
                  simp only [Act.put, List.setIfInBounds_toArray, List.set_cons_zero, List.set_cons_succ, i64_w, i32_w]
                  rfl
                refine pure_ (i := 14) (N := some 37) (v := ?_) (a' := ?_) #[true, true, true, true, true, true, true, true, true, true, true, true, true, true, true, false, false, false] rfl rfl (any_of HT_.out (by kernel_rfl)) (fun _ _ _ h => h) (Or.inl ⟨by rfl, ?_⟩) ?_ ?_
                rotate_left
                · intro w'
                  go_simp
                  with_reducible rfl
                rotate_left
                · simp only [Act.put, List.setIfInBounds_toArray, List.set_cons_zero, List.set_cons_succ, i64_w, i32_w]
                  rfl
                refine one_ (i := 15) (N := some 38) #[true, true, true, true, true, true, true, true, true, true, true, true, true, true, true, true, false, false] rfl rfl (one_of HT_.out (by kernel_rfl)) (by decide) (fun K hK => ?_)
                refine value_ (w1 := ?_) (v := ?_) (by rfl) rfl ?_ ?_
                rotate_left 2
                · go_simp
                  constructor
                  · rfl
                  · rfl
                refine hK.out _ _ ⟨(World.cell?_alloc_lt _ _ _ (World.block_lt_of_cell? _ _ (((HB.out.cell (World.block_lt_of_cell? w _ hw500_0)).trans hw500_0)))).trans (((HB.out.cell (World.block_lt_of_cell? w _ hw500_0)).trans hw500_0)), (World.cell?_alloc_lt _ _ _ (World.block_lt_of_cell? _ _ (((HB.out.cell (World.block_lt_of_cell? w _ hw500_1)).trans hw500_1)))).trans (((HB.out.cell (World.block_lt_of_cell? w _ hw500_1)).trans hw500_1)), (World.cell?_alloc_lt _ _ _ (World.block_lt_of_cell? _ _ (((HB.out.cell (World.block_lt_of_cell? w _ hw501_0)).trans hw501_0)))).trans (((HB.out.cell (World.block_lt_of_cell? w _ hw501_0)).trans hw501_0)), (World.cell?_alloc_lt _ _ _ (World.block_lt_of_cell? _ _ (((HB.out.cell (World.block_lt_of_cell? w _ hw501_1)).trans hw501_1)))).trans (((HB.out.cell (World.block_lt_of_cell? w _ hw501_1)).trans hw501_1))⟩ (fun hHeld => ?_)
                clear hK K
                refine norm_ (a' := ?_) ?_ ?_
                rotate_left
                · show Act.put _ (some 38) _ = _
                  simp only [Act.put, List.setIfInBounds_toArray, List.set_cons_zero, List.set_cons_succ, i64_w, i32_w]
                  rfl
                refine one_ (i := 16) (N := some 39) #[true, true, true, true, true, true, true, true, true, true, true, true, true, true, true, true, true, false] rfl rfl (one_of HT_.out (by kernel_rfl)) (by decide) (fun K hK => ?_)
                refine Kd.R_append_step k43 (w0 := w) w.heap.size (by rfl) (.tmp 23) (.tmp 38) 22 43 (.agg #[(.int .i64 0), (.int .i64 0)]) 16 rfl Try.underlying22 info43 rfl (by decide) (by omega) u7 x7_1 (⟨(rd_T43 l0 x8_1).f0, t502⟩ : S43) [.int .i64 ((rd_T43 l0 x8_1).f0), .int .i64 t502] (fun _ => True) (fun _ => False) rfl rfl ?aP (fun _ hk => hk.elim) ?aF ?aO ?aB ?aS ?aL ?_
                (case aP => exact k43_mkM _ _ _ (⟨(rd_T43 l0 x8_1).f0, t502⟩ : S43))
                (case aB => exact (by repeat (first | (with_reducible first | exact HB.out | apply below_alloc | apply pw_below_drewN | apply below_drew1) | exact HB.out)))
                (case aF => exact (fun _ _ => trivial))
                (case aO => exact (by (with_reducible repeat (first | apply Kd.R_alloc | apply Kd.R_drewN | apply Kd.R_drew)); exact HO_7.out))
                (case aS => exact (below_size (by repeat (first | (with_reducible first | exact HB.out | apply below_alloc | apply pw_below_drewN | apply below_drew1) | exact HB.out))))
                (case aL => have := LMc10.out; omega)
                intro v504 w12 ho hb hg hat
                rw [← Ny503.out] at ho
                have n0_ := Aside0.mk (hb)
                have n1_ := Aside0.mk (ho)
                clear HB
                clear HO_7
                have HB := n0_
                have HO505 := n1_
                clear n0_ n1_
                clear ho hb hg hat
                refine hK.out _ _ ⟨((HB.out.cell (World.block_lt_of_cell? w _ hw500_0)).trans hw500_0), ((HB.out.cell (World.block_lt_of_cell? w _ hw500_1)).trans hw500_1), ((HB.out.cell (World.block_lt_of_cell? w _ hw501_0)).trans hw501_0), ((HB.out.cell (World.block_lt_of_cell? w _ hw501_1)).trans hw501_1)⟩ (fun hHeld => ?_)
                clear hK K
                refine norm_ (a' := ?_) ?_ ?_
                rotate_left
                · show Act.put _ (some 39) _ = _
                  simp only [Act.put, List.setIfInBounds_toArray, List.set_cons_zero, List.set_cons_succ, i64_w, i32_w]
                  rfl
                refine pure_ (i := 17) (N := some 7) (v := ?_) (a' := ?_) #[true, true, true, true, true, true, true, true, true, true, true, true, true, true, true, true, true, true] rfl rfl (any_of HT_.out (by kernel_rfl)) (fun _ _ _ h => h) (Or.inl ⟨by rfl, ?_⟩) ?_ ?_
                rotate_left
                · intro w'
                  go_simp
                  with_reducible rfl
                rotate_left
                · simp only [Act.put, List.setIfInBounds_toArray, List.set_cons_zero, List.set_cons_succ, i64_w, i32_w]
                  rfl
                refine done_ (done_of HT_.out (by kernel_rfl)) ?_
                try go_wp2
                go_roundg k1
                case measure => have := HK1.out; omega
                case rel => exact ⟨(y503), (wrap64 (x8_1 + 1)), (by first | rfl | (simp; done) | (simp [*]; done)), H', ⟨by have := HK1.out; omega⟩, ⟨by (with_reducible repeat (first | apply Kd.R_alloc | apply Kd.R_drewN | apply Kd.R_drew)); exact HO505.out⟩, ⟨by repeat (first | (with_reducible first | exact HB.out | apply below_alloc | apply pw_below_drewN | apply below_drew1) | exact HB.out)⟩⟩
              · rw [if_neg c10] at H
                exact absurd H (by simp)
            · rw [if_neg c8] at H
              exact absurd H (by simp)
          · rw [if_neg c7] at H
            have c7b0 : decide (x8_1 < (l0.length : Int)) = false := decide_eq_false c7
            clear c7
            simp only [Option.some.injEq, Prod.mk.injEq] at H
            obtain ⟨rfl, rfl⟩ := H
            go_wp2
            go_ret2
            exact ⟨_, by first | rfl | (simp [errW_none, errW_some] <;> rfl) | (simp [*, errW_none, errW_some] <;> rfl), by (with_reducible repeat (first | apply Kd.R_alloc | apply Kd.R_drewN | apply Kd.R_drew)); exact HO_7.out, by repeat (first | (with_reducible first | exact HB.out | apply below_alloc | apply pw_below_drewN | apply below_drew1) | exact HB.out)⟩
    · replace c6 := Bool.eq_false_iff.mpr c6
      subst c6
      have H1 : (some (([] : List (S43)), 1)) = some (r1, r2) := by rw [if_neg (show ¬ (false = true) by decide)] at H; exact H
      clear H
      have H := H1
      clear H1
      simp only [Option.some.injEq, Prod.mk.injEq] at H
      obtain ⟨rfl, rfl⟩ := H
      go_enter Try.func67, Try.ntmps67
      go_wp2_with (first | ((with_reducible refine gate_callee (f := 66) rfl ?_); refine goesL_ (some 10) rfl rfl Try.func66 (by kernel_rfl) rfl #[.slice A0 l0.length c0] rfl (by (try simp only [List.map_toArray, List.map_cons, List.map_nil]); first | done | rfl | (simp only [List.length_drop, List.length_take]; rfl)) ?_; (with_reducible refine (verditerref08_Validate.calls k _ _ l0 t498 _ ?side1 ?side2 A3.out).mono ?_); (case side1 => repeat (first | exact HR0.out | (with_reducible refine Kd.C_alloc ?_ _) | (with_reducible refine Kd.C_drewN ?_ _) | (with_reducible refine Kd.C_drew ?_))); (case side2 => exact HC0.out); rintro e w' ⟨rfl, ⟨nd, rfl⟩⟩; refine ⟨_, rfl, ?_⟩) | ((with_reducible refine gate_callee (f := 75) rfl ?_); refine goesL_ (some 15) rfl rfl Try.func75 (by kernel_rfl) rfl #[.int .i64 a1] rfl (by (try simp only [List.map_toArray, List.map_cons, List.map_nil]); first | done | rfl | (simp only [List.length_drop, List.length_take]; rfl)) ?_; (with_reducible refine (verditerref08_isNumber.calls a1 false _ A5.out).mono ?_); rintro e w' ⟨rfl, ⟨nd, rfl⟩⟩; refine ⟨_, rfl, ?_⟩))
      go_ret2
      exact ⟨_, by first | rfl | (simp [errW_none, errW_some] <;> rfl) | (simp [*, errW_none, errW_some] <;> rfl), by first | exact Kd.R_nil _ _ _ _ _ | exact Kd.N_nil _ _ _ _ _ | exact Kd.V_nil _ _ _ _ _ | exact Kd.Q_nil _ _ _ _ _ | exact Kd.S_nil _ _ _ _ _, by repeat (first | (with_reducible first | exact HB.out | apply below_alloc | apply pw_below_drewN | apply below_drew1) | exact HB.out)⟩
  · rw [if_neg c4] at H
    have c4b0 : (t498 == 0) = false := beq_eq_false_iff_ne.mpr c4
    have c4b1 : (t498 != 0) = true := bne_iff_ne.mpr c4
    simp only [Option.some.injEq, Prod.mk.injEq] at H
    obtain ⟨rfl, rfl⟩ := H
    go_enter Try.func67, Try.ntmps67
    go_wp2_with (first | ((with_reducible refine gate_callee (f := 66) rfl ?_); refine goesL_ (some 10) rfl rfl Try.func66 (by kernel_rfl) rfl #[.slice A0 l0.length c0] rfl (by (try simp only [List.map_toArray, List.map_cons, List.map_nil]); first | done | rfl | (simp only [List.length_drop, List.length_take]; rfl)) ?_; (with_reducible refine (verditerref08_Validate.calls k _ _ l0 t498 _ ?side1 ?side2 A3.out).mono ?_); (case side1 => repeat (first | exact HR0.out | (with_reducible refine Kd.C_alloc ?_ _) | (with_reducible refine Kd.C_drewN ?_ _) | (with_reducible refine Kd.C_drew ?_))); (case side2 => exact HC0.out); rintro e w' ⟨rfl, ⟨nd, rfl⟩⟩; refine ⟨_, rfl, ?_⟩))
    go_ret2
    exact ⟨_, by first | rfl | (simp [errW_none, errW_some] <;> rfl) | (simp [*, errW_none, errW_some] <;> rfl), by first | exact Kd.R_nil _ _ _ _ _ | exact Kd.N_nil _ _ _ _ _ | exact Kd.V_nil _ _ _ _ _ | exact Kd.Q_nil _ _ _ _ _ | exact Kd.S_nil _ _ _ _ _, by repeat (first | (with_reducible first | exact HB.out | apply below_alloc | apply pw_below_drewN | apply below_drew1) | exact HB.out)⟩

end Go.Proofs.Ythlbjdiicmojfaa.P

/-! Part PF68. -/
-- Written for this claim by wip/print_more.py (a session's program that runs the kit's printer with hand-proved functions beside). Lean checks it.
namespace Go.Proofs.Ythlbjdiicmojfaa.P
open Go.RowKit Go.Proofs.YthlbjdiicmojfaaW.PrintWords Go.Proofs.YthlbjdiicmojfaaW.PrintLast Go.Proofs.YthlbjdiicmojfaaW.PrintMore
attribute [local go_sem] max2_int min2_int max_two min_two max_three min_three max_four min_four   -- for this text's walks alone
set_option linter.unusedVariables false
set_option linter.unusedSimpArgs false

/-! ### secret_Scale: function 68 -/
def secret_Scale.l0 : Nat → Int → List (S43) → Int → Int → Option ((List (S43)) × Int)
  | 0, _, _, _, _ => none
  | k + 1, x1, x7, x20, x21 => if x21 < x20 then (if 0 ≤ x21 then (if x21 < (x7.length : Int) then ((secret_rest.f (wrap64 (((rd_T43 x7 x21).f1) * x1))).bind fun t512 => (secret_Scale.l0 k x1 (x7.set (x21 : Int).toNat (⟨(rd_T43 x7 x21).f0, t512⟩ : S43)) x20 (wrap64 (x21 + 1)))) else (none)) else (none)) else (some (x7, 0))
def secret_Scale.f (k : Nat) (l0 : List (S43)) (a1 : Int) : Option ((List (S43)) × Int) := (secret_Validate.f l0).bind fun t506 => (if t506 = 0 then ((secret_isNumber.f a1).bind fun t507 => (if t507 = true then ((api_Part_93.f l0).bind fun t508 => (secret_Scale.l0 k a1 t508 (t508.length : Int) 0)) else (some (([] : List (S43)), 1)))) else (some (([] : List (S43)), t506)))
theorem secret_Scale.mono_l : ∀ k, (∀ y0 y1 y2 y3, LeO (secret_Scale.l0 k y0 y1 y2 y3) (secret_Scale.l0 (k + 1) y0 y1 y2 y3))
  | 0 => fun _ _ _ _ r h => by simp [secret_Scale.l0] at h
  | k + 1 => by
    have ih0 := secret_Scale.mono_l k
    · intro y0 y1 y2 y3
      unfold secret_Scale.l0
      repeat' first
      | (with_reducible exact ih0 _ _ _ _)
      | (with_reducible exact LeO.refl _)
      | (with_reducible exact LeO.none _)
      | (with_reducible refine LeO.ite ?_ ?_)
      | (with_reducible refine LeO.bind ?_ (fun _ => ?_))
      | exact ih0 _ _ _ _
      | exact LeO.none _
      | refine LeO.ite ?_ ?_
      | refine LeO.bind ?_ (fun _ => ?_)
theorem secret_Scale.mono : ∀ a0 a1 k, LeO (secret_Scale.f k a0 a1) (secret_Scale.f (k + 1) a0 a1) := by
  intro a0 a1 k
  have ih0 := secret_Scale.mono_l k
  unfold secret_Scale.f
  repeat' first
      | (with_reducible exact ih0 _ _ _ _)
      | (with_reducible exact LeO.refl _)
      | (with_reducible exact LeO.none _)
      | (with_reducible refine LeO.ite ?_ ?_)
      | (with_reducible refine LeO.bind ?_ (fun _ => ?_))
      | exact ih0 _ _ _ _
      | exact LeO.none _
      | refine LeO.ite ?_ ?_
      | refine LeO.bind ?_ (fun _ => ?_)
set_option maxHeartbeats 8000000 in
set_option maxRecDepth 100000 in
theorem secret_Scale.calls (k : Nat) (A0 : Option Addr) (c0 : Nat) (l0 : List (S43)) (a1 : Int) (r1 : List (S43)) (r2 : Int) (w : World) (hr0 : Kd.C k43 w A0 l0.length l0) (hc0 : l0.length ≤ c0) (h : secret_Scale.f k l0 a1 = some (r1, r2)) :
    Calls Try.prog 68 #[.slice A0 l0.length c0, .int .i64 a1] w fun e w' => ∃ v0_ : Value, e = .returned (.tuple #[v0_, .int .i64 r2]) ∧ Kd.R k43 43 w' w.heap.size (fun _ => True) v0_ r1 ∧ Below w.heap.size w w' := by
  have HR0 := Aside0.mk hr0
  have HC0 := Aside0.mk hc0
  clear hr0 hc0
  have HB := Aside0.mk (Below.refl w.heap.size w)
  have H : ((secret_Validate.f l0).bind fun t506 => (if t506 = 0 then ((secret_isNumber.f a1).bind fun t507 => (if t507 = true then ((api_Part_93.f l0).bind fun t508 => (secret_Scale.l0 k a1 t508 (t508.length : Int) 0)) else (some (([] : List (S43)), 1)))) else (some (([] : List (S43)), t506)))) = some (r1, r2) := h
  clear h
  replace H := Option.bind_eq_some_iff.mp H
  obtain ⟨t506, A30, H⟩ := H
  replace H : (if t506 = 0 then ((secret_isNumber.f a1).bind fun t507 => (if t507 = true then ((api_Part_93.f l0).bind fun t508 => (secret_Scale.l0 k a1 t508 (t508.length : Int) 0)) else (some (([] : List (S43)), 1)))) else (some (([] : List (S43)), t506))) = some (r1, r2) := H
  have A3 := Aside0.mk A30
  clear A30
  by_cases c4 : t506 = 0
  · rw [if_pos c4] at H
    have c4b0 : (t506 == 0) = true := beq_iff_eq.mpr c4
    have c4b1 : (t506 != 0) = false := bne_eq_false_iff_eq.mpr c4
    clear c4
    replace H := Option.bind_eq_some_iff.mp H
    obtain ⟨t507, A50, H⟩ := H
    replace H : (if t507 = true then ((api_Part_93.f l0).bind fun t508 => (secret_Scale.l0 k a1 t508 (t508.length : Int) 0)) else (some (([] : List (S43)), 1))) = some (r1, r2) := H
    have A5 := Aside0.mk A50
    clear A50
    by_cases c6 : t507 = true
    · subst c6
      have H1 : ((api_Part_93.f l0).bind fun t508 => (secret_Scale.l0 k a1 t508 (t508.length : Int) 0)) = some (r1, r2) := by rw [if_pos rfl] at H; exact H
      clear H
      have H := H1
      clear H1
      replace H := Option.bind_eq_some_iff.mp H
      obtain ⟨t508, A70, H⟩ := H
      replace H : (secret_Scale.l0 k a1 t508 (t508.length : Int) 0) = some (r1, r2) := H
      have A7 := Aside0.mk A70
      clear A70
      have H' := Aside0.mk H
      clear H
      go_enter Try.func68, Try.ntmps68
      go_wp2_with (first | ((with_reducible refine gate_callee (f := 65) rfl ?_); refine goesL_ (some 10) rfl rfl Try.func65 (by kernel_rfl) rfl #[.slice A0 l0.length c0] rfl (by (try simp only [List.map_toArray, List.map_cons, List.map_nil]); first | done | rfl | (simp only [List.length_drop, List.length_take]; rfl)) ?_; (with_reducible refine (secret_Validate.calls _ _ l0 t506 _ ?side1 ?side2 A3.out).mono ?_); (case side1 => repeat (first | exact HR0.out | (with_reducible refine Kd.C_alloc ?_ _) | (with_reducible refine Kd.C_drewN ?_ _) | (with_reducible refine Kd.C_drew ?_))); (case side2 => exact HC0.out); rintro e w8 ⟨rfl, hb⟩; refine ⟨_, rfl, ?_⟩; have n0_ := Aside0.mk (below_step (by repeat (first | (with_reducible first | exact HB.out | apply below_alloc | apply pw_below_drewN | apply below_drew1) | exact HB.out)) hb); clear HB; have HB := n0_; clear n0_; (try clear hb); (try clear hb2); (try clear hk); (try clear hi)) | ((with_reducible refine gate_callee (f := 77) rfl ?_); refine goesL_ (some 15) rfl rfl Try.func77 (by kernel_rfl) rfl #[.int .i64 a1] rfl (by (try simp only [List.map_toArray, List.map_cons, List.map_nil]); first | done | rfl | (simp only [List.length_drop, List.length_take]; rfl)) ?_; (with_reducible refine (secret_isNumber.calls a1 true _ A5.out).mono ?_); rintro e w' ⟨rfl, ⟨nd, rfl⟩⟩; refine ⟨_, rfl, ?_⟩) | ((with_reducible refine gate_callee (f := 93) rfl ?_); refine goesL_ (some 18) rfl rfl Try.func93 (by kernel_rfl) rfl #[.slice A0 l0.length c0] rfl (by (try simp only [List.map_toArray, List.map_cons, List.map_nil]); first | done | rfl | (simp only [List.length_drop, List.length_take]; rfl)) ?_; (with_reducible refine (api_Part_93.calls _ _ l0 t508 _ ?side1 ?side2 A7.out).mono ?_); (case side1 => repeat (first | exact (Kd.C_below HR0.out (by repeat (first | (with_reducible first | exact HB.out | apply below_alloc | apply pw_below_drewN | apply below_drew1) | exact HB.out))) | (with_reducible refine Kd.C_alloc ?_ _) | (with_reducible refine Kd.C_drewN ?_ _) | (with_reducible refine Kd.C_drew ?_))); (case side2 => exact HC0.out); rintro e w9 ⟨v509, rfl, ho0, hb⟩; refine ⟨_, rfl, ?_⟩; have n0_ := Aside0.mk (Kd.R_lower ho0 (below_size (by repeat (first | (with_reducible first | exact HB.out | apply below_alloc | apply pw_below_drewN | apply below_drew1) | exact HB.out)))); have n1_ := Aside0.mk (below_step (by repeat (first | (with_reducible first | exact HB.out | apply below_alloc | apply pw_below_drewN | apply below_drew1) | exact HB.out)) hb); clear HB; have HO510 := n0_; have HB := n1_; clear n0_ n1_; (try clear hb); (try clear hb2); (try clear hk); (try clear hi); (try clear ho0); obtain ⟨Ao10, co10, eo10⟩ := Kd.R_slice HO510.out; subst eo10))
      go_loopg [21] k (fun kq v21 w' => ∃ (x7_1 : List (S43)) (x21_1 : Int), v21 = .int .i64 x21_1 ∧ Aside0 (secret_Scale.l0 kq a1 x7_1 (t508.length : Int) x21_1 = some (r1, r2)) ∧ Aside0 (kq ≤ k) ∧ Aside0 (Kd.R k43 43 w' w.heap.size (fun _ => True) (.slice Ao10 t508.length co10) x7_1) ∧ Aside0 (Below w.heap.size w w'))
      case atStart => exact ⟨(t508), (0), (by first | rfl | (simp; done) | (simp [*]; done)), H', ⟨Nat.le_refl _⟩, ⟨by (with_reducible repeat (first | apply Kd.R_alloc | apply Kd.R_drewN | apply Kd.R_drew)); exact HO510.out⟩, ⟨by repeat (first | (with_reducible first | exact HB.out | apply below_alloc | apply pw_below_drewN | apply below_drew1) | exact HB.out)⟩⟩
      case round =>
        clear H'
        try clear p2
        try clear c4
        try clear c4b0
        try clear c4b1
        try clear c6
        try clear c7
        try clear c9
        obtain ⟨x7_1, x21_1, rfl, HA, HK1, HO_7, HB⟩ := hrel
        have hl7_1 := (Kd.R_reads' HO_7.out).1
        rw [hl7_1] at HO_7
        (try simp only [hl7_1])
        cases gk with
        | zero => exact absurd HA.out (by simp [secret_Scale.l0])
        | succ k1 =>
          have H := HA.out
          clear HA
          simp only [secret_Scale.l0] at H
          by_cases c11 : x21_1 < (t508.length : Int)
          · rw [if_pos c11] at H
            have c11b0 : decide (x21_1 < (t508.length : Int)) = true := decide_eq_true c11
            (try (have cq_ := c11b0; simp only [hl7_1] at cq_))
            clear c11
            by_cases c12 : 0 ≤ x21_1
            · rw [if_pos c12] at H
              have c12b0 : decide (0 ≤ x21_1) = true := decide_eq_true c12
              clear c12
              by_cases c13 : x21_1 < (x7_1.length : Int)
              · rw [if_pos c13] at H
                have c13b0 : decide (x21_1 < (x7_1.length : Int)) = true := decide_eq_true c13
                (try (have cq_ := c13b0; simp only [hl7_1] at cq_))
                clear c13
                replace H := Option.bind_eq_some_iff.mp H
                obtain ⟨t512, A140, H⟩ := H
                replace H : (secret_Scale.l0 k1 a1 (x7_1.set (x21_1 : Int).toNat (⟨(rd_T43 x7_1 x21_1).f0, t512⟩ : S43)) (t508.length : Int) (wrap64 (x21_1 + 1))) = some (r1, r2) := H
                have A14 := Aside0.mk A140
                clear A140
                obtain ⟨y513, hy513⟩ : ∃ y_ : List (S43), y_ = (x7_1.set (x21_1 : Int).toNat (⟨(rd_T43 x7_1 x21_1).f0, t512⟩ : S43)) := ⟨_, rfl⟩
                replace H : (secret_Scale.l0 k1 a1 y513 (t508.length : Int) (wrap64 (x21_1 + 1))) = some (r1, r2) := by first | (rw [hy513]; with_reducible exact H) | (have H2_ := (Option.bind_some _ _).symm.trans H; rw [hy513]; with_reducible exact H2_) | (have H2_ := (Option.bind_some _ _).symm.trans H; with_reducible exact H2_) | with_reducible exact H | (rw [hy513]; exact H) | exact H
                have Ny513 := Aside0.mk hy513
                clear hy513
                have H' := Aside0.mk H
                clear H
                have p511 : 0 ≤ (x21_1 : Int) := of_decide_eq_true (by first | (with_reducible assumption) | assumption)
                have q511 : x21_1 < (x7_1.length : Int) := of_decide_eq_true (by first | (with_reducible assumption) | assumption)
                obtain ⟨ad511, e511, hx511_0, hx511_1⟩ := at_T43 (Kd.R_reads' HO_7.out).2.2 x21_1 p511 q511
                cases e511
                replace p511 := eq_true p511
                replace q511 := eq_true q511
                go_wp2_with (first | ((with_reducible refine gate_callee (f := 96) rfl ?_); refine goesL_ (some 33) rfl rfl Try.func96 (by kernel_rfl) rfl #[.int .i64 (wrap64 (((rd_T43 x7_1 x21_1).f1) * a1))] rfl (by (try simp only [List.map_toArray, List.map_cons, List.map_nil]); first | done | rfl | (simp only [List.length_drop, List.length_take]; rfl)) ?_; (with_reducible refine (secret_rest.calls (wrap64 (((rd_T43 x7_1 x21_1).f1) * a1)) t512 _ A14.out).mono ?_); rintro e w' ⟨rfl, ⟨nd, rfl⟩⟩; refine ⟨_, rfl, ?_⟩; (try (rw [drewN_self wr]; generalize hq_ : World.drewN wr _ = wr; have n0_ : Aside0 (Kd.R k43 43 wr w.heap.size (fun _ => True) (.slice (some ad511) x7_1.length co10) x7_1) := ⟨by rw [← hq_]; exact (by (with_reducible repeat (first | apply Kd.R_alloc | apply Kd.R_drewN | apply Kd.R_drew)); exact HO_7.out)⟩; have n1_ : Aside0 (Below w.heap.size w wr) := ⟨by rw [← hq_]; exact (by repeat (first | (with_reducible first | exact HB.out | apply below_alloc | apply pw_below_drewN | apply below_drew1) | exact HB.out))⟩; clear HO_7 HB hq_; have HO_7 := n0_; have HB := n1_; clear n0_ n1_)); have p15 : 0 ≤ (x21_1 : Int) := of_decide_eq_true (by first | (with_reducible assumption) | assumption); have q15 : (x21_1 : Int) < ((x7_1.length : Int) : Int) := of_decide_eq_true (by first | (with_reducible assumption) | assumption); obtain ⟨go15, co15, eo15, gb15, gl15, cl15, HG15⟩ := Kd.R_form HO_7.out (by omega); (first | cases eo15 | (injection eo15 with ea_ en_ ec_; (first | subst ea_ | (injection ea_ with ea_; subst ea_)); subst ec_; clear en_)); have GB15 := Aside0.mk gb15; have GG15 := Aside0.mk HG15; clear gb15 gl15 HG15; (first | simp only [add_plain] at hx511_0 | skip); (first | simp only [add_plain] at hx511_1 | skip); obtain ⟨ce15, hcl15, hM15, hcc15, hfr15⟩ := Kd.R_elem HO_7.out z43 (x21_1 : Int) p15 q15; obtain rfl := k43_openM hM15; have hx15_0 : wr.cell? ⟨go15, (x21_1 : Int).toNat * 2, none⟩ = some (.int .i64 ((rd_T43 x7_1 x21_1).f0)) := hcc15 0 _ rfl; have hx15_1 : wr.cell? ⟨go15, (x21_1 : Int).toNat * 2 + 1, none⟩ = some (.int .i64 ((rd_T43 x7_1 x21_1).f1)) := hcc15 1 _ rfl; have hf15_0 : wr.frozen? ⟨go15, (x21_1 : Int).toNat * 2, none⟩ = false := hfr15 0; have hf15_1 : wr.frozen? ⟨go15, (x21_1 : Int).toNat * 2 + 1, none⟩ = false := hfr15 1; clear hcl15 hcc15 hfr15 hM15; replace p15 := eq_true p15; replace q15 := eq_true q15; have HX16 := Aside0.mk (show Kd.R k43 43 wr w.heap.size (fun _ => True) (.slice (some ⟨go15, 0, none⟩) x7_1.length co10) x7_1 from (by (with_reducible repeat (first | apply Kd.R_alloc | apply Kd.R_drewN | apply Kd.R_drew)); exact HO_7.out)); obtain ⟨ce16, hcl16, hM16, hcc16, hfr16⟩ := Kd.R_elem HX16.out z43 (x21_1 : Int) (of_decide_eq_true (by first | (with_reducible assumption) | assumption)) (by have h_ : (x21_1 : Int) < ((x7_1.length : Int) : Int) := of_decide_eq_true (by first | (with_reducible assumption) | assumption); first | exact h_ | (have e_ := (Kd.R_reads' HO_7.out).1; omega) | simpa using h_); obtain rfl := k43_openM hM16; have HP16 := Kd.R_seg HX16.out (x21_1 : Int) (of_decide_eq_true (by first | (with_reducible assumption) | assumption)) (by have h_ : (x21_1 : Int) < ((x7_1.length : Int) : Int) := of_decide_eq_true (by first | (with_reducible assumption) | assumption); first | exact h_ | (have e_ := (Kd.R_reads' HO_7.out).1; omega) | simpa using h_) (seg := [.int .i64 t512]) (j := 1) hcl16 hcc16 (show 2 ≤ 2 from by decide) (x' := (⟨(rd_T43 x7_1 x21_1).f0, t512⟩ : S43)) (k43_mkM _ _ _ (⟨(rd_T43 x7_1 x21_1).f0, t512⟩ : S43) ) (fun _ hk => hk); have hx16_1 := hcc16 1 _ rfl; (try simp only [show (k43).sz = 2 from rfl, Nat.mul_one, Nat.add_zero] at hx16_1); have hf16_1 := hfr16 1; (try simp only [show (k43).sz = 2 from rfl, Nat.mul_one, Nat.add_zero] at hf16_1); clear hcl16 hcc16 hfr16 hM16) | ((with_reducible refine gate_store (t := 3) (p := 35) rfl ?_); refine store_event (t := 3) (p := 35) (v := ?vo_w17) (w1 := (wr.setCell ⟨go15, (x21_1 : Int).toNat * 2 + 1, none⟩ (.int .i64 t512))) ?hg ?ho ?hn ?hr ?_; (case ho => rfl); (case hg => rfl); (case hn => rfl); (case hr => first | (go_simp; done) | (go_simp; rfl)); intro w17 hw; have hg : wr.grownBy w17 (some go15) := (by rw [hw]; exact HP16.2); have hp_ : Kd.R k43 43 w17 w.heap.size (fun _ => True) (.slice (some ⟨go15, 0, none⟩) x7_1.length co10) y513 := (by rw [hw, Ny513.out]; exact HP16.1); clear HP16; have n0_ := Aside0.mk (hp_); have n1_ := Aside0.mk ((by rw [hw]; exact below_set (HB.out) GB15.out : Below w.heap.size w w17)); clear HO_7; clear HB; have HO_7 := n0_; have HB := n1_; clear n0_ n1_; clear hg hw hp_))
                (try simp only [← hl7_1])
                go_roundg k1
                case measure => have := HK1.out; omega
                case rel => exact ⟨(y513), (wrap64 (x21_1 + 1)), (by first | rfl | (simp; done) | (simp [*]; done)), H', ⟨by have := HK1.out; omega⟩, ⟨by (try simp only [hl7_1]); (with_reducible repeat (first | apply Kd.R_alloc | apply Kd.R_drewN | apply Kd.R_drew)); exact HO_7.out⟩, ⟨by repeat (first | (with_reducible first | exact HB.out | apply below_alloc | apply pw_below_drewN | apply below_drew1) | exact HB.out)⟩⟩
              · rw [if_neg c13] at H
                exact absurd H (by simp)
            · rw [if_neg c12] at H
              exact absurd H (by simp)
          · rw [if_neg c11] at H
            have c11b0 : decide (x21_1 < (t508.length : Int)) = false := decide_eq_false c11
            (try (have cq_ := c11b0; simp only [hl7_1] at cq_))
            clear c11
            simp only [Option.some.injEq, Prod.mk.injEq] at H
            obtain ⟨rfl, rfl⟩ := H
            go_wp2
            go_ret2
            exact ⟨_, by first | rfl | (simp [errW_none, errW_some] <;> rfl) | (simp [*, errW_none, errW_some] <;> rfl), by (with_reducible repeat (first | apply Kd.R_alloc | apply Kd.R_drewN | apply Kd.R_drew)); exact HO_7.out, by repeat (first | (with_reducible first | exact HB.out | apply below_alloc | apply pw_below_drewN | apply below_drew1) | exact HB.out)⟩
    · replace c6 := Bool.eq_false_iff.mpr c6
      subst c6
      have H1 : (some (([] : List (S43)), 1)) = some (r1, r2) := by rw [if_neg (show ¬ (false = true) by decide)] at H; exact H
      clear H
      have H := H1
      clear H1
      simp only [Option.some.injEq, Prod.mk.injEq] at H
      obtain ⟨rfl, rfl⟩ := H
      go_enter Try.func68, Try.ntmps68
      go_wp2_with (first | ((with_reducible refine gate_callee (f := 65) rfl ?_); refine goesL_ (some 10) rfl rfl Try.func65 (by kernel_rfl) rfl #[.slice A0 l0.length c0] rfl (by (try simp only [List.map_toArray, List.map_cons, List.map_nil]); first | done | rfl | (simp only [List.length_drop, List.length_take]; rfl)) ?_; (with_reducible refine (secret_Validate.calls _ _ l0 t506 _ ?side1 ?side2 A3.out).mono ?_); (case side1 => repeat (first | exact HR0.out | (with_reducible refine Kd.C_alloc ?_ _) | (with_reducible refine Kd.C_drewN ?_ _) | (with_reducible refine Kd.C_drew ?_))); (case side2 => exact HC0.out); rintro e w18 ⟨rfl, hb⟩; refine ⟨_, rfl, ?_⟩; have n0_ := Aside0.mk (below_step (by repeat (first | (with_reducible first | exact HB.out | apply below_alloc | apply pw_below_drewN | apply below_drew1) | exact HB.out)) hb); clear HB; have HB := n0_; clear n0_; (try clear hb); (try clear hb2); (try clear hk); (try clear hi)) | ((with_reducible refine gate_callee (f := 77) rfl ?_); refine goesL_ (some 15) rfl rfl Try.func77 (by kernel_rfl) rfl #[.int .i64 a1] rfl (by (try simp only [List.map_toArray, List.map_cons, List.map_nil]); first | done | rfl | (simp only [List.length_drop, List.length_take]; rfl)) ?_; (with_reducible refine (secret_isNumber.calls a1 false _ A5.out).mono ?_); rintro e w' ⟨rfl, ⟨nd, rfl⟩⟩; refine ⟨_, rfl, ?_⟩))
      go_ret2
      exact ⟨_, by first | rfl | (simp [errW_none, errW_some] <;> rfl) | (simp [*, errW_none, errW_some] <;> rfl), by first | exact Kd.R_nil _ _ _ _ _ | exact Kd.N_nil _ _ _ _ _ | exact Kd.V_nil _ _ _ _ _ | exact Kd.Q_nil _ _ _ _ _ | exact Kd.S_nil _ _ _ _ _, by repeat (first | (with_reducible first | exact HB.out | apply below_alloc | apply pw_below_drewN | apply below_drew1) | exact HB.out)⟩
  · rw [if_neg c4] at H
    have c4b0 : (t506 == 0) = false := beq_eq_false_iff_ne.mpr c4
    have c4b1 : (t506 != 0) = true := bne_iff_ne.mpr c4
    simp only [Option.some.injEq, Prod.mk.injEq] at H
    obtain ⟨rfl, rfl⟩ := H
    go_enter Try.func68, Try.ntmps68
    go_wp2_with (first | ((with_reducible refine gate_callee (f := 65) rfl ?_); refine goesL_ (some 10) rfl rfl Try.func65 (by kernel_rfl) rfl #[.slice A0 l0.length c0] rfl (by (try simp only [List.map_toArray, List.map_cons, List.map_nil]); first | done | rfl | (simp only [List.length_drop, List.length_take]; rfl)) ?_; (with_reducible refine (secret_Validate.calls _ _ l0 t506 _ ?side1 ?side2 A3.out).mono ?_); (case side1 => repeat (first | exact HR0.out | (with_reducible refine Kd.C_alloc ?_ _) | (with_reducible refine Kd.C_drewN ?_ _) | (with_reducible refine Kd.C_drew ?_))); (case side2 => exact HC0.out); rintro e w19 ⟨rfl, hb⟩; refine ⟨_, rfl, ?_⟩; have n0_ := Aside0.mk (below_step (by repeat (first | (with_reducible first | exact HB.out | apply below_alloc | apply pw_below_drewN | apply below_drew1) | exact HB.out)) hb); clear HB; have HB := n0_; clear n0_; (try clear hb); (try clear hb2); (try clear hk); (try clear hi)))
    go_ret2
    exact ⟨_, by first | rfl | (simp [errW_none, errW_some] <;> rfl) | (simp [*, errW_none, errW_some] <;> rfl), by first | exact Kd.R_nil _ _ _ _ _ | exact Kd.N_nil _ _ _ _ _ | exact Kd.V_nil _ _ _ _ _ | exact Kd.Q_nil _ _ _ _ _ | exact Kd.S_nil _ _ _ _ _, by repeat (first | (with_reducible first | exact HB.out | apply below_alloc | apply pw_below_drewN | apply below_drew1) | exact HB.out)⟩

end Go.Proofs.Ythlbjdiicmojfaa.P

/-! Part Eqs3. -/
namespace Go.Proofs.Ythlbjdiicmojfaa.P
open Go.RowKit Go.Proofs.YthlbjdiicmojfaaW.PrintWords Go.Proofs.YthlbjdiicmojfaaW.PrintLast Go.Proofs.YthlbjdiicmojfaaW.PrintMore
set_option linter.unusedVariables false

/-! ### Parts multiplied -/
def scaled (l : List S43) (by' : Int) : List S43 := l.map fun p => ⟨p.f0, (p.f1 * by') % 251⟩
def scaleR (l : List S43) (by' : Int) : List S43 × Int := if valid l = 0 then (if num by' = true then (scaled l by', 0) else ([], 1)) else ([], valid l)
theorem rscale_loop (l : List S43) (x : Int) (hv : valid l = 0) (hx : num x = true) : ∀ (d i k : Nat), i + d = l.length → d < k → verditerref08_Scale.l0 k l x (scaled (l.take i) x) (i : Int) = some (scaled l x, 0) := by
  obtain ⟨hlen, _, _⟩ := valid_iff.1 hv
  have hx' := num_iff.1 hx
  intro d
  induction d with
  | zero =>
    intro i k hi hk
    obtain ⟨k, rfl⟩ : ∃ j, k = j + 1 := ⟨k - 1, by omega⟩
    rw [verditerref08_Scale.l0, if_neg (by omega), List.take_of_length_le (by omega)]
  | succ d ih =>
    intro i k hi hk
    obtain ⟨k, rfl⟩ : ∃ j, k = j + 1 := ⟨k - 1, by omega⟩
    have hil : i < l.length := by omega
    have hy := num_iff.1 (valid_num hv (List.getElem_mem hil)).2
    have hm := mul_range hx'.1 hx'.2 hy.1 hy.2
    have hs : scaled (l.take (i + 1)) x = scaled (l.take i) x ++ [⟨l[i].f0, (x * l[i].f1) % 251⟩] := by
      unfold scaled
      rw [List.take_succ_eq_append_getElem hil, List.map_append, List.map_cons, List.map_nil, Int.mul_comm]
    rw [verditerref08_Scale.l0, if_pos (by omega), if_pos (by omega), rdT_get l i hil, wrap_id (a := x * l[i].f1) (by omega) (by omega), mod_eq, Option.bind_some, if_pos (by simp [scaled]; omega), ← hs, wrap_succ i (by omega)]
    exact ih (i + 1) k (by omega) (by omega)
theorem rscale_eq (l : List S43) (x : Int) (k : Nat) (hk : 300 ≤ k) : verditerref08_Scale.f k l x = some (scaleR l x) := by
  rw [verditerref08_Scale.f, rval_eq l k hk, Option.bind_some]
  unfold scaleR
  by_cases hv : valid l = 0
  · rw [if_pos hv, if_pos hv, risNumber_eq, Option.bind_some]
    by_cases hn : num x = true
    · rw [if_pos hn, if_pos hn]
      have := (valid_iff.1 hv).1
      exact rscale_loop l x hv hn l.length 0 k (by omega) (by omega)
    · rw [if_neg hn, if_neg hn]
  · rw [if_neg hv, if_neg hv]
theorem set_mid (l : List S43) (x : Int) (i : Nat) (hi : i < l.length) (z : S43) : (scaled (l.take i) x ++ l.drop i).set i z = scaled (l.take i) x ++ z :: l.drop (i + 1) := by
  have hl : (scaled (l.take i) x).length = i := by simp [scaled]; omega
  rw [List.set_append, if_neg (by omega), hl, Nat.sub_self, List.drop_eq_getElem_cons hi]
  rfl
theorem sscale_loop (l : List S43) (x : Int) (hv : valid l = 0) (hx : num x = true) : ∀ (d i k : Nat), i + d = l.length → d < k → secret_Scale.l0 k x (scaled (l.take i) x ++ l.drop i) (l.length : Int) (i : Int) = some (scaled l x, 0) := by
  obtain ⟨hlen, _, _⟩ := valid_iff.1 hv
  have hx' := num_iff.1 hx
  intro d
  induction d with
  | zero =>
    intro i k hi hk
    obtain ⟨k, rfl⟩ : ∃ j, k = j + 1 := ⟨k - 1, by omega⟩
    rw [secret_Scale.l0, if_neg (by omega), List.take_of_length_le (by omega), List.drop_of_length_le (by omega), List.append_nil]
  | succ d ih =>
    intro i k hi hk
    obtain ⟨k, rfl⟩ : ∃ j, k = j + 1 := ⟨k - 1, by omega⟩
    have hil : i < l.length := by omega
    have hy := num_iff.1 (valid_num hv (List.getElem_mem hil)).2
    have hm := mul_range hy.1 hy.2 hx'.1 hx'.2
    have hsl : (scaled (l.take i) x).length = i := by simp [scaled]; omega
    have hlen2 : (scaled (l.take i) x ++ l.drop i).length = l.length := by simp [scaled]; omega
    have hrd : rd_T43 (scaled (l.take i) x ++ l.drop i) (i : Int) = l[i] := by
      rw [rdT_get _ i (by omega), List.getElem_append_right (by omega)]
      simp [hsl]
    have hs : scaled (l.take (i + 1)) x = scaled (l.take i) x ++ [⟨l[i].f0, (l[i].f1 * x) % 251⟩] := by
      unfold scaled
      rw [List.take_succ_eq_append_getElem hil, List.map_append, List.map_cons, List.map_nil]
    have ih' := ih (i + 1) k (by omega) (by omega)
    rw [hs, List.append_assoc] at ih'
    rw [secret_Scale.l0, if_pos (by omega), if_pos (by omega), if_pos (by omega), hrd, wrap_id (a := l[i].f1 * x) (by omega) (by omega), rest_eq, Option.bind_some, Int.toNat_natCast, set_mid l x i hil, wrap_succ i (by omega)]
    exact ih'
theorem sscale_eq (l : List S43) (x : Int) (k : Nat) (hk : 300 ≤ k) : secret_Scale.f k l x = some (scaleR l x) := by
  rw [secret_Scale.f, secret_Validate.f, Option.bind_some]
  unfold scaleR
  by_cases hv : valid l = 0
  · rw [if_pos hv, if_pos hv, isNumber_eq, Option.bind_some]
    by_cases hn : num x = true
    · have := (valid_iff.1 hv).1
      rw [if_pos hn, if_pos hn, api_Part_93.f, if_pos this, Option.bind_some]
      exact sscale_loop l x hv hn l.length 0 k (by omega) (by omega)
    · rw [if_neg hn, if_neg hn]
  · rw [if_neg hv, if_neg hv]

/-! ### Parts whose places are those of others -/
theorem valid_same {l m : List S43} (hv : valid l = 0) (hf : m.map S43.f0 = l.map S43.f0) (hy : ∀ p ∈ m, num p.f1 = true) : valid m = 0 := by
  obtain ⟨h1, h2, h3⟩ := valid_iff.1 hv
  have hlen : m.length = l.length := by have := congrArg List.length hf; simpa using this
  refine valid_iff.2 ⟨by omega, fun p hp => ?_, by rw [hf]; exact h3⟩
  have : p.f0 ∈ l.map S43.f0 := by rw [← hf]; exact List.mem_map.2 ⟨p, hp, rfl⟩
  obtain ⟨q, hq, e⟩ := List.mem_map.1 this
  have h4 := okP_iff.1 (h2 q hq)
  have h5 := num_iff.1 (hy p hp)
  exact okP_iff.2 ⟨by omega, by omega, h5.1, h5.2⟩
theorem scaled_places (l : List S43) (x : Int) : (scaled l x).map S43.f0 = l.map S43.f0 := by
  unfold scaled; rw [List.map_map]; rfl
theorem valid_scaled {l : List S43} (hv : valid l = 0) (x : Int) : valid (scaled l x) = 0 :=
  valid_same hv (scaled_places l x) fun p hp => by
    obtain ⟨q, _, rfl⟩ := List.mem_map.1 hp
    exact num_mod _
/-- A curve whose numbers are another's, each multiplied and added. -/
theorem atI_map (f : Int → Int) (u : Int) (hf : ∀ a, num (f a) = true ∧ cst (f a) = cst u * cst a) (c : List Int) (x : Int) : cst (atI (c.map f) x) = cst u * cst (atI c x) := by
  induction c with
  | nil => show cst 0 = cst u * cst 0; rw [cst_zero]; grind
  | cons a c ih =>
    show cst ((atI (c.map f) x * x + f a) % 251) = cst u * cst ((atI c x * x + a) % 251)
    rw [cst_mod, cst_mod, cst_add, cst_add, cst_mul, cst_mul, ih, (hf a).2]; grind
theorem secretR_ok {l : List S43} (hv : valid l = 0) (h1 : 1 ≤ l.length) (h6 : l.length ≤ 6) : secretR l = (atI (interp (pts l)) 0, 0) := by
  unfold secretR
  rw [curveR_eq hv h1 h6, if_pos rfl, atI_zero (interp_nums _)]
theorem secretR_zero {l : List S43} (h : (secretR l).2 = 0) : valid l = 0 ∧ 1 ≤ l.length ∧ l.length ≤ 6 := by
  unfold secretR at h
  by_cases hc : (curveR l).2 = 0
  · obtain ⟨a, b, c, _⟩ := curveR_ok hc
    exact ⟨a, b, c⟩
  · rw [if_neg hc] at h
    exact absurd h hc
theorem interp_scaled {l : List S43} (hv : valid l = 0) (x : Int) : interp (pts (scaled l x)) = (interp (pts l)).map fun a => (a * x) % 251 := by
  have hv2 := valid_scaled hv x
  symm
  refine interp_uniq (good_pts hv2) (by rw [List.length_map, interp_len, pts_length, pts_length]; simp [scaled]) ?_ fun q hq => ?_
  · intro n hn
    obtain ⟨a, _, rfl⟩ := List.mem_map.1 hn
    exact num_mod _
  · obtain ⟨p, hp, rfl⟩ := List.mem_map.1 hq
    obtain ⟨r, hr, rfl⟩ := List.mem_map.1 hp
    have ha := interp_at (good_pts hv) (mem_pts hr)
    simp only at ha ⊢
    refine cst_inj (num_atI _ _) (num_mod _) ?_
    rw [atI_map _ x (fun a => ⟨num_mod _, by rw [cst_mod, cst_mul]; grind⟩), ha, cst_mod, cst_mul]; grind
end Go.Proofs.Ythlbjdiicmojfaa.P

/-! Part PureSecretReturns. -/
namespace Go.Proofs.Ythlbjdiicmojfaa.P
open Go.RowKit Go.Proofs.YthlbjdiicmojfaaW.PrintWords Go.Proofs.YthlbjdiicmojfaaW.PrintLast Go.Proofs.YthlbjdiicmojfaaW.PrintMore
set_option linter.unusedVariables false
theorem u64_of (a : Int) : IntKind.u64.wrap a = a % 18446744073709551616 := rfl
theorem pureSecretReturns (l0 : List Int) (_h0 : (∀ z ∈ l0, (Lit.int .i64 z).wf = true)) (l1 : Int) (_h1 : (Lit.int .i64 l1).wf = true) : ∃ k, verditerlaw08_secretReturns.f k l0 l1 = some true := by
  refine ⟨10000, ?_⟩
  rw [verditerlaw08_secretReturns.f]
  by_cases hl : (l0.length : Int) > 100
  · rw [if_pos hl, known_eq _ (by omega)]; rfl
  rw [if_neg hl, share_eq _ _ _ (by omega), Option.bind_some]
  by_cases hc : curveErr l0 = 0
  · obtain ⟨h1, h6, hnum⟩ := curveErr_iff.1 hc
    have e : shareR l0 12 = (shares l0 12, 0) := by
      unfold shareR
      rw [if_pos hc, if_pos (by omega)]; rfl
    have hsl := shares_length l0 12
    have hv := valid_shares l0 (show 12 ≤ 12 by omega)
    have hon : ∀ p ∈ shares l0 12, p.f1 = atI l0 p.f0 := fun p hp => (mem_shares hp).2.2
    rw [e]
    generalize shares l0 12 = l at *
    have hw1 : wrap64 (12 - (l0.length : Int)) = 12 - (l0.length : Int) := wrap_id (by omega) (by omega)
    have hw2 : wrap64 (12 - (l0.length : Int) + 1) = 13 - (l0.length : Int) := by rw [wrap_id (by omega) (by omega)]; omega
    have hw3 : IntKind.u64.wrap (13 - (l0.length : Int)) = 13 - (l0.length : Int) := by rw [u64_of]; omega
    obtain ⟨i, hi, hie⟩ : ∃ i : Nat, i + l0.length ≤ 12 ∧ wrap64 (Int.tmod (IntKind.u64.wrap l1) (13 - (l0.length : Int))) = (i : Int) := by
      have h0 : 0 ≤ IntKind.u64.wrap l1 := by rw [u64_of]; omega
      have ha := Int.emod_nonneg (IntKind.u64.wrap l1) (show (13 - (l0.length : Int)) ≠ 0 by omega)
      have hb := Int.emod_lt_of_pos (IntKind.u64.wrap l1) (show 0 < (13 - (l0.length : Int)) by omega)
      refine ⟨(IntKind.u64.wrap l1 % (13 - (l0.length : Int))).toNat, by omega, ?_⟩
      rw [Int.tmod_eq_emod_of_nonneg h0, wrap_id (by omega) (by omega)]
      omega
    have hw4 : wrap64 ((i : Int) + (l0.length : Int)) = ((i + l0.length : Nat) : Int) := by rw [wrap_id (by omega) (by omega)]; omega
    have hsub : ((l.take (i + l0.length)).drop i).Sublist l := (List.drop_sublist _ _).trans (List.take_sublist _ _)
    have hlen : ((l.take (i + l0.length)).drop i).length = l0.length := by rw [List.length_drop, List.length_take]; omega
    have hv2 := valid_sub hv hsub
    have hin : interp (pts ((l.take (i + l0.length)).drop i)) = l0 := interp_of_curve hv2 hnum hlen fun p hp => hon p (hsub.subset hp)
    have hcr : curveR ((l.take (i + l0.length)).drop i) = (l0, 0) := by rw [curveR_eq hv2 (by omega) (by omega), hin]
    have hsr : secretR ((l.take (i + l0.length)).drop i) = (l0.getD 0 0, 0) := by unfold secretR; rw [hcr, if_pos rfl]
    rw [hw1, hw2, hw3, if_pos rfl, if_pos (show ((l.length : Int)) = 12 by omega), if_neg (show ¬ (13 - (l0.length : Int) = 0) by omega), hie, hw4]
    rw [Option.bind_some, if_pos (by omega), if_pos (by omega), if_pos (show (((i + l0.length : Nat) : Int)) ≤ (l.length : Int) by omega), Option.bind_some, Int.toNat_natCast, Int.toNat_natCast, List.nil_append, hlen, if_pos (by simp; omega), curve_eq, hcr, Option.bind_some, Option.bind_some, Option.bind_some, List.nil_append, hlen, if_pos (by simp; omega), secret_eq, hsr, Option.bind_some, if_pos rfl, sameInts_self l0 (by omega) _ (by omega), Option.bind_some, if_pos rfl, if_pos rfl, if_pos (by omega), if_pos (show l0.getD 0 0 = rd l0 0 from rfl), known_eq _ (by omega)]
    rfl
  · have e : shareR l0 12 = ([], curveErr l0) := by unfold shareR; rw [if_neg hc]
    rw [e, if_neg hc, known_eq _ (by omega)]; rfl
end Go.Proofs.Ythlbjdiicmojfaa.P
