/- Parts of the proof of the law TopWash: walks of functions that it reaches, and plain facts about numbers, lists and curves; without a condition. -/
import Derived.Test.YtcelibdkicfgkaaTopWashM1
import Derived.Deep.WholeRow
import Derived.Laws.CopyOwn
/-! Part PF11. -/
-- Written for this claim by wip/print_more.py (a session's program that runs the kit's printer with hand-proved functions beside). Lean checks it.
namespace Go.Proofs.Ytcelibdkicfgkaa.P
open Go.RowKit Go.Proofs.YtcelibdkicfgkaaW.PrintWords Go.Proofs.YtcelibdkicfgkaaW.PrintLast Go.Proofs.YtcelibdkicfgkaaW.PrintMore
attribute [local go_sem] max2_int min2_int max_two min_two max_three min_three max_four min_four   -- for this text's walks alone
set_option linter.unusedVariables false
set_option linter.unusedSimpArgs false

/-! ### wash_Mass: function 11 -/
def wash_Mass.f (k : Nat) (l0 : List (S61)) : Option (Int × Int) := (wash_Validate.f k l0).bind fun t111 => (if t111 = 0 then ((wash_mass.f k l0).bind fun t112 => (some (t112, 0))) else (some (0, t111)))
theorem wash_Mass.mono : ∀ a0 k, LeO (wash_Mass.f k a0) (wash_Mass.f (k + 1) a0) := by
  intro a0 k
  unfold wash_Mass.f
  repeat' first
      | (with_reducible exact wash_Validate.mono _ _)
      | (with_reducible exact wash_mass.mono _ _)
      | (with_reducible exact LeO.refl _)
      | (with_reducible exact LeO.none _)
      | (with_reducible refine LeO.ite ?_ ?_)
      | (with_reducible refine LeO.bind ?_ (fun _ => ?_))
      | exact wash_Validate.mono _ _
      | exact wash_mass.mono _ _
      | exact LeO.none _
      | refine LeO.ite ?_ ?_
      | refine LeO.bind ?_ (fun _ => ?_)
set_option maxHeartbeats 8000000 in
set_option maxRecDepth 100000 in
theorem wash_Mass.calls (k : Nat) (A0 : Option Addr) (c0 : Nat) (l0 : List (S61)) (r1 : Int) (r2 : Int) (w : World) (hr0 : Kd.C k61 w A0 l0.length l0) (hc0 : l0.length ≤ c0) (h : wash_Mass.f k l0 = some (r1, r2)) :
    Calls Try.prog 11 #[.slice A0 l0.length c0] w fun e w' => e = .returned (.tuple #[.int .i64 r1, .int .i64 r2]) ∧ Below w.heap.size w w' := by
  have HR0 := Aside0.mk hr0
  have HC0 := Aside0.mk hc0
  clear hr0 hc0
  have HB := Aside0.mk (Below.refl w.heap.size w)
  have H : ((wash_Validate.f k l0).bind fun t111 => (if t111 = 0 then ((wash_mass.f k l0).bind fun t112 => (some (t112, 0))) else (some (0, t111)))) = some (r1, r2) := h
  clear h
  replace H := Option.bind_eq_some_iff.mp H
  obtain ⟨t111, A20, H⟩ := H
  replace H : (if t111 = 0 then ((wash_mass.f k l0).bind fun t112 => (some (t112, 0))) else (some (0, t111))) = some (r1, r2) := H
  have A2 := Aside0.mk A20
  clear A20
  by_cases c3 : t111 = 0
  · rw [if_pos c3] at H
    have c3b0 : (t111 == 0) = true := beq_iff_eq.mpr c3
    have c3b1 : (t111 != 0) = false := bne_eq_false_iff_eq.mpr c3
    clear c3
    replace H := Option.bind_eq_some_iff.mp H
    obtain ⟨t112, A40, H⟩ := H
    replace H : (some (t112, 0)) = some (r1, r2) := H
    have A4 := Aside0.mk A40
    clear A40
    simp only [Option.some.injEq, Prod.mk.injEq] at H
    obtain ⟨rfl, rfl⟩ := H
    go_enter Try.func11, Try.ntmps11
    go_wp2_with (first | ((with_reducible refine gate_callee (f := 12) rfl ?_); refine goesL_ (some 6) rfl rfl Try.func12 (by kernel_rfl) rfl #[.slice A0 l0.length c0] rfl (by (try simp only [List.map_toArray, List.map_cons, List.map_nil]); first | done | rfl | (simp only [List.length_drop, List.length_take]; rfl)) ?_; (with_reducible refine (wash_Validate.calls k _ _ l0 t111 _ ?side1 ?side2 A2.out).mono ?_); (case side1 => repeat (first | exact HR0.out | (with_reducible refine Kd.C_alloc ?_ _) | (with_reducible refine Kd.C_drewN ?_ _) | (with_reducible refine Kd.C_drew ?_))); (case side2 => exact HC0.out); rintro e w5 ⟨rfl, hb⟩; refine ⟨_, rfl, ?_⟩; have n0_ := Aside0.mk (below_step (by repeat (first | (with_reducible first | exact HB.out | apply below_alloc | apply pw_below_drewN | apply below_drew1) | exact HB.out)) hb); clear HB; have HB := n0_; clear n0_; (try clear hb); (try clear hb2); (try clear hk); (try clear hi)) | ((with_reducible refine gate_callee (f := 24) rfl ?_); refine goesL_ (some 11) rfl rfl Try.func24 (by kernel_rfl) rfl #[.slice A0 l0.length c0] rfl (by (try simp only [List.map_toArray, List.map_cons, List.map_nil]); first | done | rfl | (simp only [List.length_drop, List.length_take]; rfl)) ?_; (with_reducible refine (wash_mass.calls k _ _ l0 t112 _ ?side1 ?side2 A4.out).mono ?_); (case side1 => repeat (first | exact (Kd.C_below HR0.out HB.out) | (with_reducible refine Kd.C_alloc ?_ _) | (with_reducible refine Kd.C_drewN ?_ _) | (with_reducible refine Kd.C_drew ?_))); (case side2 => exact HC0.out); rintro e w6 ⟨rfl, hb⟩; refine ⟨_, rfl, ?_⟩; have n0_ := Aside0.mk (below_step (by repeat (first | (with_reducible first | exact HB.out | apply below_alloc | apply pw_below_drewN | apply below_drew1) | exact HB.out)) hb); clear HB; have HB := n0_; clear n0_; (try clear hb); (try clear hb2); (try clear hk); (try clear hi)))
    go_ret2
    exact ⟨by first | rfl | (simp [errW_none, errW_some] <;> rfl) | (simp [*, errW_none, errW_some] <;> rfl), by repeat (first | (with_reducible first | exact HB.out | apply below_alloc | apply pw_below_drewN | apply below_drew1) | exact HB.out)⟩
  · rw [if_neg c3] at H
    have c3b0 : (t111 == 0) = false := beq_eq_false_iff_ne.mpr c3
    have c3b1 : (t111 != 0) = true := bne_iff_ne.mpr c3
    simp only [Option.some.injEq, Prod.mk.injEq] at H
    obtain ⟨rfl, rfl⟩ := H
    go_enter Try.func11, Try.ntmps11
    go_wp2_with (first | ((with_reducible refine gate_callee (f := 12) rfl ?_); refine goesL_ (some 6) rfl rfl Try.func12 (by kernel_rfl) rfl #[.slice A0 l0.length c0] rfl (by (try simp only [List.map_toArray, List.map_cons, List.map_nil]); first | done | rfl | (simp only [List.length_drop, List.length_take]; rfl)) ?_; (with_reducible refine (wash_Validate.calls k _ _ l0 t111 _ ?side1 ?side2 A2.out).mono ?_); (case side1 => repeat (first | exact HR0.out | (with_reducible refine Kd.C_alloc ?_ _) | (with_reducible refine Kd.C_drewN ?_ _) | (with_reducible refine Kd.C_drew ?_))); (case side2 => exact HC0.out); rintro e w7 ⟨rfl, hb⟩; refine ⟨_, rfl, ?_⟩; have n0_ := Aside0.mk (below_step (by repeat (first | (with_reducible first | exact HB.out | apply below_alloc | apply pw_below_drewN | apply below_drew1) | exact HB.out)) hb); clear HB; have HB := n0_; clear n0_; (try clear hb); (try clear hb2); (try clear hk); (try clear hi)))
    go_ret2
    exact ⟨by first | rfl | (simp [errW_none, errW_some] <;> rfl) | (simp [*, errW_none, errW_some] <;> rfl), by repeat (first | (with_reducible first | exact HB.out | apply below_alloc | apply pw_below_drewN | apply below_drew1) | exact HB.out)⟩

end Go.Proofs.Ytcelibdkicfgkaa.P

/-! Part PF28. -/
namespace Go.Proofs.Ytcelibdkicfgkaa.P
open Go.RowKit Go.Proofs.YtcelibdkicfgkaaW.PrintWords Go.Proofs.YtcelibdkicfgkaaW.PrintLast Go.Proofs.YtcelibdkicfgkaaW.PrintMore
attribute [local go_sem] max2_int min2_int max_two min_two max_three min_three max_four min_four   -- for this text's walks alone
set_option linter.unusedVariables false
set_option linter.unusedSimpArgs false

/-! ### verditerref01_gcd: function 28 -/
def verditerref01_gcd.l0 : Nat → Int → Int → Option (Int)
  | 0, _, _ => none
  | k + 1, x0, x1 => if x1 = 0 then (some x0) else (verditerref01_gcd.l0 k x1 (Int.tmod x0 x1))
def verditerref01_gcd.f (k : Nat) (a0 : Int) (a1 : Int) : Option (Int) := verditerref01_gcd.l0 k a0 a1
theorem verditerref01_gcd.mono_l : ∀ k, (∀ y0 y1, LeO (verditerref01_gcd.l0 k y0 y1) (verditerref01_gcd.l0 (k + 1) y0 y1))
  | 0 => fun _ _ r h => by simp [verditerref01_gcd.l0] at h
  | k + 1 => by
    have ih0 := verditerref01_gcd.mono_l k
    · intro y0 y1
      unfold verditerref01_gcd.l0
      repeat' first
      | (with_reducible exact ih0 _ _)
      | (with_reducible exact LeO.refl _)
      | (with_reducible exact LeO.none _)
      | (with_reducible refine LeO.ite ?_ ?_)
      | (with_reducible refine LeO.bind ?_ (fun _ => ?_))
      | exact ih0 _ _
      | exact LeO.none _
      | refine LeO.ite ?_ ?_
      | refine LeO.bind ?_ (fun _ => ?_)
theorem verditerref01_gcd.mono : ∀ a0 a1 k, LeO (verditerref01_gcd.f k a0 a1) (verditerref01_gcd.f (k + 1) a0 a1) := by
  intro a0 a1 k
  have ih0 := verditerref01_gcd.mono_l k
  unfold verditerref01_gcd.f
  repeat' first
      | (with_reducible exact ih0 _ _)
      | (with_reducible exact LeO.refl _)
      | (with_reducible exact LeO.none _)
      | (with_reducible refine LeO.ite ?_ ?_)
      | (with_reducible refine LeO.bind ?_ (fun _ => ?_))
      | exact ih0 _ _
      | exact LeO.none _
      | refine LeO.ite ?_ ?_
      | refine LeO.bind ?_ (fun _ => ?_)
set_option maxHeartbeats 8000000 in
set_option maxRecDepth 100000 in
theorem verditerref01_gcd.calls (k : Nat) (a0 : Int) (a1 : Int) (r : Int) (w : World) (h : verditerref01_gcd.f k a0 a1 = some r) :
    Calls Try.prog 28 #[.int .i64 a0, .int .i64 a1] w fun e w' => e = .returned (.int .i64 r) ∧ Drawn0 w w' := by
  have H : (verditerref01_gcd.l0 k a0 a1) = some r := h
  clear h
  have H' := Aside0.mk H
  clear H
  go_enter Try.func28, Try.ntmps28
  go_wp2
  go_loopg [0, 1] k (fun kq v0 v1 w' => ∃ (x0_1 : Int) (x1_1 : Int), v0 = .int .i64 x0_1 ∧ v1 = .int .i64 x1_1 ∧ Aside0 (verditerref01_gcd.l0 kq x0_1 x1_1 = some r) ∧ Aside0 (kq ≤ k) ∧ Drawn0 w w')
  case atStart => exact ⟨(a0), (a1), (by first | rfl | (simp; done) | (simp [*]; done)), (by first | rfl | (simp; done) | (simp [*]; done)), H', ⟨Nat.le_refl _⟩, by repeat (first | exact Drawn0.refl _ | apply Drawn0.step)⟩
  case round =>
    clear H'
    try clear c2
    try clear p2
    obtain ⟨x0_1, x1_1, rfl, rfl, HA, HK1, ⟨m1, rfl⟩⟩ := hrel
    cases gk with
    | zero => exact absurd HA.out (by simp [verditerref01_gcd.l0])
    | succ k1 =>
      have H := HA.out
      clear HA
      simp only [verditerref01_gcd.l0] at H
      by_cases c3 : x1_1 = 0
      · rw [if_pos c3] at H
        have c3b0 : (x1_1 == 0) = true := beq_iff_eq.mpr c3
        have c3b1 : (x1_1 != 0) = false := bne_eq_false_iff_eq.mpr c3
        clear c3
        obtain rfl := Option.some.inj H
        go_wp2
        go_ret
        exact ⟨by first | rfl | (simp; done) | (simp [*]; done), by repeat (first | exact Drawn0.refl _ | apply Drawn0.step)⟩
      · rw [if_neg c3] at H
        have c3b0 : (x1_1 == 0) = false := beq_eq_false_iff_ne.mpr c3
        have c3b1 : (x1_1 != 0) = true := bne_iff_ne.mpr c3
        have H' := Aside0.mk H
        clear H
        go_wp2
        go_roundg k1
        case measure => have := HK1.out; omega
        case rel => exact ⟨(x1_1), (Int.tmod x0_1 x1_1), (by first | rfl | (simp; done) | (simp [*]; done)), (by first | rfl | (simp; done) | (simp [*]; done)), H', ⟨by have := HK1.out; omega⟩, by repeat (first | exact Drawn0.refl _ | apply Drawn0.step)⟩

end Go.Proofs.Ytcelibdkicfgkaa.P

/-! Part PF16. -/
namespace Go.Proofs.Ytcelibdkicfgkaa.P
open Go.RowKit Go.Proofs.YtcelibdkicfgkaaW.PrintWords Go.Proofs.YtcelibdkicfgkaaW.PrintLast Go.Proofs.YtcelibdkicfgkaaW.PrintMore
attribute [local go_sem] max2_int min2_int max_two min_two max_three min_three max_four min_four   -- for this text's walks alone
set_option linter.unusedVariables false
set_option linter.unusedSimpArgs false

/-! ### verditerref01_Ratio: function 16 -/
def verditerref01_Ratio.f (k : Nat) (a0 : Int) (a1 : Int) : Option (Int × Int) := (verditerref01_gcd.f k (mx a0 (wrap64 (-a0))) a1).bind fun t136 => (if t136 = 0 then (none) else (some (wrap64 (Int.tdiv a0 t136), wrap64 (Int.tdiv a1 t136))))
theorem verditerref01_Ratio.mono : ∀ a0 a1 k, LeO (verditerref01_Ratio.f k a0 a1) (verditerref01_Ratio.f (k + 1) a0 a1) := by
  intro a0 a1 k
  unfold verditerref01_Ratio.f
  repeat' first
      | (with_reducible exact verditerref01_gcd.mono _ _ _)
      | (with_reducible exact LeO.refl _)
      | (with_reducible exact LeO.none _)
      | (with_reducible refine LeO.ite ?_ ?_)
      | (with_reducible refine LeO.bind ?_ (fun _ => ?_))
      | exact verditerref01_gcd.mono _ _ _
      | exact LeO.none _
      | refine LeO.ite ?_ ?_
      | refine LeO.bind ?_ (fun _ => ?_)
def verditerref01_Ratio.T2 : Bool × List (List Nat × List Nat) := (true, [([], []), ([], []), ([0, 1], [0, 1]), ([], []), ([], []), ([3, 4], [3, 4]), ([2, 5], [2, 5]), ([6, 0, 1, 2, 3, 4, 5, 6], [6])])
def verditerref01_Ratio.B2 : List Nat := [0, 0, 3, 0, 0, 24, 63, 127]
theorem verditerref01_Ratio.tab2 : rtab .any (opsOf Try.f16 2) = verditerref01_Ratio.T2 := by kernel_rfl
theorem verditerref01_Ratio.bits2 : waitsOk verditerref01_Ratio.T2.2 verditerref01_Ratio.B2 = true := by kernel_rfl
set_option maxHeartbeats 8000000 in
set_option maxRecDepth 100000 in
theorem verditerref01_Ratio.calls (k : Nat) (a0 : Int) (a1 : Int) (r1 : Int) (r2 : Int) (w : World) (h : verditerref01_Ratio.f k a0 a1 = some (r1, r2)) :
    Calls Try.prog 16 #[.int .i64 a0, .int .i64 a1] w fun e w' => e = .returned (.agg #[.int .i64 r1, .int .i64 r2]) ∧ Below w.heap.size w w' := by
  have hu34 := Try.underlying34
  have HB := Aside0.mk (Below.refl w.heap.size w)
  have H : ((verditerref01_gcd.f k (mx a0 (wrap64 (-a0))) a1).bind fun t136 => (if t136 = 0 then (none) else (some (wrap64 (Int.tdiv a0 t136), wrap64 (Int.tdiv a1 t136))))) = some (r1, r2) := h
  clear h
  obtain ⟨ji3, hji3⟩ : ∃ j_ : Int, (mx a0 (wrap64 (-a0))) = j_ := ⟨_, rfl⟩
  replace H : ((verditerref01_gcd.f k (ji3) a1).bind fun t136 => (if t136 = 0 then (none) else (some (wrap64 (Int.tdiv a0 t136), wrap64 (Int.tdiv a1 t136))))) = some (r1, r2) := by first | (rw [hji3] at H; exact H) | (simp only [hji3] at H ⊢; exact H)
  have hji3_ : (if a0 < (wrap64 (-a0)) then (wrap64 (-a0)) else a0) = ji3 := hji3
  replace H := Option.bind_eq_some_iff.mp H
  obtain ⟨t136, A40, H⟩ := H
  replace H : (if t136 = 0 then (none) else (some (wrap64 (Int.tdiv a0 t136), wrap64 (Int.tdiv a1 t136)))) = some (r1, r2) := H
  have A4 := Aside0.mk A40
  clear A40
  by_cases c5 : t136 = 0
  · rw [if_pos c5] at H
    exact absurd H (by simp)
  · rw [if_neg c5] at H
    have c5b0 : (t136 == 0) = false := beq_eq_false_iff_ne.mpr c5
    have c5b1 : (t136 != 0) = true := bne_iff_ne.mpr c5
    simp only [Option.some.injEq, Prod.mk.injEq] at H
    obtain ⟨rfl, rfl⟩ := H
    go_enter Try.func16, Try.ntmps16
    try go_wp2_with (first | ((with_reducible refine gate_dst (N := 4) rfl ?_); refine box_event ?hg (N := 4) ?hd (cs := #[.int .i64 0, .int .i64 0]) (t := 34) ?hr ?_; (case hd => rfl); (case hg => rfl); (case hr => first | (go_simp; done) | (go_simp; rfl)); intro gb135 hg w6 hbox hb; have n0_ := Aside0.mk (below_step (by repeat (first | (with_reducible first | exact HB.out | apply below_alloc | apply pw_below_drewN | apply below_drew1) | exact HB.out)) hb); have n1_ := Aside0.mk (hbox); have n2_ := Aside0.mk ((by rw [hg]; exact (below_size (by repeat (first | (with_reducible first | exact HB.out | apply below_alloc | apply pw_below_drewN | apply below_drew1) | exact HB.out))) : w.heap.size ≤ gb135)); have n3_ := Aside0.mk ((by rw [hg]; exact (below_size (by repeat (first | (with_reducible first | exact HB.out | apply below_alloc | apply pw_below_drewN | apply below_drew1) | exact HB.out))) : w.heap.size ≤ gb135)); clear HB; have HB := n0_; have BK135 := n1_; have GW135 := n2_; have GE135 := n3_; clear n0_ n1_ n2_ n3_; clear hb hbox hg) | ((with_reducible refine gate_callee (f := 28) rfl ?_); refine goesL_ (some 11) rfl rfl Try.func28 (by kernel_rfl) rfl #[.int .i64 ji3, .int .i64 a1] rfl (by (try simp only [List.map_toArray, List.map_cons, List.map_nil]); first | done | (simp only [hji3]; rfl) | rfl | (simp only [List.length_drop, List.length_take]; rfl)) ?_; (with_reducible refine (verditerref01_gcd.calls k ji3 a1 t136 _ A4.out).mono ?_); rintro e w' ⟨rfl, ⟨nd, rfl⟩⟩; refine ⟨_, rfl, ?_⟩; (try (rw [drewN_self w6]; generalize hq_ : World.drewN w6 _ = w6; have n0_ : Aside0 (w6.heap[gb135]? = some (.cells #[.int .i64 0, .int .i64 0] 34 (0, 0))) := ⟨by rw [← hq_]; exact (by (with_reducible repeat (first | refine blk_drewN ?_ _ | refine blk_drew ?_ | refine blk_alloc ?_ _)); exact BK135.out)⟩; have n1_ : Aside0 (Below w.heap.size w w6) := ⟨by rw [← hq_]; exact (by repeat (first | (with_reducible first | exact HB.out | apply below_alloc | apply pw_below_drewN | apply below_drew1 | refine below_set ?_ GE135.out) | exact HB.out))⟩; clear BK135 HB hq_; have BK135 := n0_; have HB := n1_; clear n0_ n1_))))
    have n0_ := Aside0.mk (blk_drew BK135.out)
    have n1_ := Aside0.mk (below_drew1 HB.out)
    clear BK135
    clear HB
    have BK135 := n0_
    have HB := n1_
    clear n0_ n1_
    refine start_ (n := 8) (S := fun w' => True) (ds := []) #[false, false, false, false, false, false, false, false] (by kernel_rfl) rfl rfl trivial (fun hHeld => ?_); refine with_tabW verditerref01_Ratio.tab2 verditerref01_Ratio.bits2 (fun HT_ HW_ => ?_)
    generalize w6.drew = w7 at BK135 HB hHeld ⊢
    refine pure_ (i := 0) (N := some 12) (v := ?_) (a' := ?_) #[true, false, false, false, false, false, false, false] rfl rfl (any_of HT_.out (by kernel_rfl)) (fun _ _ _ h => h) (Or.inl ⟨by rfl, ?_⟩) ?_ ?_
    rotate_left
    · intro w'
      go_simp
      with_reducible rfl
    rotate_left
    · simp only [Act.put, List.setIfInBounds_toArray, List.set_cons_zero, List.set_cons_succ, i64_w, i32_w]
      rfl
    refine pure_ (i := 1) (N := some 13) (v := ?_) (a' := ?_) #[true, true, false, false, false, false, false, false] rfl rfl (any_of HT_.out (by kernel_rfl)) (fun _ _ _ h => h) (Or.inl ⟨by rfl, ?_⟩) ?_ ?_
    rotate_left
    · intro w'
      go_simp
      with_reducible rfl
    rotate_left
    · simp only [Act.put, List.setIfInBounds_toArray, List.set_cons_zero, List.set_cons_succ, i64_w, i32_w]
      rfl
    refine pure_ (i := 2) (N := some 14) (v := ?_) (a' := ?_) #[true, true, true, false, false, false, false, false] rfl rfl (any_of HT_.out (by kernel_rfl)) (fun _ _ _ h => h) (Or.inl ⟨by rfl, ?_⟩) ?_ ?_
    rotate_left
    · intro w'
      go_simp
      with_reducible rfl
    rotate_left
    · simp only [Act.put, List.setIfInBounds_toArray, List.set_cons_zero, List.set_cons_succ, i64_w, i32_w]
      rfl
    refine pure_ (i := 3) (N := some 15) (v := ?_) (a' := ?_) #[true, true, true, true, false, false, false, false] rfl rfl (any_of HT_.out (by kernel_rfl)) (fun _ _ _ h => h) (Or.inl ⟨by rfl, ?_⟩) ?_ ?_
    rotate_left
    · intro w'
      go_simp
      with_reducible rfl
    rotate_left
    · simp only [Act.put, List.setIfInBounds_toArray, List.set_cons_zero, List.set_cons_succ, i64_w, i32_w]
      rfl
    refine pure_ (i := 4) (N := some 16) (v := ?_) (a' := ?_) #[true, true, true, true, true, false, false, false] rfl rfl (any_of HT_.out (by kernel_rfl)) (fun _ _ _ h => h) (Or.inl ⟨by rfl, ?_⟩) ?_ ?_
    rotate_left
    · intro w'
      go_simp
      with_reducible rfl
    rotate_left
    · simp only [Act.put, List.setIfInBounds_toArray, List.set_cons_zero, List.set_cons_succ, i64_w, i32_w]
      rfl
    refine pure_ (i := 5) (N := some 17) (v := ?_) (a' := ?_) #[true, true, true, true, true, true, false, false] rfl rfl (any_of HT_.out (by kernel_rfl)) (fun _ _ _ h => h) (Or.inl ⟨by rfl, ?_⟩) ?_ ?_
    rotate_left
    · intro w'
      go_simp
      with_reducible rfl
    rotate_left
    · simp only [Act.put, List.setIfInBounds_toArray, List.set_cons_zero, List.set_cons_succ, i64_w, i32_w]
      rfl
    refine pure_ (i := 6) (N := some 18) (v := ?_) (a' := ?_) #[true, true, true, true, true, true, true, false] rfl rfl (any_of HT_.out (by kernel_rfl)) (fun _ _ _ h => h) (Or.inl ⟨by rfl, ?_⟩) ?_ ?_
    rotate_left
    · intro w'
      go_simp
      with_reducible rfl
    rotate_left
    · simp only [Act.put, List.setIfInBounds_toArray, List.set_cons_zero, List.set_cons_succ, i64_w, i32_w]
      rfl
    refine one_ (i := 7) (N := none) #[true, true, true, true, true, true, true, true] rfl rfl (one_of HT_.out (by kernel_rfl)) (by decide) (fun K hK => ?_)
    have hs8 : w7.cell? ⟨gb135, 0, none⟩ = some (.int .i64 0) := (blk_cell BK135.out 0).trans rfl
    have hfs8 := blk_frozen BK135.out 0
    have hs9 : w7.cell? ⟨gb135, 1, none⟩ = some (.int .i64 0) := (blk_cell BK135.out 1).trans rfl
    have hfs9 := blk_frozen BK135.out 1
    refine skip_ (w1 := ?_) (by rfl) rfl ?_ ?_
    rotate_left
    · go_simp
      rfl
    refine hK.out _ _ trivial (fun hHeld => ?_)
    clear hK K
    refine done_ (done_of HT_.out (by kernel_rfl)) ?_
    try go_wp2
    refine bodyPost_ret (results_cell_row rfl _ _ gb135 34 #[.int .i64 (wrap64 (Int.tdiv a0 t136)), .int .i64 (wrap64 (Int.tdiv a1 t136))] (0, 0) _ rfl (by (with_reducible repeat (first | refine blk_drewN ?_ _ | refine blk_drew ?_ | refine blk_alloc ?_ _)); refine blk_put (cs := #[.int .i64 (wrap64 (Int.tdiv a0 t136)), .int .i64 0]) ?_ 1 _ rfl; (with_reducible repeat (first | refine blk_drewN ?_ _ | refine blk_drew ?_ | refine blk_alloc ?_ _)); refine blk_put (cs := #[.int .i64 0, .int .i64 0]) ?_ 0 _ rfl; (with_reducible repeat (first | refine blk_drewN ?_ _ | refine blk_drew ?_ | refine blk_alloc ?_ _)); exact BK135.out) Try.underlying34 rfl (by kernel_rfl)) rfl ?_
    exact ⟨by first | rfl | (simp [errW_none, errW_some] <;> rfl) | (simp only [← hji3]; first | rfl | (simp [errW_none, errW_some] <;> rfl)) | (simp [*, errW_none, errW_some] <;> rfl), by repeat (first | (with_reducible first | exact HB.out | apply below_alloc | apply pw_below_drewN | apply below_drew1 | refine below_set ?_ GE135.out) | exact HB.out)⟩

end Go.Proofs.Ytcelibdkicfgkaa.P

/-! Part PF15. -/
namespace Go.Proofs.Ytcelibdkicfgkaa.P
open Go.RowKit Go.Proofs.YtcelibdkicfgkaaW.PrintWords Go.Proofs.YtcelibdkicfgkaaW.PrintLast Go.Proofs.YtcelibdkicfgkaaW.PrintMore
attribute [local go_sem] max2_int min2_int max_two min_two max_three min_three max_four min_four   -- for this text's walks alone
set_option linter.unusedVariables false
set_option linter.unusedSimpArgs false

/-! ### verditerref01_Add: function 15 -/
def verditerref01_Add.f (k : Nat) (a0_0 : Int) (a0_1 : Int) (a1_0 : Int) (a1_1 : Int) : Option (Int × Int) := (verditerref01_Ratio.f k (wrap64 ((wrap64 (a0_0 * a1_1)) + (wrap64 (a1_0 * a0_1)))) (wrap64 (a0_1 * a1_1))).bind fun bt140 => (some (bt140.1, bt140.2))
theorem verditerref01_Add.mono : ∀ a0 a1 a2 a3 k, LeO (verditerref01_Add.f k a0 a1 a2 a3) (verditerref01_Add.f (k + 1) a0 a1 a2 a3) := by
  intro a0 a1 a2 a3 k
  unfold verditerref01_Add.f
  repeat' first
      | (with_reducible exact verditerref01_Ratio.mono _ _ _)
      | (with_reducible exact LeO.refl _)
      | (with_reducible exact LeO.none _)
      | (with_reducible refine LeO.ite ?_ ?_)
      | (with_reducible refine LeO.bind ?_ (fun _ => ?_))
      | exact verditerref01_Ratio.mono _ _ _
      | exact LeO.none _
      | refine LeO.ite ?_ ?_
      | refine LeO.bind ?_ (fun _ => ?_)
set_option maxHeartbeats 8000000 in
set_option maxRecDepth 100000 in
theorem verditerref01_Add.calls (k : Nat) (a0_0 : Int) (a0_1 : Int) (a1_0 : Int) (a1_1 : Int) (r1 : Int) (r2 : Int) (w : World) (h : verditerref01_Add.f k a0_0 a0_1 a1_0 a1_1 = some (r1, r2)) :
    Calls Try.prog 15 #[.agg #[.int .i64 a0_0, .int .i64 a0_1], .agg #[.int .i64 a1_0, .int .i64 a1_1]] w fun e w' => e = .returned (.agg #[.int .i64 r1, .int .i64 r2]) ∧ Below w.heap.size w w' := by
  have hu34 := Try.underlying34
  have HB := Aside0.mk (Below.refl w.heap.size w)
  have H : ((verditerref01_Ratio.f k (wrap64 ((wrap64 (a0_0 * a1_1)) + (wrap64 (a1_0 * a0_1)))) (wrap64 (a0_1 * a1_1))).bind fun bt140 => (some (bt140.1, bt140.2))) = some (r1, r2) := h
  clear h
  replace H := Option.bind_eq_some_iff.mp H
  obtain ⟨⟨t140, t141⟩, A30, H⟩ := H
  replace H : (some (t140, t141)) = some (r1, r2) := H
  have A3 := Aside0.mk A30
  clear A30
  simp only [Option.some.injEq, Prod.mk.injEq] at H
  obtain ⟨rfl, rfl⟩ := H
  go_enter Try.func15, Try.ntmps15
  go_wp2_with (first | ((with_reducible refine gate_dst (N := 2) rfl ?_); refine box_event ?hg (N := 2) ?hd (cs := #[.int .i64 a0_0, .int .i64 a0_1]) (t := 34) ?hr ?_; (case hd => rfl); (case hg => rfl); (case hr => first | (go_simp; done) | (go_simp; rfl)); intro gb137 hg w4 hbox hb; have n0_ := Aside0.mk (below_step (by repeat (first | (with_reducible first | exact HB.out | apply below_alloc | apply pw_below_drewN | apply below_drew1) | exact HB.out)) hb); have n1_ := Aside0.mk (hbox); have n2_ := Aside0.mk ((by rw [hg]; exact (below_size (by repeat (first | (with_reducible first | exact HB.out | apply below_alloc | apply pw_below_drewN | apply below_drew1) | exact HB.out))) : w.heap.size ≤ gb137)); have n3_ := Aside0.mk ((by rw [hg]; exact (below_size (by repeat (first | (with_reducible first | exact HB.out | apply below_alloc | apply pw_below_drewN | apply below_drew1) | exact HB.out))) : w.heap.size ≤ gb137)); clear HB; have HB := n0_; have BK137 := n1_; have GW137 := n2_; have GE137 := n3_; clear n0_ n1_ n2_ n3_; clear hb hbox hg) | ((with_reducible refine gate_dst (N := 3) rfl ?_); refine box_event ?hg (N := 3) ?hd (cs := #[.int .i64 a1_0, .int .i64 a1_1]) (t := 34) ?hr ?_; (case hd => rfl); (case hg => rfl); (case hr => first | (go_simp; done) | (go_simp; rfl)); intro gb138 hg w5 hbox hb; have n0_ := Aside0.mk (blk_below (g := gb137) (o := .cells #[.int .i64 a0_0, .int .i64 a0_1] 34 (0, 0)) (by (with_reducible repeat (first | refine blk_drewN ?_ _ | refine blk_drew ?_ | refine blk_alloc ?_ _)); exact BK137.out) hb); have n1_ := Aside0.mk (below_step (by repeat (first | (with_reducible first | exact HB.out | apply below_alloc | apply pw_below_drewN | apply below_drew1 | refine below_set ?_ GE137.out) | exact HB.out)) hb); have n2_ := Aside0.mk (hbox); have n3_ := Aside0.mk ((by rw [hg]; exact (below_size (by repeat (first | (with_reducible first | exact HB.out | apply below_alloc | apply pw_below_drewN | apply below_drew1 | refine below_set ?_ GE137.out) | exact HB.out))) : w.heap.size ≤ gb138)); have n4_ := Aside0.mk ((by rw [hg]; exact (below_size (by repeat (first | (with_reducible first | exact HB.out | apply below_alloc | apply pw_below_drewN | apply below_drew1 | refine below_set ?_ GE137.out) | exact HB.out))) : w.heap.size ≤ gb138)); have n5_ := Aside0.mk ((by rw [hg]; exact Nat.ne_of_lt (blk_lt (g := gb137) (o := .cells #[.int .i64 a0_0, .int .i64 a0_1] 34 (0, 0)) (by (with_reducible repeat (first | refine blk_drewN ?_ _ | refine blk_drew ?_ | refine blk_alloc ?_ _)); exact BK137.out)) : gb137 ≠ gb138)); have n6_ := Aside0.mk ((by rw [hg]; exact Nat.ne_of_gt (blk_lt (g := gb137) (o := .cells #[.int .i64 a0_0, .int .i64 a0_1] 34 (0, 0)) (by (with_reducible repeat (first | refine blk_drewN ?_ _ | refine blk_drew ?_ | refine blk_alloc ?_ _)); exact BK137.out)) : gb138 ≠ gb137)); clear BK137; clear HB; have BK137 := n0_; have HB := n1_; have BK138 := n2_; have GW138 := n3_; have GE138 := n4_; have NB137_138 := n5_; have NB138_137 := n6_; clear n0_ n1_ n2_ n3_ n4_ n5_ n6_; clear hb hbox hg) | ((with_reducible refine gate_dst (N := 4) rfl ?_); refine box_event ?hg (N := 4) ?hd (cs := #[.int .i64 0, .int .i64 0]) (t := 34) ?hr ?_; (case hd => rfl); (case hg => rfl); (case hr => first | (go_simp; done) | (go_simp; rfl)); intro gb139 hg w6 hbox hb; have n0_ := Aside0.mk (blk_below (g := gb137) (o := .cells #[.int .i64 a0_0, .int .i64 a0_1] 34 (0, 0)) (by (with_reducible repeat (first | refine blk_drewN ?_ _ | refine blk_drew ?_ | refine blk_alloc ?_ _)); exact BK137.out) hb); have n1_ := Aside0.mk (blk_below (g := gb138) (o := .cells #[.int .i64 a1_0, .int .i64 a1_1] 34 (0, 0)) (by (with_reducible repeat (first | refine blk_drewN ?_ _ | refine blk_drew ?_ | refine blk_alloc ?_ _)); exact BK138.out) hb); have n2_ := Aside0.mk (below_step (by repeat (first | (with_reducible first | exact HB.out | apply below_alloc | apply pw_below_drewN | apply below_drew1 | refine below_set ?_ GE137.out | refine below_set ?_ GE138.out) | exact HB.out)) hb); have n3_ := Aside0.mk (hbox); have n4_ := Aside0.mk ((by rw [hg]; exact (below_size (by repeat (first | (with_reducible first | exact HB.out | apply below_alloc | apply pw_below_drewN | apply below_drew1 | refine below_set ?_ GE137.out | refine below_set ?_ GE138.out) | exact HB.out))) : w.heap.size ≤ gb139)); have n5_ := Aside0.mk ((by rw [hg]; exact (below_size (by repeat (first | (with_reducible first | exact HB.out | apply below_alloc | apply pw_below_drewN | apply below_drew1 | refine below_set ?_ GE137.out | refine below_set ?_ GE138.out) | exact HB.out))) : w.heap.size ≤ gb139)); have n6_ := Aside0.mk ((by rw [hg]; exact Nat.ne_of_lt (blk_lt (g := gb137) (o := .cells #[.int .i64 a0_0, .int .i64 a0_1] 34 (0, 0)) (by (with_reducible repeat (first | refine blk_drewN ?_ _ | refine blk_drew ?_ | refine blk_alloc ?_ _)); exact BK137.out)) : gb137 ≠ gb139)); have n7_ := Aside0.mk ((by rw [hg]; exact Nat.ne_of_gt (blk_lt (g := gb137) (o := .cells #[.int .i64 a0_0, .int .i64 a0_1] 34 (0, 0)) (by (with_reducible repeat (first | refine blk_drewN ?_ _ | refine blk_drew ?_ | refine blk_alloc ?_ _)); exact BK137.out)) : gb139 ≠ gb137)); have n8_ := Aside0.mk ((by rw [hg]; exact Nat.ne_of_lt (blk_lt (g := gb138) (o := .cells #[.int .i64 a1_0, .int .i64 a1_1] 34 (0, 0)) (by (with_reducible repeat (first | refine blk_drewN ?_ _ | refine blk_drew ?_ | refine blk_alloc ?_ _)); exact BK138.out)) : gb138 ≠ gb139)); have n9_ := Aside0.mk ((by rw [hg]; exact Nat.ne_of_gt (blk_lt (g := gb138) (o := .cells #[.int .i64 a1_0, .int .i64 a1_1] 34 (0, 0)) (by (with_reducible repeat (first | refine blk_drewN ?_ _ | refine blk_drew ?_ | refine blk_alloc ?_ _)); exact BK138.out)) : gb139 ≠ gb138)); clear BK137; clear BK138; clear HB; have BK137 := n0_; have BK138 := n1_; have HB := n2_; have BK139 := n3_; have GW139 := n4_; have GE139 := n5_; have NB137_139 := n6_; have NB139_137 := n7_; have NB138_139 := n8_; have NB139_138 := n9_; clear n0_ n1_ n2_ n3_ n4_ n5_ n6_ n7_ n8_ n9_; clear hb hbox hg; have hnb7 := NB137_138.out; have hnc7 := NB138_137.out; have hnb8 := NB137_139.out; have hnc8 := NB139_137.out; have hcz9_0 : w6.cell? ⟨gb137, 0, none⟩ = some (.int .i64 a0_0) := (blk_cell BK137.out 0).trans rfl; have hcz9_1 : w6.cell? ⟨gb137, 1, none⟩ = some (.int .i64 a0_1) := (blk_cell BK137.out 1).trans rfl; have hfz9_0 := blk_frozen BK137.out 0; have hfz9_1 := blk_frozen BK137.out 1; have hnb10 := NB138_139.out; have hnc10 := NB139_138.out; have hcz11_0 : w6.cell? ⟨gb138, 0, none⟩ = some (.int .i64 a1_0) := (blk_cell BK138.out 0).trans rfl; have hcz11_1 : w6.cell? ⟨gb138, 1, none⟩ = some (.int .i64 a1_1) := (blk_cell BK138.out 1).trans rfl; have hfz11_0 := blk_frozen BK138.out 0; have hfz11_1 := blk_frozen BK138.out 1) | ((with_reducible refine gate_callee (f := 16) rfl ?_); refine goesL_ (some 21) rfl rfl Try.func16 (by kernel_rfl) rfl #[.int .i64 (wrap64 ((wrap64 (a0_0 * a1_1)) + (wrap64 (a1_0 * a0_1)))), .int .i64 (wrap64 (a0_1 * a1_1))] rfl (by (try simp only [List.map_toArray, List.map_cons, List.map_nil]); first | done | rfl | (simp only [List.length_drop, List.length_take]; rfl)) ?_; (with_reducible refine (verditerref01_Ratio.calls k (wrap64 ((wrap64 (a0_0 * a1_1)) + (wrap64 (a1_0 * a0_1)))) (wrap64 (a0_1 * a1_1)) t140 t141 _ A3.out).mono ?_); rintro e w12 ⟨rfl, hb⟩; refine ⟨_, rfl, ?_⟩; have n0_ := Aside0.mk (blk_below (g := gb137) (o := .cells #[.int .i64 a0_0, .int .i64 a0_1] 34 (0, 0)) (by (with_reducible repeat (first | refine blk_drewN ?_ _ | refine blk_drew ?_ | refine blk_alloc ?_ _)); exact BK137.out) hb); have n1_ := Aside0.mk (blk_below (g := gb138) (o := .cells #[.int .i64 a1_0, .int .i64 a1_1] 34 (0, 0)) (by (with_reducible repeat (first | refine blk_drewN ?_ _ | refine blk_drew ?_ | refine blk_alloc ?_ _)); exact BK138.out) hb); have n2_ := Aside0.mk (blk_below (g := gb139) (o := .cells #[.int .i64 0, .int .i64 0] 34 (0, 0)) (by (with_reducible repeat (first | refine blk_drewN ?_ _ | refine blk_drew ?_ | refine blk_alloc ?_ _)); exact BK139.out) hb); have n3_ := Aside0.mk (below_step (by repeat (first | (with_reducible first | exact HB.out | apply below_alloc | apply pw_below_drewN | apply below_drew1 | refine below_set ?_ GE137.out | refine below_set ?_ GE138.out | refine below_set ?_ GE139.out) | exact HB.out)) hb); clear BK137; clear BK138; clear BK139; clear HB; have BK137 := n0_; have BK138 := n1_; have BK139 := n2_; have HB := n3_; clear n0_ n1_ n2_ n3_; (try clear hb); (try clear hb2); (try clear hk); (try clear hi); have hcz13_0 : w12.cell? ⟨gb139, 0, none⟩ = some (.int .i64 0) := (blk_cell BK139.out 0).trans rfl; have hcz13_1 : w12.cell? ⟨gb139, 1, none⟩ = some (.int .i64 0) := (blk_cell BK139.out 1).trans rfl; have hfz13_0 := blk_frozen BK139.out 0; have hfz13_1 := blk_frozen BK139.out 1))
  refine bodyPost_ret (results_cell_row rfl _ _ gb139 34 #[.int .i64 t140, .int .i64 t141] (0, 0) _ rfl (by (with_reducible repeat (first | refine blk_drewN ?_ _ | refine blk_drew ?_ | refine blk_alloc ?_ _)); refine blk_put (cs := #[.int .i64 t140, .int .i64 0]) ?_ 1 _ rfl; (with_reducible repeat (first | refine blk_drewN ?_ _ | refine blk_drew ?_ | refine blk_alloc ?_ _)); refine blk_put (cs := #[.int .i64 0, .int .i64 0]) ?_ 0 _ rfl; (with_reducible repeat (first | refine blk_drewN ?_ _ | refine blk_drew ?_ | refine blk_alloc ?_ _)); exact BK139.out) Try.underlying34 rfl (by kernel_rfl)) rfl ?_
  exact ⟨by first | rfl | (simp [errW_none, errW_some] <;> rfl) | (simp [*, errW_none, errW_some] <;> rfl), by repeat (first | (with_reducible first | exact HB.out | apply below_alloc | apply pw_below_drewN | apply below_drew1 | refine below_set ?_ GE137.out | refine below_set ?_ GE138.out | refine below_set ?_ GE139.out) | exact HB.out)⟩

end Go.Proofs.Ytcelibdkicfgkaa.P

/-! Part PF29. -/
namespace Go.Proofs.Ytcelibdkicfgkaa.P
open Go.RowKit Go.Proofs.YtcelibdkicfgkaaW.PrintWords Go.Proofs.YtcelibdkicfgkaaW.PrintLast Go.Proofs.YtcelibdkicfgkaaW.PrintMore
attribute [local go_sem] max2_int min2_int max_two min_two max_three min_three max_four min_four   -- for this text's walks alone
set_option linter.unusedVariables false
set_option linter.unusedSimpArgs false

/-! ### wash_pair: function 29 -/
def wash_pair.f (k : Nat) (l0 : List (S61)) (l1 : List (S61)) : Option (Int) := (wash_Validate.f k l0).bind fun t142 => (if t142 = 0 then ((wash_Validate.f k l1).bind fun t143 => (if t143 = 0 then ((wash_mass.f k l0).bind fun t144 => ((wash_mass.f k l1).bind fun t145 => (if t144 = t145 then (some 0) else (some 5)))) else (some t143))) else (some t142))
theorem wash_pair.mono : ∀ a0 a1 k, LeO (wash_pair.f k a0 a1) (wash_pair.f (k + 1) a0 a1) := by
  intro a0 a1 k
  unfold wash_pair.f
  repeat' first
      | (with_reducible exact wash_Validate.mono _ _)
      | (with_reducible exact wash_mass.mono _ _)
      | (with_reducible exact LeO.refl _)
      | (with_reducible exact LeO.none _)
      | (with_reducible refine LeO.ite ?_ ?_)
      | (with_reducible refine LeO.bind ?_ (fun _ => ?_))
      | exact wash_Validate.mono _ _
      | exact wash_mass.mono _ _
      | exact LeO.none _
      | refine LeO.ite ?_ ?_
      | refine LeO.bind ?_ (fun _ => ?_)
set_option maxHeartbeats 8000000 in
set_option maxRecDepth 100000 in
theorem wash_pair.calls (k : Nat) (A0 : Option Addr) (c0 : Nat) (l0 : List (S61)) (A1 : Option Addr) (c1 : Nat) (l1 : List (S61)) (r : Int) (w : World) (hr0 : Kd.C k61 w A0 l0.length l0) (hc0 : l0.length ≤ c0) (hr1 : Kd.C k61 w A1 l1.length l1) (hc1 : l1.length ≤ c1) (h : wash_pair.f k l0 l1 = some r) :
    Calls Try.prog 29 #[.slice A0 l0.length c0, .slice A1 l1.length c1] w fun e w' => e = .returned (.int .i64 r) ∧ Below w.heap.size w w' := by
  have HR0 := Aside0.mk hr0
  have HC0 := Aside0.mk hc0
  clear hr0 hc0
  have HR1 := Aside0.mk hr1
  have HC1 := Aside0.mk hc1
  clear hr1 hc1
  have HB := Aside0.mk (Below.refl w.heap.size w)
  have H : ((wash_Validate.f k l0).bind fun t142 => (if t142 = 0 then ((wash_Validate.f k l1).bind fun t143 => (if t143 = 0 then ((wash_mass.f k l0).bind fun t144 => ((wash_mass.f k l1).bind fun t145 => (if t144 = t145 then (some 0) else (some 5)))) else (some t143))) else (some t142))) = some r := h
  clear h
  replace H := Option.bind_eq_some_iff.mp H
  obtain ⟨t142, A30, H⟩ := H
  replace H : (if t142 = 0 then ((wash_Validate.f k l1).bind fun t143 => (if t143 = 0 then ((wash_mass.f k l0).bind fun t144 => ((wash_mass.f k l1).bind fun t145 => (if t144 = t145 then (some 0) else (some 5)))) else (some t143))) else (some t142)) = some r := H
  have A3 := Aside0.mk A30
  clear A30
  by_cases c4 : t142 = 0
  · rw [if_pos c4] at H
    have c4b0 : (t142 == 0) = true := beq_iff_eq.mpr c4
    have c4b1 : (t142 != 0) = false := bne_eq_false_iff_eq.mpr c4
    clear c4
    replace H := Option.bind_eq_some_iff.mp H
    obtain ⟨t143, A50, H⟩ := H
    replace H : (if t143 = 0 then ((wash_mass.f k l0).bind fun t144 => ((wash_mass.f k l1).bind fun t145 => (if t144 = t145 then (some 0) else (some 5)))) else (some t143)) = some r := H
    have A5 := Aside0.mk A50
    clear A50
    by_cases c6 : t143 = 0
    · rw [if_pos c6] at H
      have c6b0 : (t143 == 0) = true := beq_iff_eq.mpr c6
      have c6b1 : (t143 != 0) = false := bne_eq_false_iff_eq.mpr c6
      clear c6
      replace H := Option.bind_eq_some_iff.mp H
      obtain ⟨t144, A70, H⟩ := H
      replace H : ((wash_mass.f k l1).bind fun t145 => (if t144 = t145 then (some 0) else (some 5))) = some r := H
      have A7 := Aside0.mk A70
      clear A70
      replace H := Option.bind_eq_some_iff.mp H
      obtain ⟨t145, A80, H⟩ := H
      replace H : (if t144 = t145 then (some 0) else (some 5)) = some r := H
      have A8 := Aside0.mk A80
      clear A80
      by_cases c9 : t144 = t145
      · rw [if_pos c9] at H
        have c9b0 : (t144 == t145) = true := beq_iff_eq.mpr c9
        have c9b1 : (t144 != t145) = false := bne_eq_false_iff_eq.mpr c9
        clear c9
        obtain rfl := Option.some.inj H
        go_enter Try.func29, Try.ntmps29
        go_wp2_with (first | ((with_reducible refine gate_callee (f := 12) rfl ?_); refine goesL_ (some 8) rfl rfl Try.func12 (by kernel_rfl) rfl #[.slice A0 l0.length c0] rfl (by (try simp only [List.map_toArray, List.map_cons, List.map_nil]); first | done | rfl | (simp only [List.length_drop, List.length_take]; rfl)) ?_; (with_reducible refine (wash_Validate.calls k _ _ l0 t142 _ ?side1 ?side2 A3.out).mono ?_); (case side1 => repeat (first | exact HR0.out | (with_reducible refine Kd.C_alloc ?_ _) | (with_reducible refine Kd.C_drewN ?_ _) | (with_reducible refine Kd.C_drew ?_))); (case side2 => exact HC0.out); rintro e w10 ⟨rfl, hb⟩; refine ⟨_, rfl, ?_⟩; have n0_ := Aside0.mk (below_step (by repeat (first | (with_reducible first | exact HB.out | apply below_alloc | apply pw_below_drewN | apply below_drew1) | exact HB.out)) hb); clear HB; have HB := n0_; clear n0_; (try clear hb); (try clear hb2); (try clear hk); (try clear hi)) | ((with_reducible refine gate_callee (f := 12) rfl ?_); refine goesL_ (some 13) rfl rfl Try.func12 (by kernel_rfl) rfl #[.slice A1 l1.length c1] rfl (by (try simp only [List.map_toArray, List.map_cons, List.map_nil]); first | done | rfl | (simp only [List.length_drop, List.length_take]; rfl)) ?_; (with_reducible refine (wash_Validate.calls k _ _ l1 t143 _ ?side1 ?side2 A5.out).mono ?_); (case side1 => repeat (first | exact (Kd.C_below HR1.out HB.out) | (with_reducible refine Kd.C_alloc ?_ _) | (with_reducible refine Kd.C_drewN ?_ _) | (with_reducible refine Kd.C_drew ?_))); (case side2 => exact HC1.out); rintro e w11 ⟨rfl, hb⟩; refine ⟨_, rfl, ?_⟩; have n0_ := Aside0.mk (below_step (by repeat (first | (with_reducible first | exact HB.out | apply below_alloc | apply pw_below_drewN | apply below_drew1) | exact HB.out)) hb); clear HB; have HB := n0_; clear n0_; (try clear hb); (try clear hb2); (try clear hk); (try clear hi)) | ((with_reducible refine gate_callee (f := 24) rfl ?_); refine goesL_ (some 18) rfl rfl Try.func24 (by kernel_rfl) rfl #[.slice A0 l0.length c0] rfl (by (try simp only [List.map_toArray, List.map_cons, List.map_nil]); first | done | rfl | (simp only [List.length_drop, List.length_take]; rfl)) ?_; (with_reducible refine (wash_mass.calls k _ _ l0 t144 _ ?side1 ?side2 A7.out).mono ?_); (case side1 => repeat (first | exact (Kd.C_below HR0.out HB.out) | (with_reducible refine Kd.C_alloc ?_ _) | (with_reducible refine Kd.C_drewN ?_ _) | (with_reducible refine Kd.C_drew ?_))); (case side2 => exact HC0.out); rintro e w12 ⟨rfl, hb⟩; refine ⟨_, rfl, ?_⟩; have n0_ := Aside0.mk (below_step (by repeat (first | (with_reducible first | exact HB.out | apply below_alloc | apply pw_below_drewN | apply below_drew1) | exact HB.out)) hb); clear HB; have HB := n0_; clear n0_; (try clear hb); (try clear hb2); (try clear hk); (try clear hi)) | ((with_reducible refine gate_callee (f := 24) rfl ?_); refine goesL_ (some 20) rfl rfl Try.func24 (by kernel_rfl) rfl #[.slice A1 l1.length c1] rfl (by (try simp only [List.map_toArray, List.map_cons, List.map_nil]); first | done | rfl | (simp only [List.length_drop, List.length_take]; rfl)) ?_; (with_reducible refine (wash_mass.calls k _ _ l1 t145 _ ?side1 ?side2 A8.out).mono ?_); (case side1 => repeat (first | exact (Kd.C_below HR1.out HB.out) | (with_reducible refine Kd.C_alloc ?_ _) | (with_reducible refine Kd.C_drewN ?_ _) | (with_reducible refine Kd.C_drew ?_))); (case side2 => exact HC1.out); rintro e w13 ⟨rfl, hb⟩; refine ⟨_, rfl, ?_⟩; have n0_ := Aside0.mk (below_step (by repeat (first | (with_reducible first | exact HB.out | apply below_alloc | apply pw_below_drewN | apply below_drew1) | exact HB.out)) hb); clear HB; have HB := n0_; clear n0_; (try clear hb); (try clear hb2); (try clear hk); (try clear hi)))
        go_ret
        exact ⟨by first | rfl | (simp [errW_none, errW_some] <;> rfl) | (simp [*, errW_none, errW_some] <;> rfl), by repeat (first | (with_reducible first | exact HB.out | apply below_alloc | apply pw_below_drewN | apply below_drew1) | exact HB.out)⟩
      · rw [if_neg c9] at H
        have c9b0 : (t144 == t145) = false := beq_eq_false_iff_ne.mpr c9
        have c9b1 : (t144 != t145) = true := bne_iff_ne.mpr c9
        obtain rfl := Option.some.inj H
        go_enter Try.func29, Try.ntmps29
        go_wp2_with (first | ((with_reducible refine gate_callee (f := 12) rfl ?_); refine goesL_ (some 8) rfl rfl Try.func12 (by kernel_rfl) rfl #[.slice A0 l0.length c0] rfl (by (try simp only [List.map_toArray, List.map_cons, List.map_nil]); first | done | rfl | (simp only [List.length_drop, List.length_take]; rfl)) ?_; (with_reducible refine (wash_Validate.calls k _ _ l0 t142 _ ?side1 ?side2 A3.out).mono ?_); (case side1 => repeat (first | exact HR0.out | (with_reducible refine Kd.C_alloc ?_ _) | (with_reducible refine Kd.C_drewN ?_ _) | (with_reducible refine Kd.C_drew ?_))); (case side2 => exact HC0.out); rintro e w14 ⟨rfl, hb⟩; refine ⟨_, rfl, ?_⟩; have n0_ := Aside0.mk (below_step (by repeat (first | (with_reducible first | exact HB.out | apply below_alloc | apply pw_below_drewN | apply below_drew1) | exact HB.out)) hb); clear HB; have HB := n0_; clear n0_; (try clear hb); (try clear hb2); (try clear hk); (try clear hi)) | ((with_reducible refine gate_callee (f := 12) rfl ?_); refine goesL_ (some 13) rfl rfl Try.func12 (by kernel_rfl) rfl #[.slice A1 l1.length c1] rfl (by (try simp only [List.map_toArray, List.map_cons, List.map_nil]); first | done | rfl | (simp only [List.length_drop, List.length_take]; rfl)) ?_; (with_reducible refine (wash_Validate.calls k _ _ l1 t143 _ ?side1 ?side2 A5.out).mono ?_); (case side1 => repeat (first | exact (Kd.C_below HR1.out HB.out) | (with_reducible refine Kd.C_alloc ?_ _) | (with_reducible refine Kd.C_drewN ?_ _) | (with_reducible refine Kd.C_drew ?_))); (case side2 => exact HC1.out); rintro e w15 ⟨rfl, hb⟩; refine ⟨_, rfl, ?_⟩; have n0_ := Aside0.mk (below_step (by repeat (first | (with_reducible first | exact HB.out | apply below_alloc | apply pw_below_drewN | apply below_drew1) | exact HB.out)) hb); clear HB; have HB := n0_; clear n0_; (try clear hb); (try clear hb2); (try clear hk); (try clear hi)) | ((with_reducible refine gate_callee (f := 24) rfl ?_); refine goesL_ (some 18) rfl rfl Try.func24 (by kernel_rfl) rfl #[.slice A0 l0.length c0] rfl (by (try simp only [List.map_toArray, List.map_cons, List.map_nil]); first | done | rfl | (simp only [List.length_drop, List.length_take]; rfl)) ?_; (with_reducible refine (wash_mass.calls k _ _ l0 t144 _ ?side1 ?side2 A7.out).mono ?_); (case side1 => repeat (first | exact (Kd.C_below HR0.out HB.out) | (with_reducible refine Kd.C_alloc ?_ _) | (with_reducible refine Kd.C_drewN ?_ _) | (with_reducible refine Kd.C_drew ?_))); (case side2 => exact HC0.out); rintro e w16 ⟨rfl, hb⟩; refine ⟨_, rfl, ?_⟩; have n0_ := Aside0.mk (below_step (by repeat (first | (with_reducible first | exact HB.out | apply below_alloc | apply pw_below_drewN | apply below_drew1) | exact HB.out)) hb); clear HB; have HB := n0_; clear n0_; (try clear hb); (try clear hb2); (try clear hk); (try clear hi)) | ((with_reducible refine gate_callee (f := 24) rfl ?_); refine goesL_ (some 20) rfl rfl Try.func24 (by kernel_rfl) rfl #[.slice A1 l1.length c1] rfl (by (try simp only [List.map_toArray, List.map_cons, List.map_nil]); first | done | rfl | (simp only [List.length_drop, List.length_take]; rfl)) ?_; (with_reducible refine (wash_mass.calls k _ _ l1 t145 _ ?side1 ?side2 A8.out).mono ?_); (case side1 => repeat (first | exact (Kd.C_below HR1.out HB.out) | (with_reducible refine Kd.C_alloc ?_ _) | (with_reducible refine Kd.C_drewN ?_ _) | (with_reducible refine Kd.C_drew ?_))); (case side2 => exact HC1.out); rintro e w17 ⟨rfl, hb⟩; refine ⟨_, rfl, ?_⟩; have n0_ := Aside0.mk (below_step (by repeat (first | (with_reducible first | exact HB.out | apply below_alloc | apply pw_below_drewN | apply below_drew1) | exact HB.out)) hb); clear HB; have HB := n0_; clear n0_; (try clear hb); (try clear hb2); (try clear hk); (try clear hi)))
        go_ret
        exact ⟨by first | rfl | (simp [errW_none, errW_some] <;> rfl) | (simp [*, errW_none, errW_some] <;> rfl), by repeat (first | (with_reducible first | exact HB.out | apply below_alloc | apply pw_below_drewN | apply below_drew1) | exact HB.out)⟩
    · rw [if_neg c6] at H
      have c6b0 : (t143 == 0) = false := beq_eq_false_iff_ne.mpr c6
      have c6b1 : (t143 != 0) = true := bne_iff_ne.mpr c6
      obtain rfl := Option.some.inj H
      go_enter Try.func29, Try.ntmps29
      go_wp2_with (first | ((with_reducible refine gate_callee (f := 12) rfl ?_); refine goesL_ (some 8) rfl rfl Try.func12 (by kernel_rfl) rfl #[.slice A0 l0.length c0] rfl (by (try simp only [List.map_toArray, List.map_cons, List.map_nil]); first | done | rfl | (simp only [List.length_drop, List.length_take]; rfl)) ?_; (with_reducible refine (wash_Validate.calls k _ _ l0 t142 _ ?side1 ?side2 A3.out).mono ?_); (case side1 => repeat (first | exact HR0.out | (with_reducible refine Kd.C_alloc ?_ _) | (with_reducible refine Kd.C_drewN ?_ _) | (with_reducible refine Kd.C_drew ?_))); (case side2 => exact HC0.out); rintro e w18 ⟨rfl, hb⟩; refine ⟨_, rfl, ?_⟩; have n0_ := Aside0.mk (below_step (by repeat (first | (with_reducible first | exact HB.out | apply below_alloc | apply pw_below_drewN | apply below_drew1) | exact HB.out)) hb); clear HB; have HB := n0_; clear n0_; (try clear hb); (try clear hb2); (try clear hk); (try clear hi)) | ((with_reducible refine gate_callee (f := 12) rfl ?_); refine goesL_ (some 13) rfl rfl Try.func12 (by kernel_rfl) rfl #[.slice A1 l1.length c1] rfl (by (try simp only [List.map_toArray, List.map_cons, List.map_nil]); first | done | rfl | (simp only [List.length_drop, List.length_take]; rfl)) ?_; (with_reducible refine (wash_Validate.calls k _ _ l1 t143 _ ?side1 ?side2 A5.out).mono ?_); (case side1 => repeat (first | exact (Kd.C_below HR1.out HB.out) | (with_reducible refine Kd.C_alloc ?_ _) | (with_reducible refine Kd.C_drewN ?_ _) | (with_reducible refine Kd.C_drew ?_))); (case side2 => exact HC1.out); rintro e w19 ⟨rfl, hb⟩; refine ⟨_, rfl, ?_⟩; have n0_ := Aside0.mk (below_step (by repeat (first | (with_reducible first | exact HB.out | apply below_alloc | apply pw_below_drewN | apply below_drew1) | exact HB.out)) hb); clear HB; have HB := n0_; clear n0_; (try clear hb); (try clear hb2); (try clear hk); (try clear hi)))
      go_ret
      exact ⟨by first | rfl | (simp [errW_none, errW_some] <;> rfl) | (simp [*, errW_none, errW_some] <;> rfl), by repeat (first | (with_reducible first | exact HB.out | apply below_alloc | apply pw_below_drewN | apply below_drew1) | exact HB.out)⟩
  · rw [if_neg c4] at H
    have c4b0 : (t142 == 0) = false := beq_eq_false_iff_ne.mpr c4
    have c4b1 : (t142 != 0) = true := bne_iff_ne.mpr c4
    obtain rfl := Option.some.inj H
    go_enter Try.func29, Try.ntmps29
    go_wp2_with (first | ((with_reducible refine gate_callee (f := 12) rfl ?_); refine goesL_ (some 8) rfl rfl Try.func12 (by kernel_rfl) rfl #[.slice A0 l0.length c0] rfl (by (try simp only [List.map_toArray, List.map_cons, List.map_nil]); first | done | rfl | (simp only [List.length_drop, List.length_take]; rfl)) ?_; (with_reducible refine (wash_Validate.calls k _ _ l0 t142 _ ?side1 ?side2 A3.out).mono ?_); (case side1 => repeat (first | exact HR0.out | (with_reducible refine Kd.C_alloc ?_ _) | (with_reducible refine Kd.C_drewN ?_ _) | (with_reducible refine Kd.C_drew ?_))); (case side2 => exact HC0.out); rintro e w20 ⟨rfl, hb⟩; refine ⟨_, rfl, ?_⟩; have n0_ := Aside0.mk (below_step (by repeat (first | (with_reducible first | exact HB.out | apply below_alloc | apply pw_below_drewN | apply below_drew1) | exact HB.out)) hb); clear HB; have HB := n0_; clear n0_; (try clear hb); (try clear hb2); (try clear hk); (try clear hi)))
    go_ret
    exact ⟨by first | rfl | (simp [errW_none, errW_some] <;> rfl) | (simp [*, errW_none, errW_some] <;> rfl), by repeat (first | (with_reducible first | exact HB.out | apply below_alloc | apply pw_below_drewN | apply below_drew1) | exact HB.out)⟩

end Go.Proofs.Ytcelibdkicfgkaa.P

/-! Part H33. -/
namespace Go.Proofs.Ytcelibdkicfgkaa.P
open Go.RowKit Go.Proofs.YtcelibdkicfgkaaW.PrintWords Go.Proofs.YtcelibdkicfgkaaW.PrintLast Go.Proofs.YtcelibdkicfgkaaW.PrintMore
set_option linter.unusedVariables false

/-- A row of 21 masses, as its cells. -/
def rowC (f : Int → Int) : Array Value := ((List.range 21).map fun i : Nat => Value.int .i64 (f i)).toArray
def updF (f : Int → Int) (i v : Int) : Int → Int := fun s => if s = i then v else f s
theorem rowC_size (f : Int → Int) : (rowC f).size = 21 := by simp [rowC]
theorem rowC_get (f : Int → Int) {i : Nat} (h : i < 21) : (rowC f)[i]? = some (.int .i64 (f i)) := by
  simp [rowC, List.getElem?_range h]
theorem rowC_set (f : Int → Int) {i : Nat} (h : i < 21) (v : Int) : (rowC f).setIfInBounds i (.int .i64 v) = rowC (updF f i v) := by
  apply Array.ext_getElem?
  intro j
  rw [Array.getElem?_setIfInBounds]
  by_cases hj : j < 21
  · rw [rowC_get _ hj, rowC_get _ hj, rowC_size]
    by_cases e : i = j
    · subst e; rw [if_pos rfl, if_pos h]; simp [updF]
    · rw [if_neg e]; simp only [updF]; rw [if_neg (by omega)]
  · rw [Array.getElem?_eq_none (by rw [rowC_size]; omega), Array.getElem?_eq_none (by rw [rowC_size]; omega)]
    by_cases e : i = j
    · omega
    · rw [if_neg e]
def sprF (f : Int → Int) : List S61 → Int → Int
  | [] => f
  | g :: l => sprF (updF f g.f0 g.f1) l
theorem sprF_append (l : List S61) (g : S61) : ∀ f, sprF f (l ++ [g]) = updF (sprF f l) g.f0 g.f1 := by
  induction l with
  | nil => intro f; rfl
  | cons x l ih => intro f; exact ih _
theorem sprF_pt {l : List S61} : ∀ {a : Int} {f : Int → Int}, asc a l → (∀ s, a < s → f s = 0) → ∀ s, sprF f l s = if a < s then pt l s else f s := by
  induction l with
  | nil => intro a f _ hf s; simp only [sprF, pt]; split <;> simp_all
  | cons g l ih =>
    intro a f h hf s
    obtain ⟨h1, h2, h3⟩ := h
    simp only [sprF, pt]
    rw [ih h3 (fun s hs => by simp only [updF]; rw [if_neg (by omega)]; exact hf s (by omega)) s]
    by_cases c : g.f0 < s
    · rw [if_pos c, if_pos (by omega), if_neg (by omega)]; omega
    · rw [if_neg c]; simp only [updF]
      by_cases d : s = g.f0
      · rw [if_pos d, if_pos (by omega), if_pos d.symm, pt_low h3 (by omega)]; omega
      · rw [if_neg d]
        by_cases e : a < s
        · rw [if_pos e, if_neg (fun e => d e.symm), pt_low h3 (by omega), hf s e]; rfl
        · rw [if_neg e]
theorem sprF_eq {l : List S61} (h : asc 0 l) : rowC (sprF (fun _ => 0) l) = rowC (pt l) := by
  unfold rowC; congr 1
  refine List.map_congr_left fun i hi => ?_
  rw [sprF_pt h (fun _ _ => rfl)]
  split
  · rfl
  · rw [pt_low h (by omega)]
theorem info72 : (Try.prog.info? 72).map (fun i => (i.zero, i.size)) = some (some (.agg (rowC fun _ => 0)), 21) := by kernel_rfl
theorem rd61_get (l : List S61) (i : Nat) (h : i < l.length) : rd_T61 l (i : Int) = l[i] := by
  unfold rd_T61; simp [List.getD, h]

theorem rowC_one (f : Int → Int) : (rowC f).all (·.oneCell') = true := by
  simp [rowC, Value.oneCell']
theorem row_size {f : Int → Int} : (Try.prog.info? 72).map (·.size) = some (rowC f).size := by rw [(zero_of_info info72).2, rowC_size]
theorem load_row {w : World} {g : Nat} {f : Int → Int} (h : w.heap[g]? = some (.cells (rowC f) 72 (0, 0))) : (Instr.loadAt 72 (.pointer (some ⟨g, 0, none⟩))).run Try.prog w = .ok (.agg (rowC f)) w := by
  simp only [Instr.loadAt, Instr.sureAddr, Sem.run_bind, Sem.run_pure, Result.andThen]
  exact run_loadVar_row w g 72 72 (rowC f) (0, 0) _ h Try.underlying72 rfl (by rw [(zero_of_info info72).2, rowC_size])
theorem store_row {w : World} {g : Nat} {f0 f : Int → Int} (h : w.heap[g]? = some (.cells (rowC f0) 72 (0, 0))) : (Instr.storeAt 72 (.pointer (some ⟨g, 0, none⟩)) (.agg (rowC f))).run Try.prog w = .ok () (w.setRow g (rowC f)) := by
  simp only [Instr.storeAt, Instr.sureAddr, Sem.run_bind, Sem.run_pure, Result.andThen]
  exact run_storeVar_row w g 72 72 (rowC f0) (rowC f) h (by rw [(zero_of_info info72).2, rowC_size]) (by rw [rowC_size, rowC_size]) (rowC_one f)
set_option maxHeartbeats 2000000 in
set_option maxRecDepth 100000 in
theorem wash_spread.calls (A0 : Option Addr) (c0 : Nat) (l0 : List (S61)) (w : World) (hr0 : Kd.C k61 w A0 l0.length l0) (hc0 : l0.length ≤ c0) (hv : ∀ g ∈ l0, 0 ≤ g.f0 ∧ g.f0 ≤ 20) (ha : asc 0 l0) (hlen : l0.length ≤ 6) :
    Calls Try.prog 33 #[.slice A0 l0.length c0] w fun e w' => e = .returned (.agg (rowC (pt l0))) ∧ Below w.heap.size w w' := by
  have hu61 := Try.underlying61
  have hu72 := Try.underlying72
  have HR0 := Aside0.mk hr0
  have HV := Aside0.mk hv
  have HA := Aside0.mk ha
  have HB := Aside0.mk (Below.refl w.heap.size w)
  have hz72 := (zero_of_info info72).1
  clear hr0 hc0 hv ha
  go_enter Try.func33, Try.ntmps33
  go_wp2_with fail
  go_loopg [8] l0.length (fun gg v8 wr => ∃ i : Nat, i ≤ l0.length ∧ l0.length - i ≤ gg ∧ v8 = .int .i64 i ∧ Aside0 (wr.heap[w.heap.size]? = some (.cells (rowC fun _ => 0) 72 (0, 0))) ∧ Aside0 (wr.heap[w.heap.size + 1]? = some (.cells (rowC (sprF (fun _ => 0) (l0.take i))) 72 (0, 0))) ∧ Aside0 (Below w.heap.size w wr))
  case atStart => exact ⟨0, Nat.zero_le _, by omega, rfl, ⟨blk_alloc (blk_new w _) _⟩, ⟨by have := blk_new (w.alloc (.cells (rowC fun _ => 0) 72)) (.cells (rowC fun _ => 0) 72); rw [World.size_alloc] at this; exact this⟩, ⟨below_alloc (below_alloc HB.out _) _⟩⟩
  case round =>
    clear HB
    obtain ⟨i, hi, hg, rfl, HG0, HG1, HB⟩ := hrel
    by_cases hlt : i < l0.length
    · have hltz : (i : Int) < (l0.length : Int) := by omega
      have hq0 : (0 : Int) ≤ (i : Int) := by omega
      obtain ⟨ad, e1, hx0, hx1⟩ := at_T61 (Kd.C_below HR0.out HB.out) (i : Int) hq0 hltz
      cases e1
      rw [rd61_get l0 i hlt] at hx0 hx1
      simp only [Int.toNat_natCast] at hx0 hx1
      have hm := HV.out l0[i] (List.getElem_mem hlt)
      have hs0 : sprF (fun _ => 0) (l0.take (i + 1)) = updF (sprF (fun _ => 0) (l0.take i)) l0[i].f0 l0[i].f1 := by
        rw [List.take_succ_eq_append_getElem hlt]; exact sprF_append _ _ _
      have HS := Aside0.mk hs0
      clear hs0
      obtain ⟨gz, hgz⟩ : ∃ z, l0[i].f0 = z := ⟨_, rfl⟩
      obtain ⟨gm, hgm⟩ : ∃ z, l0[i].f1 = z := ⟨_, rfl⟩
      rw [hgz] at hx0 hm HS
      rw [hgm] at hx1 HS
      clear hgz hgm
      obtain ⟨hm0, hm1⟩ := hm
      have hb1 := blk_alloc HG1.out (.cells #[.int .i64 gz, .int .i64 gm] 61)
      have hfr : (wr.alloc (.cells #[.int .i64 gz, .int .i64 gm] 61)).frozen? ⟨w.heap.size + 1, gz.toNat, none⟩ = false := blk_frozen hb1 _
      have hce : (wr.alloc (.cells #[.int .i64 gz, .int .i64 gm] 61)).cell? ⟨w.heap.size + 1, gz.toNat, none⟩ = some (.int .i64 (sprF (fun _ => 0) (l0.take i) (gz.toNat : Nat))) := by
        rw [blk_cell hb1]; exact rowC_get _ (by omega)
      have HB1 := Aside0.mk hb1
      clear hb1
      go_wp2_with fail
      go_roundg (l0.length - (i + 1))
      case measure => omega
      case rel =>
        refine ⟨i + 1, by omega, by omega, by go_num, ⟨blk_far (blk_alloc HG0.out _) (by show w.heap.size ≠ w.heap.size + 1; omega) _⟩, ⟨?_⟩, ⟨below_set (below_alloc HB.out _) (by omega)⟩⟩
        have h := blk_set HB1.out gz.toNat (.int .i64 gm)
        rw [rowC_set _ (by omega)] at h
        rw [HS.out, show updF (sprF (fun _ => 0) (l0.take i)) gz gm = updF (sprF (fun _ => 0) (l0.take i)) ((gz.toNat : Nat) : Int) gm by rw [Int.toNat_of_nonneg hm0]]
        exact h
    · have hiz : ¬ (i : Int) < (l0.length : Int) := by omega
      have HE : Aside0 (l0.take i = l0) := ⟨List.take_of_length_le (by omega)⟩
      rw [HE.out, sprF_eq HA.out] at HG1
      have hn : w.heap.size < wr.heap.size := blk_lt HG0.out
      go_wp2_with (first | ((with_reducible refine gate_dst (N := 18) rfl ?_); refine wpList_load_row rfl 72 (.tmp 3) rfl (w.heap.size + 1) rfl 72 (rowC (pt l0)) (0, 0) _ HG1.out Try.underlying72 rfl row_size ?_) | (with_reducible refine wpList_store_row rfl 72 (.tmp 2) (.tmp 18) rfl w.heap.size (rowC (pt l0)) rfl rfl 72 (rowC fun _ => 0) HG0.out row_size (by rw [rowC_size, rowC_size]) (rowC_one _) ?_))
      have hE := setRow_heap wr w.heap.size (rowC fun _ => 0) (rowC (pt l0)) 72 (0, 0) HG0.out
      exact bodyPost_ret (v := .agg (rowC (pt l0))) (results_cell_row rfl _ _ w.heap.size 72 (rowC (pt l0)) (0, 0) _ rfl hE Try.underlying72 rfl row_size) rfl ⟨rfl, below_setRow HB.out (Nat.le_refl _) _⟩
end Go.Proofs.Ytcelibdkicfgkaa.P

/-! Part H30. -/
namespace Go.Proofs.Ytcelibdkicfgkaa.P
open Go.RowKit Go.Proofs.YtcelibdkicfgkaaW.PrintWords Go.Proofs.YtcelibdkicfgkaaW.PrintLast Go.Proofs.YtcelibdkicfgkaaW.PrintMore
set_option linter.unusedVariables false

theorem pt_le {s : Int} : ∀ {l : List S61}, (∀ g ∈ l, 0 ≤ g.f1 ∧ g.f1 ≤ 100) → 0 ≤ pt l s ∧ pt l s ≤ 100 * l.length
  | [], _ => by simp [pt]
  | g :: l, h => by
    have h1 := pt_le (s := s) (fun q hq => h q (List.mem_cons_of_mem _ hq))
    have h2 := h g (by simp)
    simp only [pt, List.length_cons]
    split <;> omega
theorem pt_range {s : Int} {l : List S61} (h : vErr l = 0) : 0 ≤ pt l s ∧ pt l s ≤ 600 := by
  obtain ⟨h1, h2, h3⟩ := vErr_zero h
  have := pt_le (s := s) (l := l) (fun g hg => ⟨by have := asc_pos h2 g hg; omega, (h3 g hg).2⟩)
  omega
theorem vErr_sizes {l : List S61} (h : vErr l = 0) : ∀ g ∈ l, 0 ≤ g.f0 ∧ g.f0 ≤ 20 := by
  obtain ⟨h1, h2, h3⟩ := vErr_zero h
  exact fun g hg => ⟨by have := asc_gt h2 g hg; omega, (h3 g hg).1⟩

theorem new_second (w : World) (c c' : Array Value) : ((w.alloc (.cells c 72)).alloc (.cells c' 72)).heap[w.heap.size + 1]? = some (.cells c' 72 (0, 0)) := by
  have := blk_new (w.alloc (.cells c 72)) (.cells c' 72)
  rw [World.size_alloc] at this; exact this
theorem two_boxes (w : World) (d0 : Int → Int) : (((w.alloc (.cells (rowC fun _ => 0) 72)).alloc (.cells (rowC fun _ => 0) 72)).setRow w.heap.size (rowC d0)).heap[w.heap.size + 1]? = some (.cells (rowC fun _ => 0) 72 (0, 0)) := by
  rw [setRow_other _ _ _ _ (by omega)]; exact new_second w _ _
set_option maxHeartbeats 4000000 in
set_option maxRecDepth 100000 in
theorem wash_work.calls (A0 : Option Addr) (c0 : Nat) (l0 : List (S61)) (A1 : Option Addr) (c1 : Nat) (l1 : List (S61)) (r1 : Int) (r2 : Bool) (w : World) (hr0 : Kd.C k61 w A0 l0.length l0) (hc0 : l0.length ≤ c0) (hr1 : Kd.C k61 w A1 l1.length l1) (hc1 : l1.length ≤ c1) (h : wash_work.f l0 l1 = some (r1, r2)) :
    Calls Try.prog 30 #[.slice A0 l0.length c0, .slice A1 l1.length c1] w fun e w' => e = .returned (.tuple #[.int .i64 r1, .bool r2]) ∧ Below w.heap.size w w' := by
  unfold wash_work.f at h
  split at h
  · rename_i hv
    obtain ⟨hv0, hv1⟩ := hv
    have HW := Aside0.mk (Option.some.inj h)
    have HP0 : Aside0 (∀ s, 0 ≤ pt l0 s ∧ pt l0 s ≤ 600) := ⟨fun s => pt_range hv0⟩
    have HP1 : Aside0 (∀ s, 0 ≤ pt l1 s ∧ pt l1 s ≤ 600) := ⟨fun s => pt_range hv1⟩
    have HS0 : Aside0 (∀ W, Below w.heap.size w W → Calls Try.prog 33 #[.slice A0 l0.length c0] W fun e w' => e = .returned (.agg (rowC (pt l0))) ∧ Below W.heap.size W w') := ⟨fun W hW => wash_spread.calls A0 c0 l0 W (Kd.C_below hr0 hW) hc0 (vErr_sizes hv0) (vErr_zero hv0).2.1 (vErr_zero hv0).1⟩
    have HS1 : Aside0 (∀ W, Below w.heap.size w W → Calls Try.prog 33 #[.slice A1 l1.length c1] W fun e w' => e = .returned (.agg (rowC (pt l1))) ∧ Below W.heap.size W w') := ⟨fun W hW => wash_spread.calls A1 c1 l1 W (Kd.C_below hr1 hW) hc1 (vErr_sizes hv1) (vErr_zero hv1).2.1 (vErr_zero hv1).1⟩
    have HB := Aside0.mk (Below.refl w.heap.size w)
    have hz72 := (zero_of_info info72).1
    clear h hv0 hv1 hr0 hr1 hc0 hc1
    obtain ⟨d0, hd0⟩ : ∃ d, pt l0 = d := ⟨_, rfl⟩
    obtain ⟨d1, hd1⟩ : ∃ d, pt l1 = d := ⟨_, rfl⟩
    rw [hd0] at HS0 HP0 HW
    rw [hd1] at HS1 HP1 HW
    clear hd0 hd1
    go_enter Try.func30, Try.ntmps30
    go_upto_region 2 with (first | (go_at_call 33; (with_reducible refine (HS0.out _ HB.out).mono ?_); rintro e w1 ⟨rfl, hb⟩; have HB1 := Aside0.mk (below_step HB.out hb); clear hb) | (go_at_call 33; (with_reducible refine (HS1.out _ HB1.out).mono ?_); rintro e w2 ⟨rfl, hb⟩; have HB2 := Aside0.mk (below_step HB1.out hb); clear hb) | (with_reducible refine wpList_store_row rfl 72 (.tmp 6) (.tmp 12) rfl w2.heap.size (rowC d0) rfl rfl 72 (rowC fun _ => 0) (blk_alloc (blk_new w2 _) _) row_size (by rw [rowC_size, rowC_size]) (rowC_one _) ?_) | (with_reducible refine wpList_store_row rfl 72 (.tmp 7) (.tmp 14) rfl (w2.heap.size + 1) (rowC d1) rfl rfl 72 (rowC fun _ => 0) (two_boxes w2 d0) row_size (by rw [rowC_size, rowC_size]) (rowC_one _) ?_))
    obtain ⟨ws, hws⟩ : ∃ ws, ws = (((w2.alloc (.cells (rowC fun _ => 0) 72)).alloc (.cells (rowC fun _ => 0) 72)).setRow w2.heap.size (rowC d0)).setRow (w2.heap.size + 1) (rowC d1) := ⟨_, rfl⟩
    obtain ⟨g6, hg6⟩ : ∃ g, g = w2.heap.size := ⟨_, rfl⟩
    obtain ⟨g7, hg7⟩ : ∃ g, g = w2.heap.size + 1 := ⟨_, rfl⟩
    have H6 : Aside0 (ws.heap[g6]? = some (.cells (rowC d0) 72 (0, 0))) := ⟨by rw [hws, hg6, setRow_other _ _ _ _ (by omega), setRow_heap _ _ _ _ _ _ (blk_alloc (blk_new w2 _) _)]⟩
    have H7 : Aside0 (ws.heap[g7]? = some (.cells (rowC d1) 72 (0, 0))) := ⟨by rw [hws, hg7, setRow_heap _ _ _ _ _ _ (two_boxes w2 d0)]⟩
    have hb6 : w.heap.size ≤ g6 := by rw [hg6]; exact HB2.out.size
    have HBs : Aside0 (Below w.heap.size w ws) := ⟨by rw [hws]; exact below_setRow (below_setRow (below_alloc (below_alloc HB2.out _) _) HB2.out.size _) (by have := HB2.out.size; omega) _⟩
    rw [← hws, ← hg7, ← hg6]
    clear hws hg6 hg7 HB HB1 HB2 HS0 HS1 hz72
    simp only [Act.put]
    go_wp2_with fail
    go_loopg [8, 9, 15] 21 (fun gg v8 v9 v15 wr => ∃ (s : Nat) (sum ahead : Int), s ≤ 21 ∧ 21 - s ≤ gg ∧ v15 = .int .i64 s ∧ v8 = .int .i64 sum ∧ v9 = .int .i64 ahead ∧ 0 ≤ ahead ∧ ahead ≤ 600 * s ∧ 0 ≤ sum ∧ sum ≤ 12600 * s ∧ Aside0 (wk (21 - s) s sum ahead (fun s => d0 s - d1 s) = (r1, r2)) ∧ Aside0 (wr.heap[g6]? = some (.cells (rowC d0) 72 (0, 0))) ∧ Aside0 (wr.heap[g7]? = some (.cells (rowC d1) 72 (0, 0))) ∧ Aside0 (Below w.heap.size w wr))
    case atStart => exact ⟨0, 0, 0, by omega, by omega, rfl, rfl, rfl, by omega, by omega, by omega, by omega, HW, H6, H7, HBs⟩
    case round =>
      clear H6 H7 HBs HW
      obtain ⟨s, sum, ahead, hs, hg, rfl, rfl, rfl, ha0, ha1, hs0, hs1, HW, H6, H7, HB⟩ := hrel
      by_cases hlt : s < 21
      · have hltz : (s : Int) < 21 := by omega
        have hq0 : (0 : Int) ≤ (s : Int) := by omega
        have hx := HP0.out (s : Int)
        have hy := HP1.out (s : Int)
        have hc6 : wr.cell? ⟨g6, s, none⟩ = some (.int .i64 (d0 s)) := by rw [blk_cell H6.out]; exact rowC_get _ hlt
        have hc7 : wr.cell? ⟨g7, s, none⟩ = some (.int .i64 (d1 s)) := by rw [blk_cell H7.out]; exact rowC_get _ hlt
        have hw := HW.out
        clear HW
        obtain ⟨m, hm⟩ : ∃ m, 21 - s = m + 1 := ⟨20 - s, by omega⟩
        rw [hm, wk] at hw
        have hm2 : m = 21 - (s + 1) := by omega
        obtain ⟨x, hxe⟩ : ∃ x, d0 (s : Int) = x := ⟨_, rfl⟩
        obtain ⟨y, hye⟩ : ∃ y, d1 (s : Int) = y := ⟨_, rfl⟩
        rw [hxe] at hc6 hx hw
        rw [hye] at hc7 hy hw
        clear hxe hye
        obtain ⟨hx0, hx1⟩ := hx
        obtain ⟨hy0, hy1⟩ := hy
        by_cases hneg : ahead + (x - y) < 0
        · rw [if_pos hneg] at hw
          have HW := Aside0.mk hw
          clear hw hm hm2
          go_wp2
          repeat (go_quiet (fail); try go_wp2)
          go_ret2
          exact ⟨by obtain ⟨h1, h2⟩ := Prod.mk.inj HW.out; subst h1; subst h2; rfl, pw_below_drewN HB.out _⟩
        · rw [if_neg hneg] at hw
          have HW := Aside0.mk hw
          clear hw hm
          go_wp2
          repeat (go_quiet (fail); try go_wp2)
          go_roundg (21 - (s + 1))
          case measure => omega
          case rel => exact ⟨s + 1, sum + (ahead + (x - y)), ahead + (x - y), by omega, by omega, by go_num, rfl, rfl, by omega, by omega, by omega, by omega, ⟨by rw [show ((s + 1 : Nat) : Int) = (s : Int) + 1 from rfl, ← hm2]; exact HW.out⟩, ⟨blk_drewN H6.out _⟩, ⟨blk_drewN H7.out _⟩, ⟨pw_below_drewN HB.out _⟩⟩
      · have hiz : ¬ (s : Int) < 21 := by omega
        have hw := HW.out
        rw [show 21 - s = 0 by omega, wk] at hw
        have HW2 := Aside0.mk hw
        clear HW hw
        go_wp2
        go_ret2
        exact ⟨by obtain ⟨h1, h2⟩ := Prod.mk.inj HW2.out; subst h1; subst h2; rfl, HB.out⟩
  · cases h
end Go.Proofs.Ytcelibdkicfgkaa.P

/-! Part PF17. -/
namespace Go.Proofs.Ytcelibdkicfgkaa.P
open Go.RowKit Go.Proofs.YtcelibdkicfgkaaW.PrintWords Go.Proofs.YtcelibdkicfgkaaW.PrintLast Go.Proofs.YtcelibdkicfgkaaW.PrintMore
attribute [local go_sem] max2_int min2_int max_two min_two max_three min_three max_four min_four   -- for this text's walks alone
set_option linter.unusedVariables false
set_option linter.unusedSimpArgs false

/-! ### wash_IsFiner: function 17 -/
def wash_IsFiner.f (k : Nat) (l0 : List (S61)) (l1 : List (S61)) : Option (Bool × Int) := (wash_pair.f k l0 l1).bind fun t146 => (if t146 = 0 then ((wash_work.f l0 l1).bind fun bt147 => (some (bt147.2, 0))) else (some (false, t146)))
theorem wash_IsFiner.mono : ∀ a0 a1 k, LeO (wash_IsFiner.f k a0 a1) (wash_IsFiner.f (k + 1) a0 a1) := by
  intro a0 a1 k
  unfold wash_IsFiner.f
  repeat' first
      | (with_reducible exact wash_pair.mono _ _ _)
      | (with_reducible exact LeO.refl _)
      | (with_reducible exact LeO.none _)
      | (with_reducible refine LeO.ite ?_ ?_)
      | (with_reducible refine LeO.bind ?_ (fun _ => ?_))
      | exact wash_pair.mono _ _ _
      | exact LeO.none _
      | refine LeO.ite ?_ ?_
      | refine LeO.bind ?_ (fun _ => ?_)
set_option maxHeartbeats 8000000 in
set_option maxRecDepth 100000 in
theorem wash_IsFiner.calls (k : Nat) (A0 : Option Addr) (c0 : Nat) (l0 : List (S61)) (A1 : Option Addr) (c1 : Nat) (l1 : List (S61)) (r1 : Bool) (r2 : Int) (w : World) (hr0 : Kd.C k61 w A0 l0.length l0) (hc0 : l0.length ≤ c0) (hr1 : Kd.C k61 w A1 l1.length l1) (hc1 : l1.length ≤ c1) (h : wash_IsFiner.f k l0 l1 = some (r1, r2)) :
    Calls Try.prog 17 #[.slice A0 l0.length c0, .slice A1 l1.length c1] w fun e w' => e = .returned (.tuple #[.bool r1, .int .i64 r2]) ∧ Below w.heap.size w w' := by
  have HR0 := Aside0.mk hr0
  have HC0 := Aside0.mk hc0
  clear hr0 hc0
  have HR1 := Aside0.mk hr1
  have HC1 := Aside0.mk hc1
  clear hr1 hc1
  have HB := Aside0.mk (Below.refl w.heap.size w)
  have H : ((wash_pair.f k l0 l1).bind fun t146 => (if t146 = 0 then ((wash_work.f l0 l1).bind fun bt147 => (some (bt147.2, 0))) else (some (false, t146)))) = some (r1, r2) := h
  clear h
  replace H := Option.bind_eq_some_iff.mp H
  obtain ⟨t146, A30, H⟩ := H
  replace H : (if t146 = 0 then ((wash_work.f l0 l1).bind fun bt147 => (some (bt147.2, 0))) else (some (false, t146))) = some (r1, r2) := H
  have A3 := Aside0.mk A30
  clear A30
  by_cases c4 : t146 = 0
  · rw [if_pos c4] at H
    have c4b0 : (t146 == 0) = true := beq_iff_eq.mpr c4
    have c4b1 : (t146 != 0) = false := bne_eq_false_iff_eq.mpr c4
    clear c4
    replace H := Option.bind_eq_some_iff.mp H
    obtain ⟨⟨t147, t148⟩, A50, H⟩ := H
    replace H : (some (t148, 0)) = some (r1, r2) := H
    have A5 := Aside0.mk A50
    clear A50
    simp only [Option.some.injEq, Prod.mk.injEq] at H
    obtain ⟨rfl, rfl⟩ := H
    go_enter Try.func17, Try.ntmps17
    go_wp2_with (first | ((with_reducible refine gate_callee (f := 29) rfl ?_); refine goesL_ (some 11) rfl rfl Try.func29 (by kernel_rfl) rfl #[.slice A0 l0.length c0, .slice A1 l1.length c1] rfl (by (try simp only [List.map_toArray, List.map_cons, List.map_nil]); first | done | rfl | (simp only [List.length_drop, List.length_take]; rfl)) ?_; (with_reducible refine (wash_pair.calls k _ _ l0 _ _ l1 t146 _ ?side1 ?side2 ?side3 ?side4 A3.out).mono ?_); (case side1 => repeat (first | exact HR0.out | (with_reducible refine Kd.C_alloc ?_ _) | (with_reducible refine Kd.C_drewN ?_ _) | (with_reducible refine Kd.C_drew ?_))); (case side2 => exact HC0.out); (case side3 => repeat (first | exact HR1.out | (with_reducible refine Kd.C_alloc ?_ _) | (with_reducible refine Kd.C_drewN ?_ _) | (with_reducible refine Kd.C_drew ?_))); (case side4 => exact HC1.out); rintro e w6 ⟨rfl, hb⟩; refine ⟨_, rfl, ?_⟩; have n0_ := Aside0.mk (below_step (by repeat (first | (with_reducible first | exact HB.out | apply below_alloc | apply pw_below_drewN | apply below_drew1) | exact HB.out)) hb); clear HB; have HB := n0_; clear n0_; (try clear hb); (try clear hb2); (try clear hk); (try clear hi)) | ((with_reducible refine gate_callee (f := 30) rfl ?_); refine goesL_ (some 18) rfl rfl Try.func30 (by kernel_rfl) rfl #[.slice A0 l0.length c0, .slice A1 l1.length c1] rfl (by (try simp only [List.map_toArray, List.map_cons, List.map_nil]); first | done | rfl | (simp only [List.length_drop, List.length_take]; rfl)) ?_; (with_reducible refine (wash_work.calls _ _ l0 _ _ l1 t147 t148 _ ?side1 ?side2 ?side3 ?side4 A5.out).mono ?_); (case side1 => repeat (first | exact (Kd.C_below HR0.out HB.out) | (with_reducible refine Kd.C_alloc ?_ _) | (with_reducible refine Kd.C_drewN ?_ _) | (with_reducible refine Kd.C_drew ?_))); (case side2 => exact HC0.out); (case side3 => repeat (first | exact (Kd.C_below HR1.out HB.out) | (with_reducible refine Kd.C_alloc ?_ _) | (with_reducible refine Kd.C_drewN ?_ _) | (with_reducible refine Kd.C_drew ?_))); (case side4 => exact HC1.out); rintro e w7 ⟨rfl, hb⟩; refine ⟨_, rfl, ?_⟩; have n0_ := Aside0.mk (below_step (by repeat (first | (with_reducible first | exact HB.out | apply below_alloc | apply pw_below_drewN | apply below_drew1) | exact HB.out)) hb); clear HB; have HB := n0_; clear n0_; (try clear hb); (try clear hb2); (try clear hk); (try clear hi)))
    go_ret2
    exact ⟨by first | rfl | (simp [errW_none, errW_some] <;> rfl) | (simp [*, errW_none, errW_some] <;> rfl), by repeat (first | (with_reducible first | exact HB.out | apply below_alloc | apply pw_below_drewN | apply below_drew1) | exact HB.out)⟩
  · rw [if_neg c4] at H
    have c4b0 : (t146 == 0) = false := beq_eq_false_iff_ne.mpr c4
    have c4b1 : (t146 != 0) = true := bne_iff_ne.mpr c4
    simp only [Option.some.injEq, Prod.mk.injEq] at H
    obtain ⟨rfl, rfl⟩ := H
    go_enter Try.func17, Try.ntmps17
    go_wp2_with (first | ((with_reducible refine gate_callee (f := 29) rfl ?_); refine goesL_ (some 11) rfl rfl Try.func29 (by kernel_rfl) rfl #[.slice A0 l0.length c0, .slice A1 l1.length c1] rfl (by (try simp only [List.map_toArray, List.map_cons, List.map_nil]); first | done | rfl | (simp only [List.length_drop, List.length_take]; rfl)) ?_; (with_reducible refine (wash_pair.calls k _ _ l0 _ _ l1 t146 _ ?side1 ?side2 ?side3 ?side4 A3.out).mono ?_); (case side1 => repeat (first | exact HR0.out | (with_reducible refine Kd.C_alloc ?_ _) | (with_reducible refine Kd.C_drewN ?_ _) | (with_reducible refine Kd.C_drew ?_))); (case side2 => exact HC0.out); (case side3 => repeat (first | exact HR1.out | (with_reducible refine Kd.C_alloc ?_ _) | (with_reducible refine Kd.C_drewN ?_ _) | (with_reducible refine Kd.C_drew ?_))); (case side4 => exact HC1.out); rintro e w8 ⟨rfl, hb⟩; refine ⟨_, rfl, ?_⟩; have n0_ := Aside0.mk (below_step (by repeat (first | (with_reducible first | exact HB.out | apply below_alloc | apply pw_below_drewN | apply below_drew1) | exact HB.out)) hb); clear HB; have HB := n0_; clear n0_; (try clear hb); (try clear hb2); (try clear hk); (try clear hi)))
    go_ret2
    exact ⟨by first | rfl | (simp [errW_none, errW_some] <;> rfl) | (simp [*, errW_none, errW_some] <;> rfl), by repeat (first | (with_reducible first | exact HB.out | apply below_alloc | apply pw_below_drewN | apply below_drew1) | exact HB.out)⟩

end Go.Proofs.Ytcelibdkicfgkaa.P

/-! Part PF19. -/
namespace Go.Proofs.Ytcelibdkicfgkaa.P
open Go.RowKit Go.Proofs.YtcelibdkicfgkaaW.PrintWords Go.Proofs.YtcelibdkicfgkaaW.PrintLast Go.Proofs.YtcelibdkicfgkaaW.PrintMore
attribute [local go_sem] max2_int min2_int max_two min_two max_three min_three max_four min_four   -- for this text's walks alone
set_option linter.unusedVariables false
set_option linter.unusedSimpArgs false

/-! ### wash_Work: function 19 -/
def wash_Work.f (k : Nat) (l0 : List (S61)) (l1 : List (S61)) : Option (Int × Bool × Int) := (wash_pair.f k l0 l1).bind fun t149 => (if t149 = 0 then ((wash_work.f l0 l1).bind fun bt150 => (some (bt150.1, bt150.2, 0))) else (some (0, false, t149)))
theorem wash_Work.mono : ∀ a0 a1 k, LeO (wash_Work.f k a0 a1) (wash_Work.f (k + 1) a0 a1) := by
  intro a0 a1 k
  unfold wash_Work.f
  repeat' first
      | (with_reducible exact wash_pair.mono _ _ _)
      | (with_reducible exact LeO.refl _)
      | (with_reducible exact LeO.none _)
      | (with_reducible refine LeO.ite ?_ ?_)
      | (with_reducible refine LeO.bind ?_ (fun _ => ?_))
      | exact wash_pair.mono _ _ _
      | exact LeO.none _
      | refine LeO.ite ?_ ?_
      | refine LeO.bind ?_ (fun _ => ?_)
set_option maxHeartbeats 8000000 in
set_option maxRecDepth 100000 in
theorem wash_Work.calls (k : Nat) (A0 : Option Addr) (c0 : Nat) (l0 : List (S61)) (A1 : Option Addr) (c1 : Nat) (l1 : List (S61)) (r1 : Int) (r2 : Bool) (r3 : Int) (w : World) (hr0 : Kd.C k61 w A0 l0.length l0) (hc0 : l0.length ≤ c0) (hr1 : Kd.C k61 w A1 l1.length l1) (hc1 : l1.length ≤ c1) (h : wash_Work.f k l0 l1 = some (r1, r2, r3)) :
    Calls Try.prog 19 #[.slice A0 l0.length c0, .slice A1 l1.length c1] w fun e w' => e = .returned (.tuple #[.int .i64 r1, .bool r2, .int .i64 r3]) ∧ Below w.heap.size w w' := by
  have HR0 := Aside0.mk hr0
  have HC0 := Aside0.mk hc0
  clear hr0 hc0
  have HR1 := Aside0.mk hr1
  have HC1 := Aside0.mk hc1
  clear hr1 hc1
  have HB := Aside0.mk (Below.refl w.heap.size w)
  have H : ((wash_pair.f k l0 l1).bind fun t149 => (if t149 = 0 then ((wash_work.f l0 l1).bind fun bt150 => (some (bt150.1, bt150.2, 0))) else (some (0, false, t149)))) = some (r1, r2, r3) := h
  clear h
  replace H := Option.bind_eq_some_iff.mp H
  obtain ⟨t149, A30, H⟩ := H
  replace H : (if t149 = 0 then ((wash_work.f l0 l1).bind fun bt150 => (some (bt150.1, bt150.2, 0))) else (some (0, false, t149))) = some (r1, r2, r3) := H
  have A3 := Aside0.mk A30
  clear A30
  by_cases c4 : t149 = 0
  · rw [if_pos c4] at H
    have c4b0 : (t149 == 0) = true := beq_iff_eq.mpr c4
    have c4b1 : (t149 != 0) = false := bne_eq_false_iff_eq.mpr c4
    clear c4
    replace H := Option.bind_eq_some_iff.mp H
    obtain ⟨⟨t150, t151⟩, A50, H⟩ := H
    replace H : (some (t150, t151, 0)) = some (r1, r2, r3) := H
    have A5 := Aside0.mk A50
    clear A50
    simp only [Option.some.injEq, Prod.mk.injEq] at H
    obtain ⟨rfl, rfl, rfl⟩ := H
    go_enter Try.func19, Try.ntmps19
    go_wp2_with (first | ((with_reducible refine gate_callee (f := 29) rfl ?_); refine goesL_ (some 12) rfl rfl Try.func29 (by kernel_rfl) rfl #[.slice A0 l0.length c0, .slice A1 l1.length c1] rfl (by (try simp only [List.map_toArray, List.map_cons, List.map_nil]); first | done | rfl | (simp only [List.length_drop, List.length_take]; rfl)) ?_; (with_reducible refine (wash_pair.calls k _ _ l0 _ _ l1 t149 _ ?side1 ?side2 ?side3 ?side4 A3.out).mono ?_); (case side1 => repeat (first | exact HR0.out | (with_reducible refine Kd.C_alloc ?_ _) | (with_reducible refine Kd.C_drewN ?_ _) | (with_reducible refine Kd.C_drew ?_))); (case side2 => exact HC0.out); (case side3 => repeat (first | exact HR1.out | (with_reducible refine Kd.C_alloc ?_ _) | (with_reducible refine Kd.C_drewN ?_ _) | (with_reducible refine Kd.C_drew ?_))); (case side4 => exact HC1.out); rintro e w6 ⟨rfl, hb⟩; refine ⟨_, rfl, ?_⟩; have n0_ := Aside0.mk (below_step (by repeat (first | (with_reducible first | exact HB.out | apply below_alloc | apply pw_below_drewN | apply below_drew1) | exact HB.out)) hb); clear HB; have HB := n0_; clear n0_; (try clear hb); (try clear hb2); (try clear hk); (try clear hi)) | ((with_reducible refine gate_callee (f := 30) rfl ?_); refine goesL_ (some 19) rfl rfl Try.func30 (by kernel_rfl) rfl #[.slice A0 l0.length c0, .slice A1 l1.length c1] rfl (by (try simp only [List.map_toArray, List.map_cons, List.map_nil]); first | done | rfl | (simp only [List.length_drop, List.length_take]; rfl)) ?_; (with_reducible refine (wash_work.calls _ _ l0 _ _ l1 t150 t151 _ ?side1 ?side2 ?side3 ?side4 A5.out).mono ?_); (case side1 => repeat (first | exact (Kd.C_below HR0.out HB.out) | (with_reducible refine Kd.C_alloc ?_ _) | (with_reducible refine Kd.C_drewN ?_ _) | (with_reducible refine Kd.C_drew ?_))); (case side2 => exact HC0.out); (case side3 => repeat (first | exact (Kd.C_below HR1.out HB.out) | (with_reducible refine Kd.C_alloc ?_ _) | (with_reducible refine Kd.C_drewN ?_ _) | (with_reducible refine Kd.C_drew ?_))); (case side4 => exact HC1.out); rintro e w7 ⟨rfl, hb⟩; refine ⟨_, rfl, ?_⟩; have n0_ := Aside0.mk (below_step (by repeat (first | (with_reducible first | exact HB.out | apply below_alloc | apply pw_below_drewN | apply below_drew1) | exact HB.out)) hb); clear HB; have HB := n0_; clear n0_; (try clear hb); (try clear hb2); (try clear hk); (try clear hi)))
    go_ret3
    exact ⟨by first | rfl | (simp [errW_none, errW_some] <;> rfl) | (simp [*, errW_none, errW_some] <;> rfl), by repeat (first | (with_reducible first | exact HB.out | apply below_alloc | apply pw_below_drewN | apply below_drew1) | exact HB.out)⟩
  · rw [if_neg c4] at H
    have c4b0 : (t149 == 0) = false := beq_eq_false_iff_ne.mpr c4
    have c4b1 : (t149 != 0) = true := bne_iff_ne.mpr c4
    simp only [Option.some.injEq, Prod.mk.injEq] at H
    obtain ⟨rfl, rfl, rfl⟩ := H
    go_enter Try.func19, Try.ntmps19
    go_wp2_with (first | ((with_reducible refine gate_callee (f := 29) rfl ?_); refine goesL_ (some 12) rfl rfl Try.func29 (by kernel_rfl) rfl #[.slice A0 l0.length c0, .slice A1 l1.length c1] rfl (by (try simp only [List.map_toArray, List.map_cons, List.map_nil]); first | done | rfl | (simp only [List.length_drop, List.length_take]; rfl)) ?_; (with_reducible refine (wash_pair.calls k _ _ l0 _ _ l1 t149 _ ?side1 ?side2 ?side3 ?side4 A3.out).mono ?_); (case side1 => repeat (first | exact HR0.out | (with_reducible refine Kd.C_alloc ?_ _) | (with_reducible refine Kd.C_drewN ?_ _) | (with_reducible refine Kd.C_drew ?_))); (case side2 => exact HC0.out); (case side3 => repeat (first | exact HR1.out | (with_reducible refine Kd.C_alloc ?_ _) | (with_reducible refine Kd.C_drewN ?_ _) | (with_reducible refine Kd.C_drew ?_))); (case side4 => exact HC1.out); rintro e w8 ⟨rfl, hb⟩; refine ⟨_, rfl, ?_⟩; have n0_ := Aside0.mk (below_step (by repeat (first | (with_reducible first | exact HB.out | apply below_alloc | apply pw_below_drewN | apply below_drew1) | exact HB.out)) hb); clear HB; have HB := n0_; clear n0_; (try clear hb); (try clear hb2); (try clear hk); (try clear hi)))
    go_ret3
    exact ⟨by first | rfl | (simp [errW_none, errW_some] <;> rfl) | (simp [*, errW_none, errW_some] <;> rfl), by repeat (first | (with_reducible first | exact HB.out | apply below_alloc | apply pw_below_drewN | apply below_drew1) | exact HB.out)⟩

end Go.Proofs.Ytcelibdkicfgkaa.P

/-! Part PF32. -/
namespace Go.Proofs.Ytcelibdkicfgkaa.P
open Go.RowKit Go.Proofs.YtcelibdkicfgkaaW.PrintWords Go.Proofs.YtcelibdkicfgkaaW.PrintLast Go.Proofs.YtcelibdkicfgkaaW.PrintMore
attribute [local go_sem] max2_int min2_int max_two min_two max_three min_three max_four min_four   -- for this text's walks alone
set_option linter.unusedVariables false
set_option linter.unusedSimpArgs false

attribute [local go_sem high] eqA61
/-! ### api_Grain_32: function 32 -/
def api_Grain_32.l0 : Nat → List (S61) → List (S61) → Int → Int → Option (Bool)
  | 0, _, _, _, _ => none
  | k + 1, x0, x1, x12, x13 => if x13 < x12 then (if 0 ≤ x13 then (if x13 < (x0.length : Int) then (if x13 < (x1.length : Int) then (if (!(((rd_T61 x0 x13).f0) == ((rd_T61 x1 x13).f0)) || (!(((rd_T61 x0 x13).f1) == ((rd_T61 x1 x13).f1)))) = true then (some false) else (api_Grain_32.l0 k x0 x1 x12 (wrap64 (x13 + 1)))) else (none)) else (none)) else (none)) else (some true)
def api_Grain_32.f (k : Nat) (l0 : List (S61)) (l1 : List (S61)) : Option (Bool) := if (l0.length : Int) = (l1.length : Int) then (api_Grain_32.l0 k l0 l1 (l0.length : Int) 0) else (some false)
theorem api_Grain_32.mono_l : ∀ k, (∀ y0 y1 y2 y3, LeO (api_Grain_32.l0 k y0 y1 y2 y3) (api_Grain_32.l0 (k + 1) y0 y1 y2 y3))
  | 0 => fun _ _ _ _ r h => by simp [api_Grain_32.l0] at h
  | k + 1 => by
    have ih0 := api_Grain_32.mono_l k
    · intro y0 y1 y2 y3
      unfold api_Grain_32.l0
      repeat' first
      | (with_reducible exact ih0 _ _ _ _)
      | (with_reducible exact LeO.refl _)
      | (with_reducible exact LeO.none _)
      | (with_reducible refine LeO.ite ?_ ?_)
      | (with_reducible refine LeO.bind ?_ (fun _ => ?_))
      | exact ih0 _ _ _ _
      | exact LeO.none _
      | refine LeO.ite ?_ ?_
      | refine LeO.bind ?_ (fun _ => ?_)
theorem api_Grain_32.mono : ∀ a0 a1 k, LeO (api_Grain_32.f k a0 a1) (api_Grain_32.f (k + 1) a0 a1) := by
  intro a0 a1 k
  have ih0 := api_Grain_32.mono_l k
  unfold api_Grain_32.f
  repeat' first
      | (with_reducible exact ih0 _ _ _ _)
      | (with_reducible exact LeO.refl _)
      | (with_reducible exact LeO.none _)
      | (with_reducible refine LeO.ite ?_ ?_)
      | (with_reducible refine LeO.bind ?_ (fun _ => ?_))
      | exact ih0 _ _ _ _
      | exact LeO.none _
      | refine LeO.ite ?_ ?_
      | refine LeO.bind ?_ (fun _ => ?_)
set_option maxHeartbeats 8000000 in
set_option maxRecDepth 100000 in
theorem api_Grain_32.calls (k : Nat) (A0 : Option Addr) (c0 : Nat) (l0 : List (S61)) (A1 : Option Addr) (c1 : Nat) (l1 : List (S61)) (r : Bool) (w : World) (hr0 : Kd.C k61 w A0 l0.length l0) (hc0 : l0.length ≤ c0) (hr1 : Kd.C k61 w A1 l1.length l1) (hc1 : l1.length ≤ c1) (h : api_Grain_32.f k l0 l1 = some r) :
    Calls Try.prog 32 #[.slice A0 l0.length c0, .slice A1 l1.length c1] w fun e w' => e = .returned (.bool r) ∧ Drawn0 w w' := by
  have hu61 := Try.underlying61
  have HR0 := Aside0.mk hr0
  have HC0 := Aside0.mk hc0
  clear hr0 hc0
  have HR1 := Aside0.mk hr1
  have HC1 := Aside0.mk hc1
  clear hr1 hc1
  have H : (if (l0.length : Int) = (l1.length : Int) then (api_Grain_32.l0 k l0 l1 (l0.length : Int) 0) else (some false)) = some r := h
  clear h
  by_cases c3 : (l0.length : Int) = (l1.length : Int)
  · rw [if_pos c3] at H
    have c3b0 : ((l0.length : Int) == (l1.length : Int)) = true := beq_iff_eq.mpr c3
    have c3b1 : ((l0.length : Int) != (l1.length : Int)) = false := bne_eq_false_iff_eq.mpr c3
    have c3b2 : (l0.length == l1.length) = true := by first | simpa using c3 | (simp at c3 ⊢; omega)
    clear c3
    have H' := Aside0.mk H
    clear H
    go_enter Try.func32, Try.ntmps32
    go_wp2
    repeat (go_quiet (fail); try go_wp2)
    go_loopg [13] k (fun kq v13 w' => ∃ (x13_1 : Int), v13 = .int .i64 x13_1 ∧ Aside0 (api_Grain_32.l0 kq l0 l1 (l0.length : Int) x13_1 = some r) ∧ Aside0 (kq ≤ k) ∧ Drawn0 w w')
    case atStart => exact ⟨(0), (by first | rfl | (simp; done) | (simp [*]; done)), H', ⟨Nat.le_refl _⟩, by repeat (first | exact Drawn0.refl _ | apply Drawn0.step)⟩
    case round =>
      clear H'
      try clear c1
      try clear p2
      try clear c3
      try clear c3b0
      try clear c3b1
      try clear c3b2
      obtain ⟨x13_1, rfl, HA, HK1, ⟨m1, rfl⟩⟩ := hrel
      cases gk with
      | zero => exact absurd HA.out (by simp [api_Grain_32.l0])
      | succ k1 =>
        have H := HA.out
        clear HA
        simp only [api_Grain_32.l0] at H
        by_cases c4 : x13_1 < (l0.length : Int)
        · rw [if_pos c4] at H
          have c4b0 : decide (x13_1 < (l0.length : Int)) = true := decide_eq_true c4
          clear c4
          by_cases c5 : 0 ≤ x13_1
          · rw [if_pos c5] at H
            have c5b0 : decide (0 ≤ x13_1) = true := decide_eq_true c5
            clear c5
            by_cases c6 : x13_1 < (l0.length : Int)
            · rw [if_pos c6] at H
              have c6b0 : decide (x13_1 < (l0.length : Int)) = true := decide_eq_true c6
              clear c6
              by_cases c7 : x13_1 < (l1.length : Int)
              · rw [if_pos c7] at H
                have c7b0 : decide (x13_1 < (l1.length : Int)) = true := decide_eq_true c7
                clear c7
                by_cases c8 : (!(((rd_T61 l0 x13_1).f0) == ((rd_T61 l1 x13_1).f0)) || (!(((rd_T61 l0 x13_1).f1) == ((rd_T61 l1 x13_1).f1)))) = true
                · rw [if_pos c8] at H
                  have c8b0 : (!(((rd_T61 l0 x13_1).f0) == ((rd_T61 l1 x13_1).f0)) || (!(((rd_T61 l0 x13_1).f1) == ((rd_T61 l1 x13_1).f1)))) = true := c8
                  clear c8
                  obtain rfl := Option.some.inj H
                  have p152 : 0 ≤ (x13_1 : Int) := of_decide_eq_true (by first | (with_reducible assumption) | assumption)
                  have q152 : x13_1 < (l0.length : Int) := of_decide_eq_true (by first | (with_reducible assumption) | assumption)
                  obtain ⟨ad152, e152, hx152_0, hx152_1⟩ := at_T61 HR0.out x13_1 p152 q152
                  cases e152
                  replace p152 := eq_true p152
                  replace q152 := eq_true q152
                  have p153 : 0 ≤ (x13_1 : Int) := of_decide_eq_true (by first | (with_reducible assumption) | assumption)
                  have q153 : x13_1 < (l1.length : Int) := of_decide_eq_true (by first | (with_reducible assumption) | assumption)
                  obtain ⟨ad153, e153, hx153_0, hx153_1⟩ := at_T61 HR1.out x13_1 p153 q153
                  cases e153
                  replace p153 := eq_true p153
                  replace q153 := eq_true q153
                  go_wp2
                  repeat (go_quiet (fail); try go_wp2)
                  go_ret
                  exact ⟨by first | rfl | (simp; done) | (simp [*]; done), by repeat (first | exact Drawn0.refl _ | apply Drawn0.step)⟩
                · rw [if_neg c8] at H
                  have c8b0 : (!(((rd_T61 l0 x13_1).f0) == ((rd_T61 l1 x13_1).f0)) || (!(((rd_T61 l0 x13_1).f1) == ((rd_T61 l1 x13_1).f1)))) = false := by simpa using c8
                  clear c8
                  have H' := Aside0.mk H
                  clear H
                  have p152 : 0 ≤ (x13_1 : Int) := of_decide_eq_true (by first | (with_reducible assumption) | assumption)
                  have q152 : x13_1 < (l0.length : Int) := of_decide_eq_true (by first | (with_reducible assumption) | assumption)
                  obtain ⟨ad152, e152, hx152_0, hx152_1⟩ := at_T61 HR0.out x13_1 p152 q152
                  cases e152
                  replace p152 := eq_true p152
                  replace q152 := eq_true q152
                  have p153 : 0 ≤ (x13_1 : Int) := of_decide_eq_true (by first | (with_reducible assumption) | assumption)
                  have q153 : x13_1 < (l1.length : Int) := of_decide_eq_true (by first | (with_reducible assumption) | assumption)
                  obtain ⟨ad153, e153, hx153_0, hx153_1⟩ := at_T61 HR1.out x13_1 p153 q153
                  cases e153
                  replace p153 := eq_true p153
                  replace q153 := eq_true q153
                  go_wp2
                  repeat (go_quiet (fail); try go_wp2)
                  go_roundg k1
                  case measure => have := HK1.out; omega
                  case rel => exact ⟨(wrap64 (x13_1 + 1)), (by first | rfl | (simp; done) | (simp [*]; done)), H', ⟨by have := HK1.out; omega⟩, by repeat (first | exact Drawn0.refl _ | apply Drawn0.step)⟩
              · rw [if_neg c7] at H
                exact absurd H (by simp)
            · rw [if_neg c6] at H
              exact absurd H (by simp)
          · rw [if_neg c5] at H
            exact absurd H (by simp)
        · rw [if_neg c4] at H
          have c4b0 : decide (x13_1 < (l0.length : Int)) = false := decide_eq_false c4
          clear c4
          obtain rfl := Option.some.inj H
          go_wp2
          repeat (go_quiet (fail); try go_wp2)
          go_ret
          exact ⟨by first | rfl | (simp; done) | (simp [*]; done), by repeat (first | exact Drawn0.refl _ | apply Drawn0.step)⟩
  · rw [if_neg c3] at H
    have c3b0 : ((l0.length : Int) == (l1.length : Int)) = false := beq_eq_false_iff_ne.mpr c3
    have c3b1 : ((l0.length : Int) != (l1.length : Int)) = true := bne_iff_ne.mpr c3
    have c3b2 : (l0.length == l1.length) = false := by first | simpa using c3 | (simp at c3 ⊢; omega)
    obtain rfl := Option.some.inj H
    go_enter Try.func32, Try.ntmps32
    go_wp2
    repeat (go_quiet (fail); try go_wp2)
    go_ret
    exact ⟨by first | rfl | (simp; done) | (simp [*]; done), by repeat (first | exact Drawn0.refl _ | apply Drawn0.step)⟩

end Go.Proofs.Ytcelibdkicfgkaa.P

/-! Part H34. -/
namespace Go.Proofs.Ytcelibdkicfgkaa.P
open Go.RowKit Go.Proofs.YtcelibdkicfgkaaW.PrintWords Go.Proofs.YtcelibdkicfgkaaW.PrintLast Go.Proofs.YtcelibdkicfgkaaW.PrintMore
set_option linter.unusedVariables false

theorem col_snoc (f : Int → Int) : ∀ (n : Nat) (s : Int), col (n + 1) s f = col n s f ++ (if 0 < f (s + n) then [⟨s + n, f (s + n)⟩] else [])
  | 0, s => by simp [col]
  | n + 1, s => by
    rw [col, col_snoc f n (s + 1), col, List.append_assoc, show s + 1 + (n : Int) = s + ((n + 1 : Nat) : Int) by omega]
theorem col_len (f : Int → Int) : ∀ (n : Nat) (s : Int), (col n s f).length ≤ n
  | 0, s => by simp [col]
  | n + 1, s => by
    have := col_len f n (s + 1)
    rw [col, List.length_append]; split <;> simp <;> omega

theorem index_row (f : Int → Int) (W : World) {i : Nat} (hi : i < 21) : (Instr.index 72 (.agg (rowC f)) (.int .i64 (i : Int))).run Try.prog W = .ok (.int .i64 (f i)) W := by
  have hu72 := Try.underlying72
  have hu3 := Try.underlying3
  have h0 : (0 : Int) ≤ (i : Int) ∧ (i : Int) < (21 : Nat) := by omega
  have hg := rowC_get f hi
  simp only [Instr.index]
  go_simp
set_option maxHeartbeats 4000000 in
set_option maxRecDepth 100000 in
theorem wash_collect.calls (f : Int → Int) (w : World) :
    Calls Try.prog 34 #[.agg (rowC f)] w fun e w' => ∃ v0_ : Value, e = .returned (v0_) ∧ Kd.R k61 61 w' w.heap.size (fun _ => True) v0_ (col 21 0 f) ∧ Below w.heap.size w w' := by
  have hu61 := Try.underlying61
  have HB := Aside0.mk (Below.refl w.heap.size w)
  go_enter Try.func34, Try.ntmps34
  go_wp2_with (first | ((with_reducible refine gate_dst (N := 6) rfl ?_); refine wpList_load_row rfl 72 (.tmp 1) rfl w.heap.size rfl 72 (rowC f) (0, 0) _ (blk_new w _) Try.underlying72 rfl row_size ?_))
  go_loopg [3, 7] 21 (fun gg v3 v7 wr => ∃ i : Nat, i ≤ 21 ∧ 21 - i ≤ gg ∧ v7 = .int .i64 i ∧ Aside0 (Kd.R k61 61 wr w.heap.size (fun _ => True) v3 (col i 0 f)) ∧ Aside0 (Below w.heap.size w wr))
  case atStart => exact ⟨0, by omega, by omega, rfl, ⟨Kd.R_nil k61 61 _ w.heap.size _⟩, ⟨below_alloc HB.out _⟩⟩
  case round =>
    clear HB
    obtain ⟨i, hi, hg, rfl, HO, HB⟩ := hrel
    by_cases hlt : i < 21
    · have hltz : (i : Int) < 21 := by omega
      have hq0 : (0 : Int) ≤ (i : Int) := by omega
      have hidx := fun W => index_row f W hlt
      have HS : Aside0 (col (i + 1) 0 f = col i 0 f ++ (if 0 < f i then [⟨i, f i⟩] else [])) := ⟨by have := col_snoc f i 0; rw [Int.zero_add] at this; exact this⟩
      have HL := Aside0.mk (col_len f i 0)
      obtain ⟨x, hx⟩ : ∃ x, f (i : Int) = x := ⟨_, rfl⟩
      rw [hx] at hidx HS
      clear hx
      by_cases hp : 0 < x
      · rw [if_pos hp] at HS
        go_wp2_with (first | ((with_reducible refine gate_builtin (b := .append) (xs := #[.tmp 13, .tmp 17]) rfl ?_); at_builtin; refine Kd.R_append k61 (w0 := w) w.heap.size rfl (.tmp 13) (.tmp 17) 22 61 (.agg #[(.int .i64 0), (.int .i64 0)]) 16 rfl Try.underlying22 infoG rfl (by decide) (by omega) u3 (col i 0 f) ⟨(i : Int), x⟩ [.int .i64 (i : Int), .int .i64 x] (fun _ => True) (fun _ => False) rfl (by first | (go_simp; done) | (go_simp; rfl)) ?aP (fun _ hk => hk.elim) ?aF ?aO ?aB ?aS ?aL ?_; (case aP => exact k61_mkM _ _ _ ⟨(i : Int), x⟩); (case aB => exact HB.out); (case aF => exact fun _ _ => trivial); (case aO => exact HO.out); (case aS => exact below_size HB.out); (case aL => have := HL.out; omega); intro v1 w1 ho hb hg_ hat; have HO2 := Aside0.mk ho; have HB2 := Aside0.mk hb; clear ho hb hg_ hat))
        go_roundg (21 - (i + 1))
        case measure => omega
        case rel => exact ⟨i + 1, by omega, by omega, by go_num, ⟨by rw [HS.out]; exact HO2.out⟩, HB2⟩
      · rw [if_neg hp] at HS
        go_wp2_with fail
        go_roundg (21 - (i + 1))
        case measure => omega
        case rel => exact ⟨i + 1, by omega, by omega, by go_num, ⟨by rw [HS.out, List.append_nil]; exact HO.out⟩, HB⟩
    · have hiz : ¬ (i : Int) < 21 := by omega
      have HE : Aside0 (i = 21) := ⟨by omega⟩
      go_wp2_with fail
      go_ret
      refine ⟨_, rfl, ?_, HB.out⟩
      rw [← HE.out]
      exact HO.out
end Go.Proofs.Ytcelibdkicfgkaa.P

/-! Part Val. -/
namespace Go.Proofs.Ytcelibdkicfgkaa.P
open Go.RowKit Go.Proofs.YtcelibdkicfgkaaW.PrintWords Go.Proofs.YtcelibdkicfgkaaW.PrintLast Go.Proofs.YtcelibdkicfgkaaW.PrintMore
set_option linter.unusedVariables false

theorem wr_id {a : Int} (h0 : -9223372036854775808 ≤ a) (h1 : a < 9223372036854775808) : wrap64 a = a := by unfold wrap64; omega
theorem rd61_at (l : List S61) (i : Nat) (h : i < l.length) : rd_T61 l (i : Int) = l[i] := by
  unfold rd_T61; simp [List.getD, h]
theorem validate_loop (l : List S61) (hl : l.length ≤ 6) : ∀ (d i k : Nat) (a : Int), i + d = l.length → d < k → 0 ≤ a → (i = 0 → a = 0) → (0 < i → (rd_T61 l ((i : Int) - 1)).f0 = a) →
    wash_Validate.l0 k l l (l.length : Int) (i : Int) = some (if okG a (l.drop i) = true then 0 else 1) := by
  intro d
  induction d with
  | zero =>
    intro i k a hi hk _ _ _
    obtain ⟨k, rfl⟩ : ∃ m, k = m + 1 := ⟨k - 1, by omega⟩
    simp only [wash_Validate.l0]
    rw [if_neg (by omega), List.drop_of_length_le (by omega)]; rfl
  | succ d ih =>
    intro i k a hi hk ha h0 hp
    obtain ⟨k, rfl⟩ : ∃ m, k = m + 1 := ⟨k - 1, by omega⟩
    have hlt : i < l.length := by omega
    simp only [wash_Validate.l0]
    rw [if_pos (by omega), if_pos (by omega), if_pos (by omega), rd61_at l i hlt, List.drop_eq_getElem_cons hlt]
    have hw : wrap64 ((i : Int) + 1) = ((i + 1 : Nat) : Int) := by rw [wr_id (by omega) (by omega)]; rfl
    have hw2 : wrap64 ((i : Int) - 1) = (i : Int) - 1 := wr_id (by omega) (by omega)
    have ihn := ih (i + 1) k l[i].f0 (by omega) (by omega)
    rw [hw, hw2]
    have hpn : (0 < i + 1 → (rd_T61 l (((i + 1 : Nat) : Int) - 1)).f0 = l[i].f0) := fun _ => by
      rw [show (((i + 1 : Nat) : Int) - 1) = (i : Int) by omega, rd61_at l i hlt]
    generalize l[i] = g at *
    by_cases c1 : g.f0 < 1
    · rw [if_pos c1, show okG a (g :: l.drop (i + 1)) = false by simp [okG]; omega]; rfl
    rw [if_neg c1]
    by_cases c2 : g.f0 > 20
    · rw [if_pos c2, show okG a (g :: l.drop (i + 1)) = false by simp [okG]; omega]; rfl
    rw [if_neg c2]
    by_cases c3 : g.f1 < 1
    · rw [if_pos c3, show okG a (g :: l.drop (i + 1)) = false by simp [okG]; omega]; rfl
    rw [if_neg c3]
    by_cases c4 : g.f1 > 100
    · rw [if_pos c4, show okG a (g :: l.drop (i + 1)) = false by simp [okG]; omega]; rfl
    rw [if_neg c4]
    have ihn := ihn (by omega) (by omega) hpn
    by_cases c5 : (i : Int) > 0
    · rw [if_pos c5, if_pos (by omega), if_pos (by omega), hp (by omega)]
      by_cases c6 : a ≥ g.f0
      · rw [if_pos c6, show okG a (g :: l.drop (i + 1)) = false by simp [okG]; omega]; rfl
      · rw [if_neg c6, ihn]
        simp [okG, show a < g.f0 by omega, show g.f0 ≤ 20 by omega, show 1 ≤ g.f1 by omega, show g.f1 ≤ 100 by omega]
    · rw [if_neg c5, ihn]
      have := h0 (by omega)
      simp [okG, show a < g.f0 by omega, show g.f0 ≤ 20 by omega, show 1 ≤ g.f1 by omega, show g.f1 ≤ 100 by omega]
theorem validate_eq (l : List S61) (k : Nat) (hk : 10 ≤ k) : wash_Validate.f k l = some (vErr l) := by
  unfold wash_Validate.f vErr
  by_cases c : 6 < l.length
  · rw [if_pos (by omega), if_pos c]
  · rw [if_neg (by omega), if_neg c]
    have h := validate_loop l (by omega) l.length 0 k 0 (by omega) (by omega) (by omega) (fun _ => rfl) (fun h => by omega)
    rw [List.drop_zero] at h
    exact h
end Go.Proofs.Ytcelibdkicfgkaa.P

/-! Part H21. -/
/- wash.Grind: what it returns for every lot and all moves. -/
namespace Go.Proofs.Ytcelibdkicfgkaa.P
open Go.RowKit Go.Proofs.YtcelibdkicfgkaaW.PrintWords Go.Proofs.YtcelibdkicfgkaaW.PrintLast Go.Proofs.YtcelibdkicfgkaaW.PrintMore
set_option linter.unusedVariables false

def wash_Grind.B18 : List Nat := [0, 1, 3, 7, 0, 16, 63, 127, 255]
theorem wash_Grind.tab18 : rtab .any (opsOf Try.f21 18) = rtab .any (opsOf Try.f21 18) := rfl
theorem wash_Grind.tab19 : rtab .any (opsOf Try.f21 19) = rtab .any (opsOf Try.f21 19) := rfl
theorem wash_Grind.bits18 : waitsOk (rtab .any (opsOf Try.f21 18)).2 wash_Grind.B18 = true := by kernel_rfl
theorem wash_Grind.bits19 : waitsOk (rtab .any (opsOf Try.f21 19)).2 wash_Grind.B18 = true := by kernel_rfl
theorem rd56_at (l : List S56) (i : Nat) (h : i < l.length) : rd_T56 l (i : Int) = l[i] := by
  unfold rd_T56; simp [List.getD, h]
theorem not_all {l : List S56} {i : Nat} (hi : i < l.length) (h : okMvB l[i] = false) : ¬ l.all okMvB = true := by
  rw [List.all_eq_true]; intro hc
  rw [hc l[i] (List.getElem_mem hi)] at h; cases h
theorem all_take {l : List S56} {i : Nat} (hi : i < l.length) (h : (l.take i).all okMvB = true) (h2 : okMvB l[i] = true) : (l.take (i + 1)).all okMvB = true := by
  rw [List.take_succ_eq_append_getElem hi, List.all_append, h]; simp [h2]
/-- One move, as the two cells tell it. -/
theorem upd_ap1 (f : Int → Int) (x : S56) (h : x.f1 < x.f0) : updF (updF f x.f0 (f x.f0 - x.f2)) x.f1 (f x.f1 + x.f2) = ap1 f x := by
  funext s
  simp only [updF, ap1]
  by_cases c : s = x.f1
  · have d : ¬ x.f0 = s := by omega
    rw [if_pos c, if_neg d, if_pos c.symm, c]; omega
  · have c' : ¬ x.f1 = s := fun e => c e.symm
    by_cases d : s = x.f0
    · rw [if_neg c, if_pos d, if_pos d.symm, if_neg c', d]; omega
    · have d' : ¬ x.f0 = s := fun e => d e.symm
      rw [if_neg c, if_neg d, if_neg d', if_neg c']; omega

set_option maxHeartbeats 8000000 in
set_option maxRecDepth 100000 in
theorem wash_Grind.calls (A0 : Option Addr) (c0 : Nat) (l0 : List (S61)) (A1 : Option Addr) (c1 : Nat) (l1 : List (S56)) (r1 : List (S61)) (r2 : Int) (w : World) (hr0 : Kd.C k61 w A0 l0.length l0) (hc0 : l0.length ≤ c0) (hr1 : Kd.C k56 w A1 l1.length l1) (hc1 : l1.length ≤ c1) (h : wash_Grind.f l0 l1 = some (r1, r2)) :
    Calls Try.prog 21 #[.slice A0 l0.length c0, .slice A1 l1.length c1] w fun e w' => ∃ v0_ : Value, e = .returned (.tuple #[v0_, .int .i64 r2]) ∧ Kd.R k61 61 w' w.heap.size (fun _ => True) v0_ r1 ∧ Below w.heap.size w w' := by
  have hR := Option.some.inj h
  have HV0 := Aside0.mk (wash_Validate.calls 10 A0 c0 l0 (vErr l0) w hr0 hc0 (validate_eq l0 10 (Nat.le_refl _)))
  have HR0 := Aside0.mk hr0
  have HC0 := Aside0.mk hc0
  have HR1 := Aside0.mk hr1
  have hu61 := Try.underlying61
  have hu56 := Try.underlying56
  have HBw := Aside0.mk (Below.refl w.heap.size w)
  clear h hr0 hr1 hc0 hc1
  by_cases hv : vErr l0 = 0
  · rw [if_pos hv] at hR
    rw [hv] at HV0
    have HSp : Aside0 (∀ W, Below w.heap.size w W → Calls Try.prog 33 #[.slice A0 l0.length c0] W fun e w' => e = .returned (.agg (rowC (pt l0))) ∧ Below W.heap.size W w') := ⟨fun W hW => wash_spread.calls A0 c0 l0 W (Kd.C_below HR0.out hW) HC0.out (vErr_sizes hv) (vErr_zero hv).2.1 (vErr_zero hv).1⟩
    have HP0 : Aside0 (∀ s, 0 ≤ pt l0 s ∧ pt l0 s ≤ 600) := ⟨fun s => pt_range hv⟩
    clear hv
    by_cases hlen : 12 < l1.length
    · rw [if_pos hlen] at hR
      have HR := Aside0.mk hR
      clear hR
      have hlz : (12 : Int) < (l1.length : Int) := by omega
      go_enter Try.func21, Try.ntmps21
      go_wp2_with (first | ((with_reducible refine gate_callee (f := 12) rfl ?_); refine goesL_ (some 15) rfl rfl Try.func12 (by kernel_rfl) rfl #[.slice A0 l0.length c0] rfl (by (try simp only [List.map_toArray, List.map_cons, List.map_nil]); first | done | rfl) ?_; (with_reducible refine HV0.out.mono ?_); rintro e w1 ⟨rfl, hb⟩; refine ⟨_, rfl, ?_⟩; have HBn := Aside0.mk (below_step HBw.out hb); clear hb))
      go_ret2
      obtain ⟨h1, h2⟩ := Prod.mk.inj HR.out
      subst h1; subst h2
      exact ⟨_, rfl, Kd.R_nil k61 61 _ _ _, HBn.out⟩
    · rw [if_neg hlen] at hR
      have HR := Aside0.mk hR
      clear hR
      have hlz : ¬ (12 : Int) < (l1.length : Int) := by omega
      have hl12 : l1.length ≤ 12 := by omega
      clear hlen
      go_enter Try.func21, Try.ntmps21
      go_wp2_with (first | ((with_reducible refine gate_callee (f := 12) rfl ?_); refine goesL_ (some 15) rfl rfl Try.func12 (by kernel_rfl) rfl #[.slice A0 l0.length c0] rfl (by (try simp only [List.map_toArray, List.map_cons, List.map_nil]); first | done | rfl) ?_; (with_reducible refine HV0.out.mono ?_); rintro e w1 ⟨rfl, hb⟩; refine ⟨_, rfl, ?_⟩; have HBn := Aside0.mk (below_step HBw.out hb); clear hb))
      go_loopg [24] l1.length (fun gg v24 wr => ∃ i : Nat, i ≤ l1.length ∧ l1.length - i ≤ gg ∧ v24 = .int .i64 i ∧ Aside0 ((l1.take i).all okMvB = true) ∧ Aside0 (Below w.heap.size w wr))
      case atStart => exact ⟨0, Nat.zero_le _, by omega, rfl, ⟨rfl⟩, HBn⟩
      case round =>
        clear HBn
        obtain ⟨i, hi, hg, rfl, HALL, HB⟩ := hrel
        by_cases hlt : i < l1.length
        · have hltz : (i : Int) < (l1.length : Int) := by omega
          have hq0 : (0 : Int) ≤ (i : Int) := by omega
          obtain ⟨ad, e1, hx0, hx1, hx2⟩ := at_T56 (Kd.C_below HR1.out HB.out) (i : Int) hq0 hltz
          cases e1
          rw [rd56_at l1 i hlt] at hx0 hx1 hx2
          simp only [Int.toNat_natCast] at hx0 hx1 hx2
          have HOK : Aside0 (okMvB l1[i] = (decide (l1[i].f0 ≤ 20) && decide (1 ≤ l1[i].f1) && decide (l1[i].f1 < l1[i].f0) && decide (1 ≤ l1[i].f2) && decide (l1[i].f2 ≤ 100))) := ⟨rfl⟩
          have HNO : Aside0 (okMvB l1[i] = false → r1 = [] ∧ r2 = 1) := ⟨fun hf => by
            have hq := HR.out
            rw [if_neg (not_all hlt hf)] at hq
            obtain ⟨h1, h2⟩ := Prod.mk.inj hq
            exact ⟨h1.symm, h2.symm⟩⟩
          have HYES : Aside0 (okMvB l1[i] = true → (l1.take (i + 1)).all okMvB = true) := ⟨fun hf => all_take hlt HALL.out hf⟩
          generalize hbx : okMvB l1[i] = bx at HOK HNO HYES
          clear hbx
          obtain ⟨a, ha⟩ : ∃ z, l1[i].f0 = z := ⟨_, rfl⟩
          obtain ⟨b, hb⟩ : ∃ z, l1[i].f1 = z := ⟨_, rfl⟩
          obtain ⟨m, hm⟩ : ∃ z, l1[i].f2 = z := ⟨_, rfl⟩
          rw [ha] at hx0 HOK
          rw [hb] at hx1 HOK
          rw [hm] at hx2 HOK
          clear ha hb hm
          by_cases d1 : 20 < a
          · have q1 : decide (20 < a) = true := decide_eq_true d1
            go_wp2_with fail
            go_ret2
            obtain ⟨rfl, rfl⟩ := HNO.out (by rw [HOK.out]; simp; omega)
            exact ⟨_, rfl, Kd.R_nil k61 61 _ _ _, by repeat (first | exact HB.out | apply below_alloc)⟩
          have q1 : decide (20 < a) = false := decide_eq_false d1
          by_cases d2 : b < 1
          · have q2 : decide (b < 1) = true := decide_eq_true d2
            go_wp2_with fail
            go_ret2
            obtain ⟨rfl, rfl⟩ := HNO.out (by rw [HOK.out]; simp; omega)
            exact ⟨_, rfl, Kd.R_nil k61 61 _ _ _, by repeat (first | exact HB.out | apply below_alloc)⟩
          have q2 : decide (b < 1) = false := decide_eq_false d2
          by_cases d3 : a ≤ b
          · have q3 : decide (a ≤ b) = true := decide_eq_true d3
            go_wp2_with fail
            go_ret2
            obtain ⟨rfl, rfl⟩ := HNO.out (by rw [HOK.out]; simp; omega)
            exact ⟨_, rfl, Kd.R_nil k61 61 _ _ _, by repeat (first | exact HB.out | apply below_alloc)⟩
          have q3 : decide (a ≤ b) = false := decide_eq_false d3
          by_cases d4 : m < 1
          · have q4 : decide (m < 1) = true := decide_eq_true d4
            go_wp2_with fail
            go_ret2
            obtain ⟨rfl, rfl⟩ := HNO.out (by rw [HOK.out]; simp; omega)
            exact ⟨_, rfl, Kd.R_nil k61 61 _ _ _, by repeat (first | exact HB.out | apply below_alloc)⟩
          have q4 : decide (m < 1) = false := decide_eq_false d4
          by_cases d5 : 100 < m
          · have q5 : decide (100 < m) = true := decide_eq_true d5
            go_wp2_with fail
            go_ret2
            obtain ⟨rfl, rfl⟩ := HNO.out (by rw [HOK.out]; simp; omega)
            exact ⟨_, rfl, Kd.R_nil k61 61 _ _ _, by repeat (first | exact HB.out | apply below_alloc)⟩
          have q5 : decide (100 < m) = false := decide_eq_false d5
          go_wp2_with fail
          go_roundg (l1.length - (i + 1))
          case measure => omega
          case rel => exact ⟨i + 1, by omega, by omega, by go_num, ⟨HYES.out (by rw [HOK.out]; simp; omega)⟩, ⟨by repeat (first | exact HB.out | apply below_alloc)⟩⟩
        · have hiz : ¬ (i : Int) < (l1.length : Int) := by omega
          have HALL2 : Aside0 (∀ m ∈ l1, okMv m) := ⟨fun m hm => by
            have h := HALL.out
            rw [List.take_of_length_le (by omega), List.all_eq_true] at h
            exact okMvB_iff.1 (h m hm)⟩
          have hq := HR.out
          have hall : l1.all okMvB = true := by have h := HALL.out; rw [List.take_of_length_le (by omega)] at h; exact h
          rw [if_pos hall] at hq
          have HRR := Aside0.mk hq
          clear HR HALL hq hall hg hi hlt
          have hz72 := (zero_of_info info72).1
          go_upto_region 13 with (first | (go_at_call 33; (with_reducible refine (HSp.out _ HB.out).mono ?_); rintro e w2 ⟨rfl, hb⟩; have HB2 := Aside0.mk (below_step HB.out hb); clear hb) | (with_reducible refine wpList_store_row rfl 72 (.tmp 9) (.tmp 55) rfl w2.heap.size (rowC (pt l0)) rfl rfl 72 (rowC fun _ => 0) (blk_new w2 _) row_size (by rw [rowC_size, rowC_size]) (rowC_one _) ?_))
          obtain ⟨ws, hws⟩ : ∃ ws, ws = ((w2.alloc (.cells (rowC fun _ => 0) 72)).setRow w2.heap.size (rowC (pt l0))) := ⟨_, rfl⟩
          obtain ⟨g9, hg9⟩ : ∃ g, g = w2.heap.size := ⟨_, rfl⟩
          have H9 : Aside0 (ws.heap[g9]? = some (.cells (rowC (pt l0)) 72 (0, 0))) := ⟨by rw [hws, hg9, setRow_heap _ _ _ _ _ _ (blk_new w2 _)]⟩
          have hb9 : w.heap.size ≤ g9 := by rw [hg9]; exact HB2.out.size
          have HBs : Aside0 (Below w.heap.size w ws) := ⟨by rw [hws]; exact below_setRow (below_alloc HB2.out _) HB2.out.size _⟩
          rw [← hws, ← hg9]
          clear hws hg9 HB HB2 HSp HV0 HBw hz72
          simp only [Act.put]
          go_wp2_with fail
          go_loopg [58] l1.length (fun gg v58 wr => ∃ (i : Nat) (f : Int → Int), i ≤ l1.length ∧ l1.length - i ≤ gg ∧ v58 = .int .i64 i ∧ Aside0 (aps (pt l0) l1 = aps f (l1.drop i)) ∧ Aside0 (∀ s, 0 ≤ f s ∧ f s ≤ 600 + 100 * (i : Int)) ∧ Aside0 (wr.heap[g9]? = some (.cells (rowC f) 72 (0, 0))) ∧ Aside0 (Below w.heap.size w wr))
          case atStart => exact ⟨0, pt l0, Nat.zero_le _, by omega, rfl, ⟨rfl⟩, ⟨fun s => by have := HP0.out s; omega⟩, H9, HBs⟩
          case round =>
            clear H9 HBs
            obtain ⟨i, f, hi, hg, rfl, HAP, HF, H9, HB⟩ := hrel
            by_cases hlt : i < l1.length
            · have hltz : (i : Int) < (l1.length : Int) := by omega
              have hq0 : (0 : Int) ≤ (i : Int) := by omega
              obtain ⟨ad, e1, hx0, hx1, hx2⟩ := at_T56 (Kd.C_below HR1.out HB.out) (i : Int) hq0 hltz
              cases e1
              rw [rd56_at l1 i hlt] at hx0 hx1 hx2
              simp only [Int.toNat_natCast] at hx0 hx1 hx2
              have hok := HALL2.out l1[i] (List.getElem_mem hlt)
              have hap := HAP.out
              rw [List.drop_eq_getElem_cons hlt, aps] at hap
              have hup := upd_ap1 f (l1[i]'hlt)
              obtain ⟨x, hx⟩ : ∃ x, l1[i] = x := ⟨_, rfl⟩
              rw [hx] at hx0 hx1 hx2 hok hap hup
              clear hx HAP
              obtain ⟨a, b, m⟩ := x
              simp only at hx0 hx1 hx2 hap hup
              obtain ⟨o1, o2, o3, o4, o5⟩ : a ≤ 20 ∧ 1 ≤ b ∧ b < a ∧ 1 ≤ m ∧ m ≤ 100 := hok
              have hup := hup o3
              have hfa := HF.out a
              have hfb := HF.out b
              have HUP := Aside0.mk hup
              clear hup
              have hya0 : wr.cell? ⟨g9, a.toNat, none⟩ = some (.int .i64 (f a)) := by
                rw [blk_cell H9.out, rowC_get f (i := a.toNat) (by omega), Int.toNat_of_nonneg (by omega)]
              obtain ⟨va, hva⟩ : ∃ z, f a = z := ⟨_, rfl⟩
              rw [hva] at hya0 hap hfa HUP
              obtain ⟨hfa0, hfa1⟩ := hfa
              obtain ⟨hfb0, hfb1⟩ := hfb
              have ha0 : 0 ≤ a := by omega
              have ha1 : a < 21 := by omega
              have hb0 : 0 ≤ b := by omega
              have hb1 : b < 21 := by omega
              have HNE : Aside0 (w.heap.size ≤ g9) := ⟨hb9⟩
              have hya : (wr.alloc (.cells #[.int .i64 a, .int .i64 b, .int .i64 m] 56)).cell? ⟨g9, a.toNat, none⟩ = some (.int .i64 va) := by
                rw [World.cell?_alloc_lt _ _ _ (blk_lt H9.out)]; exact hya0
              clear hya0
              by_cases hsh : va < m
              · rw [if_pos hsh] at hap
                have HAP := Aside0.mk hap
                clear hap
                go_upto_region 16 with fail
                go_quiet (fail)
                go_wp2_with fail
                go_ret2
                have hq := HRR.out
                rw [HAP.out] at hq
                obtain ⟨h1, h2⟩ := Prod.mk.inj hq
                subst h1; subst h2
                exact ⟨_, rfl, Kd.R_nil k61 61 _ _ _, pw_below_drewN (below_alloc HB.out _) _⟩
              · rw [if_neg hsh] at hap
                have HAP := Aside0.mk hap
                clear hap
                go_upto_region 16 with fail
                go_quiet (fail)
                go_upto_region 18 with fail
                obtain ⟨vb, hvb⟩ : ∃ z, f b = z := ⟨_, rfl⟩
                rw [hvb] at hfb0 hfb1 HUP
                have X9 : (((wr.alloc (.cells #[.int .i64 a, .int .i64 b, .int .i64 m] 56)).drewN nq).drew).heap[g9]? = some (.cells (rowC f) 72 (0, 0)) := blk_drew (blk_drewN (blk_alloc H9.out _) _)
                have X11 : (((wr.alloc (.cells #[.int .i64 a, .int .i64 b, .int .i64 m] 56)).drewN nq).drew).heap[wr.heap.size]? = some (.cells #[.int .i64 a, .int .i64 b, .int .i64 m] 56 (0, 0)) := blk_drew (blk_drewN (blk_new wr _) _)
                have XB : Below w.heap.size w (((wr.alloc (.cells #[.int .i64 a, .int .i64 b, .int .i64 m] 56)).drewN nq).drew) := (pw_below_drewN (below_alloc HB.out _) _).drew
                have hne : g9 < wr.heap.size := blk_lt H9.out
                clear hya
                obtain ⟨g11, hg11⟩ : ∃ g, g = wr.heap.size := ⟨_, rfl⟩
                rw [← hg11] at X11 hne ⊢
                generalize hwA : (wr.alloc (.cells #[.int .i64 a, .int .i64 b, .int .i64 m] 56)).drewN nq = wA at X9 X11 XB ⊢
                clear hwA hg11
                have hz0 : wA.drew.cell? ⟨g11, 0, none⟩ = some (.int .i64 a) := (blk_cell X11 0).trans rfl
                have hz2 : wA.drew.cell? ⟨g11, 2, none⟩ = some (.int .i64 m) := (blk_cell X11 2).trans rfl
                have hya : wA.drew.cell? ⟨g9, a.toNat, none⟩ = some (.int .i64 va) := by
                  rw [blk_cell X9, rowC_get f (i := a.toNat) (by omega), Int.toNat_of_nonneg ha0, hva]
                have hfz : wA.drew.frozen? ⟨g9, a.toNat, none⟩ = false := blk_frozen X9 _
                have X9 := Aside0.mk X9
                have X11 := Aside0.mk X11
                have XB := Aside0.mk XB
                refine start_ (n := 9) (S := fun w' => w'.cell? ⟨g11, 0, none⟩ = some (.int .i64 a) ∧ w'.cell? ⟨g11, 2, none⟩ = some (.int .i64 m) ∧ w'.cell? ⟨g9, a.toNat, none⟩ = some (.int .i64 va)) (ds := [8]) #[false, false, false, false, false, false, false, false, false] (by kernel_rfl) rfl rfl ⟨hz0, hz2, hya⟩ (fun hHeld => ?_)
                refine with_tabW wash_Grind.tab18 wash_Grind.bits18 (fun HT_ HW_ => ?_)
                generalize wA.drew = wB at X9 X11 XB hz0 hz2 hya hfz hHeld ⊢
                refine pure_ (i := 0) (N := some 69) (v := ?_) (a' := ?_) #[true, false, false, false, false, false, false, false, false] rfl rfl (any_of HT_.out (by kernel_rfl)) (fun _ _ _ h => h) (Or.inl ⟨by rfl, ?_⟩) ?_ ?_
                rotate_left
                · intro w'
                  go_simp
                  with_reducible rfl
                rotate_left
                · simp only [Act.put, List.setIfInBounds_toArray, List.set_cons_zero, List.set_cons_succ, i64_w, i32_w]
                  rfl
                refine pure_ (i := 4) (N := some 73) (v := ?_) (a' := ?_) #[true, false, false, false, true, false, false, false, false] rfl rfl (any_of HT_.out (by kernel_rfl)) (fun _ _ _ h => h) (Or.inl ⟨by rfl, ?_⟩) ?_ ?_
                rotate_left
                · intro w'
                  go_simp
                  with_reducible rfl
                rotate_left
                · simp only [Act.put, List.setIfInBounds_toArray, List.set_cons_zero, List.set_cons_succ, i64_w, i32_w]
                  rfl
                refine take_ (i := 1) (N := some 70) (v := ?_) (a' := ?_) #[true, true, false, false, true, false, false, false, false] rfl rfl (take_ofW HT_.out HW_.out (by kernel_rfl)) (fun _ _ _ h => h) (Or.inl ⟨by rfl, ?_⟩) hHeld ?_ ?_
                rotate_left
                · rintro w' ⟨s0, s1, s2⟩
                  go_simp
                  with_reducible rfl
                rotate_left
                · simp only [Act.put, List.setIfInBounds_toArray, List.set_cons_zero, List.set_cons_succ, i64_w, i32_w]
                  rfl
                refine take_ (i := 5) (N := some 74) (v := ?_) (a' := ?_) #[true, true, false, false, true, true, false, false, false] rfl rfl (take_ofW HT_.out HW_.out (by kernel_rfl)) (fun _ _ _ h => h) (Or.inl ⟨by rfl, ?_⟩) hHeld ?_ ?_
                rotate_left
                · rintro w' ⟨s0, s1, s2⟩
                  go_simp
                  with_reducible rfl
                rotate_left
                · simp only [Act.put, List.setIfInBounds_toArray, List.set_cons_zero, List.set_cons_succ, i64_w, i32_w]
                  rfl
                refine pure_ (i := 2) (N := some 71) (v := ?_) (a' := ?_) #[true, true, true, false, true, true, false, false, false] rfl rfl (any_of HT_.out (by kernel_rfl)) (fun _ _ _ h => h) (Or.inl ⟨by rfl, ?_⟩) ?_ ?_
                rotate_left
                · intro w'
                  go_simp
                  with_reducible rfl
                rotate_left
                · simp only [Act.put, List.setIfInBounds_toArray, List.set_cons_zero, List.set_cons_succ, i64_w, i32_w]
                  rfl
                refine take_ (i := 3) (N := some 72) (v := ?_) (a' := ?_) #[true, true, true, true, true, true, false, false, false] rfl rfl (take_ofW HT_.out HW_.out (by kernel_rfl)) (fun _ _ _ h => h) (Or.inl ⟨by rfl, ?_⟩) hHeld ?_ ?_
                rotate_left
                · rintro w' ⟨s0, s1, s2⟩
                  go_simp
                  with_reducible rfl
                rotate_left
                · simp only [Act.put, List.setIfInBounds_toArray, List.set_cons_zero, List.set_cons_succ, i64_w, i32_w]
                  rfl
                refine pure_ (i := 6) (N := some 75) (v := ?_) (a' := ?_) #[true, true, true, true, true, true, true, false, false] rfl rfl (any_of HT_.out (by kernel_rfl)) (fun _ _ _ h => h) (Or.inl ⟨by rfl, ?_⟩) ?_ ?_
                rotate_left
                · intro w'
                  go_simp
                  with_reducible rfl
                rotate_left
                · simp only [Act.put, List.setIfInBounds_toArray, List.set_cons_zero, List.set_cons_succ, i64_w, i32_w]
                  rfl
                refine pure_ (i := 7) (N := some 76) (v := ?_) (a' := ?_) #[true, true, true, true, true, true, true, true, false] rfl rfl (any_of HT_.out (by kernel_rfl)) (fun _ _ _ h => h) (Or.inl ⟨by rfl, ?_⟩) ?_ ?_
                rotate_left
                · intro w'
                  go_simp
                  with_reducible rfl
                rotate_left
                · simp only [Act.put, List.setIfInBounds_toArray, List.set_cons_zero, List.set_cons_succ, i64_w, i32_w]
                  rfl
                refine last_ (i := 8) (N := none) #[true, true, true, true, true, true, true, true, true] rfl rfl (one_of HT_.out (by kernel_rfl)) (by decide) (fun K hK => ?_)
                refine skip_ (w1 := ?_) (by rfl) rfl ?_ ?_
                rotate_left
                · go_simp
                  rfl
                refine hK.out _ _ ?_
                clear hK K
                refine done_ (done_of HT_.out (by kernel_rfl)) ?_
                rw [wr_id (a := va - m) (by omega) (by omega)]
                have Y9 : ((wB.setCell ⟨g9, a.toNat, none⟩ (.int .i64 (va - m))).drew).heap[g9]? = some (.cells (rowC (updF f a (va - m))) 72 (0, 0)) := by
                  have h := blk_set X9.out a.toNat (.int .i64 (va - m))
                  rw [rowC_set _ (by omega), Int.toNat_of_nonneg ha0] at h
                  exact blk_drew h
                have Y11 : ((wB.setCell ⟨g9, a.toNat, none⟩ (.int .i64 (va - m))).drew).heap[g11]? = some (.cells #[.int .i64 a, .int .i64 b, .int .i64 m] 56 (0, 0)) := blk_drew (blk_far X11.out (by show g11 ≠ g9; omega) _)
                have YB : Below w.heap.size w ((wB.setCell ⟨g9, a.toNat, none⟩ (.int .i64 (va - m))).drew) := (below_set XB.out HNE.out).drew
                clear X9 X11 XB hz0 hz2 hya hfz hHeld
                go_upto_region 19 with fail
                generalize hwC : wB.setCell ⟨g9, a.toNat, none⟩ (.int .i64 (va - m)) = wC at Y9 Y11 YB ⊢
                clear hwC
                have hz1 : wC.drew.cell? ⟨g11, 1, none⟩ = some (.int .i64 b) := (blk_cell Y11 1).trans rfl
                have hz2 : wC.drew.cell? ⟨g11, 2, none⟩ = some (.int .i64 m) := (blk_cell Y11 2).trans rfl
                have hyb : wC.drew.cell? ⟨g9, b.toNat, none⟩ = some (.int .i64 vb) := by
                  rw [blk_cell Y9, rowC_get _ (i := b.toNat) (by omega), Int.toNat_of_nonneg hb0]
                  simp only [updF]; rw [if_neg (by omega), hvb]
                have hfz : wC.drew.frozen? ⟨g9, b.toNat, none⟩ = false := blk_frozen Y9 _
                have X9 := Aside0.mk Y9
                have X11 := Aside0.mk Y11
                have XB := Aside0.mk YB
                clear Y9 Y11 YB HT_ HW_
                refine start_ (n := 9) (S := fun w' => w'.cell? ⟨g11, 1, none⟩ = some (.int .i64 b) ∧ w'.cell? ⟨g11, 2, none⟩ = some (.int .i64 m) ∧ w'.cell? ⟨g9, b.toNat, none⟩ = some (.int .i64 vb)) (ds := [8]) #[false, false, false, false, false, false, false, false, false] (by kernel_rfl) rfl rfl ⟨hz1, hz2, hyb⟩ (fun hHeld => ?_)
                refine with_tabW wash_Grind.tab19 wash_Grind.bits19 (fun HT_ HW_ => ?_)
                generalize wC.drew = wD at X9 X11 XB hz1 hz2 hyb hfz hHeld ⊢
                refine pure_ (i := 0) (N := some 77) (v := ?_) (a' := ?_) #[true, false, false, false, false, false, false, false, false] rfl rfl (any_of HT_.out (by kernel_rfl)) (fun _ _ _ h => h) (Or.inl ⟨by rfl, ?_⟩) ?_ ?_
                rotate_left
                · intro w'
                  go_simp
                  with_reducible rfl
                rotate_left
                · simp only [Act.put, List.setIfInBounds_toArray, List.set_cons_zero, List.set_cons_succ, i64_w, i32_w]
                  rfl
                refine pure_ (i := 4) (N := some 81) (v := ?_) (a' := ?_) #[true, false, false, false, true, false, false, false, false] rfl rfl (any_of HT_.out (by kernel_rfl)) (fun _ _ _ h => h) (Or.inl ⟨by rfl, ?_⟩) ?_ ?_
                rotate_left
                · intro w'
                  go_simp
                  with_reducible rfl
                rotate_left
                · simp only [Act.put, List.setIfInBounds_toArray, List.set_cons_zero, List.set_cons_succ, i64_w, i32_w]
                  rfl
                refine take_ (i := 1) (N := some 78) (v := ?_) (a' := ?_) #[true, true, false, false, true, false, false, false, false] rfl rfl (take_ofW HT_.out HW_.out (by kernel_rfl)) (fun _ _ _ h => h) (Or.inl ⟨by rfl, ?_⟩) hHeld ?_ ?_
                rotate_left
                · rintro w' ⟨s0, s1, s2⟩
                  go_simp
                  with_reducible rfl
                rotate_left
                · simp only [Act.put, List.setIfInBounds_toArray, List.set_cons_zero, List.set_cons_succ, i64_w, i32_w]
                  rfl
                refine take_ (i := 5) (N := some 82) (v := ?_) (a' := ?_) #[true, true, false, false, true, true, false, false, false] rfl rfl (take_ofW HT_.out HW_.out (by kernel_rfl)) (fun _ _ _ h => h) (Or.inl ⟨by rfl, ?_⟩) hHeld ?_ ?_
                rotate_left
                · rintro w' ⟨s0, s1, s2⟩
                  go_simp
                  with_reducible rfl
                rotate_left
                · simp only [Act.put, List.setIfInBounds_toArray, List.set_cons_zero, List.set_cons_succ, i64_w, i32_w]
                  rfl
                refine pure_ (i := 2) (N := some 79) (v := ?_) (a' := ?_) #[true, true, true, false, true, true, false, false, false] rfl rfl (any_of HT_.out (by kernel_rfl)) (fun _ _ _ h => h) (Or.inl ⟨by rfl, ?_⟩) ?_ ?_
                rotate_left
                · intro w'
                  go_simp
                  with_reducible rfl
                rotate_left
                · simp only [Act.put, List.setIfInBounds_toArray, List.set_cons_zero, List.set_cons_succ, i64_w, i32_w]
                  rfl
                refine take_ (i := 3) (N := some 80) (v := ?_) (a' := ?_) #[true, true, true, true, true, true, false, false, false] rfl rfl (take_ofW HT_.out HW_.out (by kernel_rfl)) (fun _ _ _ h => h) (Or.inl ⟨by rfl, ?_⟩) hHeld ?_ ?_
                rotate_left
                · rintro w' ⟨s0, s1, s2⟩
                  go_simp
                  with_reducible rfl
                rotate_left
                · simp only [Act.put, List.setIfInBounds_toArray, List.set_cons_zero, List.set_cons_succ, i64_w, i32_w]
                  rfl
                refine pure_ (i := 6) (N := some 83) (v := ?_) (a' := ?_) #[true, true, true, true, true, true, true, false, false] rfl rfl (any_of HT_.out (by kernel_rfl)) (fun _ _ _ h => h) (Or.inl ⟨by rfl, ?_⟩) ?_ ?_
                rotate_left
                · intro w'
                  go_simp
                  with_reducible rfl
                rotate_left
                · simp only [Act.put, List.setIfInBounds_toArray, List.set_cons_zero, List.set_cons_succ, i64_w, i32_w]
                  rfl
                refine pure_ (i := 7) (N := some 84) (v := ?_) (a' := ?_) #[true, true, true, true, true, true, true, true, false] rfl rfl (any_of HT_.out (by kernel_rfl)) (fun _ _ _ h => h) (Or.inl ⟨by rfl, ?_⟩) ?_ ?_
                rotate_left
                · intro w'
                  go_simp
                  with_reducible rfl
                rotate_left
                · simp only [Act.put, List.setIfInBounds_toArray, List.set_cons_zero, List.set_cons_succ, i64_w, i32_w]
                  rfl
                refine last_ (i := 8) (N := none) #[true, true, true, true, true, true, true, true, true] rfl rfl (one_of HT_.out (by kernel_rfl)) (by decide) (fun K hK => ?_)
                refine skip_ (w1 := ?_) (by rfl) rfl ?_ ?_
                rotate_left
                · go_simp
                  rfl
                refine hK.out _ _ ?_
                clear hK K
                refine done_ (done_of HT_.out (by kernel_rfl)) ?_
                rw [wr_id (a := vb + m) (by omega) (by omega)]
                have Y9 : (wD.setCell ⟨g9, b.toNat, none⟩ (.int .i64 (vb + m))).heap[g9]? = some (.cells (rowC (ap1 f ⟨a, b, m⟩)) 72 (0, 0)) := by
                  have h := blk_set X9.out b.toNat (.int .i64 (vb + m))
                  rw [rowC_set _ (by omega), Int.toNat_of_nonneg hb0, HUP.out] at h
                  exact h
                have YB : Below w.heap.size w (wD.setCell ⟨g9, b.toNat, none⟩ (.int .i64 (vb + m))) := below_set XB.out HNE.out
                have HFN : Aside0 (∀ s, 0 ≤ ap1 f ⟨a, b, m⟩ s ∧ ap1 f ⟨a, b, m⟩ s ≤ 600 + 100 * ((i + 1 : Nat) : Int)) := ⟨fun s => by
                  have h1 := HF.out s
                  simp only [ap1]
                  by_cases c : a = s
                  · rw [if_pos c, if_neg (by omega)]; rw [← c, hva]; omega
                  · rw [if_neg c]; split <;> omega⟩
                clear X9 X11 XB hz1 hz2 hyb hfz hHeld
                generalize hwE : wD.setCell ⟨g9, b.toNat, none⟩ (.int .i64 (vb + m)) = wE at Y9 YB ⊢
                clear hwE hva hvb
                have Y9 := Aside0.mk Y9
                have YB := Aside0.mk YB
                go_wp2_with fail
                go_roundg (l1.length - (i + 1))
                case measure => omega
                case rel => exact ⟨i + 1, ap1 f ⟨a, b, m⟩, by omega, by omega, by go_num, HAP, HFN, Y9, YB⟩
            · have hiz : ¬ (i : Int) < (l1.length : Int) := by omega
              have hap := HAP.out
              rw [List.drop_of_length_le (by omega), aps] at hap
              have hq := HRR.out
              rw [hap, grindEnd] at hq
              have HQ := Aside0.mk hq
              have HCo := Aside0.mk (wash_collect.calls f)
              clear hap hq HAP HRR
              go_upto_region 22 with (first | ((with_reducible refine gate_dst (N := 86) rfl ?_); refine wpList_load_row rfl 72 (.tmp 9) rfl g9 rfl 72 (rowC f) (0, 0) _ H9.out Try.underlying72 rfl row_size ?_) | (go_at_call 34; (with_reducible refine (HCo.out _).mono ?_); rintro e w3 ⟨v3, rfl, ho, hb⟩; have HO3 := Aside0.mk (Kd.R_lower ho (below_size HB.out)); have HB3 := Aside0.mk (below_step HB.out hb); clear hb ho))
              obtain ⟨A3, c3, e3⟩ := Kd.R_slice HO3.out
              subst e3
              have HVd := Aside0.mk (wash_Validate.calls 10 A3 c3 (col 21 0 f) (vErr (col 21 0 f)) w3 (Kd.R_reads' HO3.out).2.2 (Kd.R_reads' HO3.out).2.1 (validate_eq _ 10 (Nat.le_refl _)))
              by_cases hv : vErr (col 21 0 f) = 0
              · have hq := HQ.out
                rw [if_pos hv] at hq
                have HQ2 := Aside0.mk hq
                rw [hv] at HVd
                clear hq HQ hv
                go_wp2_with (first | ((with_reducible refine gate_callee (f := 12) rfl ?_); refine goesL_ (some 89) rfl rfl Try.func12 (by kernel_rfl) rfl #[.slice A3 (col 21 0 f).length c3] rfl (by (try simp only [List.map_toArray, List.map_cons, List.map_nil]); first | done | rfl) ?_; (with_reducible refine HVd.out.mono ?_); rintro e w4 ⟨rfl, hb⟩; refine ⟨_, rfl, ?_⟩; have HO4 := Aside0.mk (Kd.R_below HO3.out hb); have HB4 := Aside0.mk (below_step HB3.out hb); clear hb))
                go_ret2
                obtain ⟨h1, h2⟩ := Prod.mk.inj HQ2.out
                subst h1; subst h2
                exact ⟨_, rfl, HO4.out, HB4.out⟩
              · have hq := HQ.out
                rw [if_neg hv] at hq
                have HQ2 := Aside0.mk hq
                obtain ⟨ev, hev⟩ : ∃ z, vErr (col 21 0 f) = z := ⟨_, rfl⟩
                rw [hev] at HVd HQ2 hv
                have hb0 : (ev != 0) = true := bne_iff_ne.mpr hv
                clear hq HQ hev
                go_wp2_with (first | ((with_reducible refine gate_callee (f := 12) rfl ?_); refine goesL_ (some 89) rfl rfl Try.func12 (by kernel_rfl) rfl #[.slice A3 (col 21 0 f).length c3] rfl (by (try simp only [List.map_toArray, List.map_cons, List.map_nil]); first | done | rfl) ?_; (with_reducible refine HVd.out.mono ?_); rintro e w4 ⟨rfl, hb⟩; refine ⟨_, rfl, ?_⟩; have HO4 := Aside0.mk (Kd.R_below HO3.out hb); have HB4 := Aside0.mk (below_step HB3.out hb); clear hb))
                go_ret2
                obtain ⟨h1, h2⟩ := Prod.mk.inj HQ2.out
                subst h1; subst h2
                exact ⟨_, rfl, Kd.R_nil k61 61 _ _ _, HB4.out⟩
  · rw [if_neg hv] at hR
    have HR := Aside0.mk hR
    clear hR
    have hb0 : (vErr l0 != 0) = true := bne_iff_ne.mpr hv
    obtain ⟨ev, hev⟩ : ∃ z, vErr l0 = z := ⟨_, rfl⟩
    rw [hev] at HV0 HR hb0 hv
    clear hev
    go_enter Try.func21, Try.ntmps21
    go_wp2_with (first | ((with_reducible refine gate_callee (f := 12) rfl ?_); refine goesL_ (some 15) rfl rfl Try.func12 (by kernel_rfl) rfl #[.slice A0 l0.length c0] rfl (by (try simp only [List.map_toArray, List.map_cons, List.map_nil]); first | done | rfl) ?_; (with_reducible refine HV0.out.mono ?_); rintro e w1 ⟨rfl, hb⟩; refine ⟨_, rfl, ?_⟩; have HBn := Aside0.mk (below_step HBw.out hb); clear hb))
    go_ret2
    obtain ⟨h1, h2⟩ := Prod.mk.inj HR.out
    subst h1; subst h2
    exact ⟨_, rfl, Kd.R_nil k61 61 _ _ _, HBn.out⟩
end Go.Proofs.Ytcelibdkicfgkaa.P
