/- Parts of the proof of the law TopSecrets: walks of functions that it reaches, and plain facts about numbers, lists and curves; without a condition. -/
import Derived.Test.YthlbjdiicmojfaaTopSecretsM1
import Derived.Deep.RegionWith
/-! Part H107. -/
/- The walk of the sum of two curves of one length. -/
namespace Go.Proofs.Ythlbjdiicmojfaa.P
open Go.RowKit Go.Proofs.YthlbjdiicmojfaaW.PrintWords Go.Proofs.YthlbjdiicmojfaaW.PrintLast Go.Proofs.YthlbjdiicmojfaaW.PrintMore
attribute [local go_sem] max2_int min2_int max_two min_two max_three min_three max_four min_four   -- for this text's walks alone
set_option linter.unusedVariables false
set_option linter.unusedSimpArgs false

/-! ### secret_curve_plus: function 107 -/
theorem mx_left {a b : Nat} (h : b ≤ a) : mx (a : Int) (b : Int) = (a : Int) := by unfold mx; (repeat' split) <;> omega
theorem rd_set_same {xs : List Int} {i : Int} (h : i < (xs.length : Int)) (h0 : 0 ≤ i) (v : Int) : rd (xs.set i.toNat v) i = v := by
  unfold rd
  rw [List.getD_eq_getElem?_getD, List.getElem?_set_self (by omega)]
  rfl
def secret_curve_plus.l0 : Nat → List Int → List Int → List Int → Int → Int → Option (List Int)
  | 0, _, _, _, _, _ => none
  | k + 1, x0, x1, x5, x14, x15 => if x15 < x14 then (if x15 < (x0.length : Int) then (if 0 ≤ x15 then (if x15 < (x5.length : Int) then ((some (x5.set (x15 : Int).toNat (wrap64 ((rd x5 x15) + (rd x0 x15))) : List Int)).bind fun y829 => (if x15 < (x1.length : Int) then ((secret_rest.f (wrap64 ((rd y829 x15) + (rd x1 x15)))).bind fun t834 => (secret_curve_plus.l0 k x0 x1 ((y829.set (x15 : Int).toNat (wrap64 ((rd y829 x15) + (rd x1 x15)))).set (x15 : Int).toNat t834) x14 (wrap64 (x15 + 1)))) else ((secret_rest.f (wrap64 ((rd x5 x15) + (rd x0 x15)))).bind fun t837 => (secret_curve_plus.l0 k x0 x1 (y829.set (x15 : Int).toNat t837) x14 (wrap64 (x15 + 1)))))) else (none)) else (none)) else (if x15 < (x1.length : Int) then (if 0 ≤ x15 then (if x15 < (x5.length : Int) then ((secret_rest.f (wrap64 ((rd x5 x15) + (rd x1 x15)))).bind fun t843 => (secret_curve_plus.l0 k x0 x1 ((x5.set (x15 : Int).toNat (wrap64 ((rd x5 x15) + (rd x1 x15)))).set (x15 : Int).toNat t843) x14 (wrap64 (x15 + 1)))) else (none)) else (none)) else (if 0 ≤ x15 then (if x15 < (x5.length : Int) then ((secret_rest.f (rd x5 x15)).bind fun t846 => (secret_curve_plus.l0 k x0 x1 (x5.set (x15 : Int).toNat t846) x14 (wrap64 (x15 + 1)))) else (none)) else (none)))) else (some x5)
def secret_curve_plus.f (k : Nat) (l0 : List Int) (l1 : List Int) : Option (List Int) := if 0 ≤ (mx (l0.length : Int) (l1.length : Int)) then (if (mx (l0.length : Int) (l1.length : Int) : Int).toNat ≤ 35184372088832 then ((some (List.replicate (mx (l0.length : Int) (l1.length : Int) : Int).toNat 0 : List Int)).bind fun y824 => (secret_curve_plus.l0 k l0 l1 y824 (y824.length : Int) 0)) else (none)) else (none)
def secret_curve_plus.T6 : Bool × List (List Nat × List Nat) := (true, [([], []), ([], []), ([0, 1], [0, 1]), ([2], [2]), ([], []), ([], []), ([4, 5], [4, 5]), ([6], [6]), ([3, 7], [3, 7]), ([0, 1, 0, 1, 2, 3, 4, 5, 6, 7, 8], [0, 1]), ([9, 8, 0, 1, 2, 3, 4, 5, 6, 7, 8], [8, 9])])
def secret_curve_plus.B6 : List Nat := [0, 0, 3, 7, 0, 0, 48, 112, 255, 511, 1023]
theorem secret_curve_plus.tab6 : rtab .any (opsOf Try.f107 6) = secret_curve_plus.T6 := by kernel_rfl
theorem secret_curve_plus.bits6 : waitsOk secret_curve_plus.T6.2 secret_curve_plus.B6 = true := by kernel_rfl
def secret_curve_plus.T8 : Bool × List (List Nat × List Nat) := (true, [([], []), ([], []), ([0, 1], [0, 1]), ([2], [2]), ([], []), ([], []), ([4, 5], [4, 5]), ([6], [6]), ([3, 7], [3, 7]), ([0, 1, 0, 1, 2, 3, 4, 5, 6, 7, 8], [0, 1]), ([9, 8, 0, 1, 2, 3, 4, 5, 6, 7, 8], [8, 9])])
def secret_curve_plus.B8 : List Nat := [0, 0, 3, 7, 0, 0, 48, 112, 255, 511, 1023]
theorem secret_curve_plus.tab8 : rtab .any (opsOf Try.f107 8) = secret_curve_plus.T8 := by kernel_rfl
theorem secret_curve_plus.bits8 : waitsOk secret_curve_plus.T8.2 secret_curve_plus.B8 = true := by kernel_rfl
set_option maxHeartbeats 8000000 in
set_option maxRecDepth 100000 in
theorem secret_curve_plus.calls (k : Nat) (A0 : Option Addr) (c0 : Nat) (l0 : List Int) (A1 : Option Addr) (c1 : Nat) (l1 : List Int) (r : List Int) (w : World) (hr0 : Kd.C (Kd.int .i64) w A0 l0.length l0) (hc0 : l0.length ≤ c0) (hr1 : Kd.C (Kd.int .i64) w A1 l1.length l1) (hc1 : l1.length ≤ c1) (hle : l1.length ≤ l0.length) (hle2 : l0.length ≤ l1.length) (h : secret_curve_plus.f k l0 l1 = some r) :
    Calls Try.prog 107 #[.slice A0 l0.length c0, .slice A1 l1.length c1] w fun e w' => ∃ v0_ : Value, e = .returned (v0_) ∧ Kd.R (Kd.int .i64) 3 w' w.heap.size (fun _ => True) v0_ r ∧ Below w.heap.size w w' := by
  have HR0 := Aside0.mk hr0
  have HC0 := Aside0.mk hc0
  clear hr0 hc0
  have HR1 := Aside0.mk hr1
  have HC1 := Aside0.mk hc1
  clear hr1 hc1
  have HB := Aside0.mk (Below.refl w.heap.size w)
  have H : (if 0 ≤ (mx (l0.length : Int) (l1.length : Int)) then (if (mx (l0.length : Int) (l1.length : Int) : Int).toNat ≤ 35184372088832 then ((some (List.replicate (mx (l0.length : Int) (l1.length : Int) : Int).toNat 0 : List Int)).bind fun y824 => (secret_curve_plus.l0 k l0 l1 y824 (y824.length : Int) 0)) else (none)) else (none)) = some r := h
  clear h
  rw [mx_left hle] at H
  have HLE := Aside0.mk hle2
  clear hle2
  by_cases c4 : 0 ≤ ((l0.length : Int))
  · rw [if_pos c4] at H
    have c4b0 := eq_true c4
    have c4b1 : decide (0 ≤ ((l0.length : Int))) = true := decide_eq_true c4
    clear c4
    by_cases c5 : (l0.length : Int).toNat ≤ 35184372088832
    · rw [if_pos c5] at H
      have c5b0 := eq_true c5
      have c5b1 : decide ((l0.length : Int).toNat ≤ 35184372088832) = true := decide_eq_true c5
      clear c5
      obtain ⟨y824, hy824⟩ : ∃ y_ : List Int, y_ = (List.replicate (l0.length : Int).toNat 0) := ⟨_, rfl⟩
      replace H : (secret_curve_plus.l0 k l0 l1 y824 (y824.length : Int) 0) = some r := by first | (rw [hy824]; with_reducible exact H) | (have H2_ := (Option.bind_some _ _).symm.trans H; rw [hy824]; with_reducible exact H2_) | (have H2_ := (Option.bind_some _ _).symm.trans H; with_reducible exact H2_) | with_reducible exact H | (rw [hy824]; exact H) | exact H
      have Ny824 := Aside0.mk hy824
      clear hy824
      have H' := Aside0.mk H
      clear H
      go_enter Try.func107, Try.ntmps107
      go_wp2_with (first | ((with_reducible refine gate_dst (N := 12) rfl ?_); refine Kd.R_make (Kd.int .i64) _ 3 rfl (N := 12) rfl 68 _ _ rfl (l0.length : Int) rfl rfl Try.underlying68 (.int .i64 0) 8 info3 rfl (by decide) (by omega) 0 (ok := fun _ => True) (okp := fun _ => True) rfl (fun _ hk => hk) trivial (of_decide_eq_true (by first | (with_reducible assumption) | assumption)) (Nat.le_trans (Nat.mul_le_mul_right _ (of_decide_eq_true (by first | (with_reducible assumption) | assumption) : (l0.length : Int).toNat ≤ 35184372088832)) (by omega)) (Below.refl _ _) (Nat.le_refl _) ?_; intro v825 w6 ho7 hb hg_ hnew_; clear hg_ hnew_; (first | rw [← Ny824.out] at ho7 | (simp only [Int.reduceToNat] at ho7; rw [← Ny824.out] at ho7)); have n0_ := Aside0.mk (Kd.R_lower ho7 (below_size (by repeat (first | (with_reducible first | exact HB.out | apply below_alloc | apply pw_below_drewN | apply below_drew1) | exact HB.out)))); have n1_ := Aside0.mk (below_step (by repeat (first | (with_reducible first | exact HB.out | apply below_alloc | apply pw_below_drewN | apply below_drew1) | exact HB.out)) hb); clear HB; have HO826 := n0_; have HB := n1_; clear n0_ n1_; clear hb ho7; obtain ⟨Ao8, co8, eo8⟩ := Kd.R_slice HO826.out; subst eo8))
      go_loopg [15] k (fun kq v15 w' => ∃ (x5_1 : List Int) (x15_1 : Int), v15 = .int .i64 x15_1 ∧ Aside0 (secret_curve_plus.l0 kq l0 l1 x5_1 (y824.length : Int) x15_1 = some r) ∧ Aside0 (kq ≤ k) ∧ Aside0 (Kd.R (Kd.int .i64) 3 w' w.heap.size (fun _ => True) (.slice Ao8 y824.length co8) x5_1) ∧ Aside0 (Below w.heap.size w w'))
      case atStart => exact ⟨(y824), (0), (by first | rfl | (simp; done) | (simp [*]; done)), H', ⟨Nat.le_refl _⟩, ⟨by (with_reducible repeat (first | apply Kd.R_alloc | apply Kd.R_drewN | apply Kd.R_drew)); exact HO826.out⟩, ⟨by repeat (first | (with_reducible first | exact HB.out | apply below_alloc | apply pw_below_drewN | apply below_drew1) | exact HB.out)⟩⟩
      case round =>
        clear H'
        try clear c1
        try clear p2
        try clear c4
        try clear c4b0
        try clear c4b1
        try clear c5
        try clear c5b0
        try clear c5b1
        obtain ⟨x5_1, x15_1, rfl, HA, HK1, HO_5, HB⟩ := hrel
        have hl5_1 := (Kd.R_reads' HO_5.out).1
        rw [hl5_1] at HO_5
        (try simp only [hl5_1])
        cases gk with
        | zero => exact absurd HA.out (by simp [secret_curve_plus.l0])
        | succ k1 =>
          have H := HA.out
          clear HA
          simp only [secret_curve_plus.l0] at H
          by_cases c9 : x15_1 < (y824.length : Int)
          · rw [if_pos c9] at H
            have c9b0 : decide (x15_1 < (y824.length : Int)) = true := decide_eq_true c9
            clear c9
            by_cases c10 : x15_1 < (l0.length : Int)
            · rw [if_pos c10] at H
              have c10b0 : decide (x15_1 < (l0.length : Int)) = true := decide_eq_true c10
              clear c10
              by_cases c11 : 0 ≤ x15_1
              · rw [if_pos c11] at H
                have c11b0 : decide (0 ≤ x15_1) = true := decide_eq_true c11
                clear c11
                by_cases c12 : x15_1 < (x5_1.length : Int)
                · rw [if_pos c12] at H
                  have c12b0 : decide (x15_1 < (x5_1.length : Int)) = true := decide_eq_true c12
                  clear c12
                  obtain ⟨y829, hy829⟩ : ∃ y_ : List Int, y_ = (x5_1.set (x15_1 : Int).toNat (wrap64 ((rd x5_1 x15_1) + (rd l0 x15_1)))) := ⟨_, rfl⟩
                  replace H : (if x15_1 < (l1.length : Int) then ((secret_rest.f (wrap64 ((rd y829 x15_1) + (rd l1 x15_1)))).bind fun t834 => (secret_curve_plus.l0 k1 l0 l1 ((y829.set (x15_1 : Int).toNat (wrap64 ((rd y829 x15_1) + (rd l1 x15_1)))).set (x15_1 : Int).toNat t834) (y824.length : Int) (wrap64 (x15_1 + 1)))) else ((secret_rest.f (wrap64 ((rd x5_1 x15_1) + (rd l0 x15_1)))).bind fun t837 => (secret_curve_plus.l0 k1 l0 l1 (y829.set (x15_1 : Int).toNat t837) (y824.length : Int) (wrap64 (x15_1 + 1))))) = some r := by first | (rw [hy829]; with_reducible exact H) | (have H2_ := (Option.bind_some _ _).symm.trans H; rw [hy829]; with_reducible exact H2_) | (have H2_ := (Option.bind_some _ _).symm.trans H; with_reducible exact H2_) | with_reducible exact H | (rw [hy829]; exact H) | exact H
                  have Ny829 := Aside0.mk hy829
                  clear hy829
                  by_cases c14 : x15_1 < (l1.length : Int)
                  · rw [if_pos c14] at H
                    have c14b0 : decide (x15_1 < (l1.length : Int)) = true := decide_eq_true c14
                    clear c14
                    obtain ⟨y832, hy832⟩ : ∃ y_ : List Int, y_ = (y829.set (x15_1 : Int).toNat (wrap64 ((rd y829 x15_1) + (rd l1 x15_1)))) := ⟨_, rfl⟩
                    replace H : ((secret_rest.f (wrap64 ((rd y829 x15_1) + (rd l1 x15_1)))).bind fun t834 => (secret_curve_plus.l0 k1 l0 l1 (y832.set (x15_1 : Int).toNat t834) (y824.length : Int) (wrap64 (x15_1 + 1)))) = some r := by first | (rw [hy832]; with_reducible exact H) | (have H2_ := (Option.bind_some _ _).symm.trans H; rw [hy832]; with_reducible exact H2_) | (have H2_ := (Option.bind_some _ _).symm.trans H; with_reducible exact H2_) | with_reducible exact H | (rw [hy832]; exact H) | exact H
                    have Ny832 := Aside0.mk hy832
                    clear hy832
                    replace H := Option.bind_eq_some_iff.mp H
                    obtain ⟨t834, A170, H⟩ := H
                    replace H : (secret_curve_plus.l0 k1 l0 l1 (y832.set (x15_1 : Int).toNat t834) (y824.length : Int) (wrap64 (x15_1 + 1))) = some r := H
                    have A17 := Aside0.mk A170
                    clear A170
                    obtain ⟨y835, hy835⟩ : ∃ y_ : List Int, y_ = (y832.set (x15_1 : Int).toNat t834) := ⟨_, rfl⟩
                    replace H : (secret_curve_plus.l0 k1 l0 l1 y835 (y824.length : Int) (wrap64 (x15_1 + 1))) = some r := by first | (rw [hy835]; with_reducible exact H) | (have H2_ := (Option.bind_some _ _).symm.trans H; rw [hy835]; with_reducible exact H2_) | (have H2_ := (Option.bind_some _ _).symm.trans H; with_reducible exact H2_) | with_reducible exact H | (rw [hy835]; exact H) | exact H
                    have Ny835 := Aside0.mk hy835
                    clear hy835
                    have H' := Aside0.mk H
                    clear H
                    try go_wp2
                    have n0_ := Aside0.mk (Kd.R_drew HO_5.out)
                    have n1_ := Aside0.mk (below_drew1 HB.out)
                    clear HO_5
                    clear HB
                    have HO_5 := n0_
                    have HB := n1_
                    clear n0_ n1_
                    have p827 : 0 ≤ (x15_1 : Int) := of_decide_eq_true (by first | (with_reducible assumption) | assumption)
                    have q827 : x15_1 < (x5_1.length : Int) := of_decide_eq_true (by first | (with_reducible assumption) | assumption)
                    obtain ⟨ad827, e827, hx827_0⟩ := Kd.at_int (Kd.R_reads' HO_5.out).2.2 x15_1 p827 q827
                    cases e827
                    replace p827 := eq_true p827
                    replace q827 := eq_true q827
                    have p828 : 0 ≤ (x15_1 : Int) := of_decide_eq_true (by first | (with_reducible assumption) | assumption)
                    have q828 : x15_1 < (l0.length : Int) := of_decide_eq_true (by first | (with_reducible assumption) | assumption)
                    obtain ⟨ad828, e828, hx828_0⟩ := Kd.at_int HR0.out x15_1 p828 q828
                    have hw828_0 := hx828_0
                    cases e828
                    replace hx828_0 := (HB.out.cell (World.block_lt_of_cell? w _ hx828_0)).trans hx828_0
                    replace p828 := eq_true p828
                    replace q828 := eq_true q828
                    have p13 : 0 ≤ (x15_1 : Int) := of_decide_eq_true (by first | (with_reducible assumption) | assumption)
                    have q13 : (x15_1 : Int) < ((x5_1.length : Int) : Int) := of_decide_eq_true (by first | (with_reducible assumption) | assumption)
                    obtain ⟨go13, co13, eo13, gb13, gl13, cl13, HG13⟩ := Kd.R_form HO_5.out (by omega)
                    (first | cases eo13 | (injection eo13 with ea_ en_ ec_; (first | subst ea_ | (injection ea_ with ea_; subst ea_)); subst ec_; clear en_))
                    have GB13 := Aside0.mk gb13
                    have GG13 := Aside0.mk HG13
                    clear gb13 gl13 HG13
                    (first | simp only [add_plain] at hx827_0 | skip)
                    obtain ⟨hx13_0, hf13_0⟩ := Kd.R_celln 0 HO_5.out (x15_1 : Int) p13 q13
                    replace p13 := eq_true p13
                    replace q13 := eq_true q13
                    have HP20 := Kd.R_putn HO_5.out (x15_1 : Int) (wrap64 ((rd x5_1 x15_1) + (rd l0 x15_1)))
                    rw [← Ny829.out] at HP20
                    have HQ20 := Aside0.mk HP20
                    clear HP20
                    refine start_ (n := 11) (S := fun w' => w'.cell? ⟨go13, (x15_1).toNat, none⟩ = some (.int .i64 (rd x5_1 x15_1)) ∧ w'.cell? (ad828.add (x15_1).toNat) = some (.int .i64 (rd l0 x15_1))) (ds := [10]) #[false, false, false, false, false, false, false, false, false, false, false] (by kernel_rfl) rfl rfl ⟨hx827_0, ((HB.out.cell (World.block_lt_of_cell? w _ hw828_0)).trans hw828_0)⟩ (fun hHeld => ?_); refine with_tabW secret_curve_plus.tab6 secret_curve_plus.bits6 (fun HT_ HW_ => ?_)
                    generalize wr.drew = w19 at HO_5 HB GG13 HQ20 hf13_0 hx13_0 hx827_0 hx828_0 hHeld ⊢
                    refine pure_ (i := 0) (N := some 22) (v := ?_) (a' := ?_) #[true, false, false, false, false, false, false, false, false, false, false] rfl rfl (any_of HT_.out (by kernel_rfl)) (fun _ _ _ h => h) (Or.inl ⟨by rfl, ?_⟩) ?_ ?_
                    rotate_left
                    · intro w'
                      go_simp
                      with_reducible rfl
                    rotate_left
                    · simp only [Act.put, List.setIfInBounds_toArray, List.set_cons_zero, List.set_cons_succ, i64_w, i32_w]
                      rfl
                    refine pure_ (i := 1) (N := some 23) (v := ?_) (a' := ?_) #[true, true, false, false, false, false, false, false, false, false, false] rfl rfl (any_of HT_.out (by kernel_rfl)) (fun _ _ _ h => h) (Or.inl ⟨by rfl, ?_⟩) ?_ ?_
                    rotate_left
                    · intro w'
                      go_simp
                      with_reducible rfl
                    rotate_left
                    · simp only [Act.put, List.setIfInBounds_toArray, List.set_cons_zero, List.set_cons_succ, i64_w, i32_w]
                      rfl
                    refine pure_ (i := 2) (N := some 24) (v := ?_) (a' := ?_) #[true, true, true, false, false, false, false, false, false, false, false] rfl rfl (any_of HT_.out (by kernel_rfl)) (fun _ _ _ h => h) (Or.inl ⟨by rfl, ?_⟩) ?_ ?_
                    rotate_left
                    · intro w'
                      go_simp
                      with_reducible rfl
                    rotate_left
                    · simp only [Act.put, List.setIfInBounds_toArray, List.set_cons_zero, List.set_cons_succ, i64_w, i32_w]
                      rfl
                    refine pure_ (i := 4) (N := some 26) (v := ?_) (a' := ?_) #[true, true, true, false, true, false, false, false, false, false, false] rfl rfl (any_of HT_.out (by kernel_rfl)) (fun _ _ _ h => h) (Or.inl ⟨by rfl, ?_⟩) ?_ ?_
                    rotate_left
                    · intro w'
                      go_simp
                      with_reducible rfl
                    rotate_left
                    · simp only [Act.put, List.setIfInBounds_toArray, List.set_cons_zero, List.set_cons_succ, i64_w, i32_w]
                      rfl
                    refine pure_ (i := 5) (N := some 27) (v := ?_) (a' := ?_) #[true, true, true, false, true, true, false, false, false, false, false] rfl rfl (any_of HT_.out (by kernel_rfl)) (fun _ _ _ h => h) (Or.inl ⟨by rfl, ?_⟩) ?_ ?_
                    rotate_left
                    · intro w'
                      go_simp
                      with_reducible rfl
                    rotate_left
                    · simp only [Act.put, List.setIfInBounds_toArray, List.set_cons_zero, List.set_cons_succ, i64_w, i32_w]
                      rfl
                    refine pure_ (i := 6) (N := some 28) (v := ?_) (a' := ?_) #[true, true, true, false, true, true, true, false, false, false, false] rfl rfl (any_of HT_.out (by kernel_rfl)) (fun _ _ _ h => h) (Or.inl ⟨by rfl, ?_⟩) ?_ ?_
                    rotate_left
                    · intro w'
                      go_simp
                      with_reducible rfl
                    rotate_left
                    · simp only [Act.put, List.setIfInBounds_toArray, List.set_cons_zero, List.set_cons_succ, i64_w, i32_w]
                      rfl
                    refine take_ (i := 3) (N := some 25) (v := ?_) (a' := ?_) #[true, true, true, true, true, true, true, false, false, false, false] rfl rfl (take_ofW HT_.out HW_.out (by kernel_rfl)) (fun _ _ _ h => h) (Or.inl ⟨by rfl, ?_⟩) hHeld ?_ ?_
                    rotate_left
                    · rintro w' ⟨s0, s1⟩
                      go_simp
                      with_reducible rfl
                    rotate_left
                    · simp only [Act.put, List.setIfInBounds_toArray, List.set_cons_zero, List.set_cons_succ, i64_w, i32_w]
                      rfl
                    refine take_ (i := 7) (N := some 29) (v := ?_) (a' := ?_) #[true, true, true, true, true, true, true, true, false, false, false] rfl rfl (take_ofW HT_.out HW_.out (by kernel_rfl)) (fun _ _ _ h => h) (Or.inl ⟨by rfl, ?_⟩) hHeld ?_ ?_
                    rotate_left
                    · rintro w' ⟨s0, s1⟩
                      go_simp
                      with_reducible rfl
                    rotate_left
                    · simp only [Act.put, List.setIfInBounds_toArray, List.set_cons_zero, List.set_cons_succ, i64_w, i32_w]
                      rfl
                    refine pure_ (i := 8) (N := some 30) (v := ?_) (a' := ?_) #[true, true, true, true, true, true, true, true, true, false, false] rfl rfl (any_of HT_.out (by kernel_rfl)) (fun _ _ _ h => h) (Or.inl ⟨by rfl, ?_⟩) ?_ ?_
                    rotate_left
                    · intro w'
                      go_simp
                      with_reducible rfl
                    rotate_left
                    · simp only [Act.put, List.setIfInBounds_toArray, List.set_cons_zero, List.set_cons_succ, i64_w, i32_w]
                      rfl
                    refine pure_ (i := 9) (N := some 31) (v := ?_) (a' := ?_) #[true, true, true, true, true, true, true, true, true, true, false] rfl rfl (any_of HT_.out (by kernel_rfl)) (fun _ _ _ h => h) (Or.inl ⟨by rfl, ?_⟩) ?_ ?_
                    rotate_left
                    · intro w'
                      go_simp
                      with_reducible rfl
                    rotate_left
                    · simp only [Act.put, List.setIfInBounds_toArray, List.set_cons_zero, List.set_cons_succ, i64_w, i32_w]
                      rfl
                    refine last_ (i := 10) (N := none) #[true, true, true, true, true, true, true, true, true, true, true] rfl rfl (one_of HT_.out (by kernel_rfl)) (by decide) (fun K hK => ?_)
                    refine skip_ (w1 := ?_) (by rfl) rfl ?_ ?_
                    rotate_left
                    · go_simp
                      rfl
                    refine hK.out _ _ ?_
                    clear hK K
                    refine done_ (done_of HT_.out (by kernel_rfl)) ?_
                    try go_wp2
                    have n0_ : Aside0 (Kd.R (Kd.int .i64) 3 (w19.setCell ⟨go13, (x15_1 : Int).toNat, none⟩ (.int .i64 (wrap64 ((rd x5_1 x15_1) + (rd l0 x15_1))))) w.heap.size (fun _ => True) (.slice (some ⟨go13, 0, none⟩) x5_1.length co8) y829) := ⟨by (with_reducible repeat (first | apply Kd.R_alloc | apply Kd.R_drewN | apply Kd.R_drew)); exact HQ20.out⟩
                    have n1_ : Aside0 (Below w.heap.size w (w19.setCell ⟨go13, (x15_1 : Int).toNat, none⟩ (.int .i64 (wrap64 ((rd x5_1 x15_1) + (rd l0 x15_1)))))) := ⟨by repeat (first | (with_reducible first | exact HB.out | apply below_alloc | apply pw_below_drewN | apply below_drew1 | refine below_set ?_ GB13.out) | exact HB.out)⟩
                    (try clear HO_5)
                    (try clear HB)
                    generalize (w19.setCell ⟨go13, (x15_1 : Int).toNat, none⟩ (.int .i64 (wrap64 ((rd x5_1 x15_1) + (rd l0 x15_1))))) = w21 at n0_ n1_ ⊢
                    have HO_5 := n0_
                    have HB := n1_
                    clear n0_ n1_
                    have n0_ := Aside0.mk (Kd.R_drew HO_5.out)
                    have n1_ := Aside0.mk (below_drew1 HB.out)
                    clear HO_5
                    clear HB
                    have HO_5 := n0_
                    have HB := n1_
                    clear n0_ n1_
                    have p830 : 0 ≤ (x15_1 : Int) := of_decide_eq_true (by first | (with_reducible assumption) | assumption)
                    have q830 : x15_1 < (y829.length : Int) := (by have h_ : (x15_1 : Int) < ((x5_1.length : Int) : Int) := of_decide_eq_true (by first | (with_reducible assumption) | assumption); first | (have e_ := (Kd.R_reads' HO_5.out).1; omega) | simpa only [Ny829.out, List.length_set] using h_)
                    have ql830 : ((x15_1 : Int) < ((x5_1.length : Int) : Int)) = True := eq_true (of_decide_eq_true (by first | (with_reducible assumption) | assumption))
                    obtain ⟨ad830, e830, hx830_0⟩ := Kd.at_int (Kd.R_reads' HO_5.out).2.2 x15_1 p830 q830
                    obtain rfl : (⟨go13, 0, none⟩ : Addr) = ad830 := (by injection e830)
                    (first | simp only [add_plain] at hx830_0 | simp only [add_at] at hx830_0 | simp only [Addr.add, Nat.zero_add] at hx830_0 | skip)
                    replace p830 := eq_true p830
                    replace q830 := eq_true q830
                    have p831 : 0 ≤ (x15_1 : Int) := of_decide_eq_true (by first | (with_reducible assumption) | assumption)
                    have q831 : x15_1 < (l1.length : Int) := of_decide_eq_true (by first | (with_reducible assumption) | assumption)
                    obtain ⟨ad831, e831, hx831_0⟩ := Kd.at_int HR1.out x15_1 p831 q831
                    have hw831_0 := hx831_0
                    cases e831
                    replace hx831_0 := (HB.out.cell (World.block_lt_of_cell? w _ hx831_0)).trans hx831_0
                    replace p831 := eq_true p831
                    replace q831 := eq_true q831
                    have p15 : 0 ≤ (x15_1 : Int) := of_decide_eq_true (by first | (with_reducible assumption) | assumption)
                    have q15 : (x15_1 : Int) < ((x5_1.length : Int) : Int) := of_decide_eq_true (by first | (with_reducible assumption) | assumption)
                    obtain ⟨hx15_0, hf15_0⟩ := Kd.R_celln 0 HO_5.out (x15_1 : Int) p15 q15
                    replace p15 := eq_true p15
                    replace q15 := eq_true q15
                    have HP23 := Kd.R_putn HO_5.out (x15_1 : Int) (wrap64 ((rd y829 x15_1) + (rd l1 x15_1)))
                    rw [← Ny832.out] at HP23
                    have HQ23 := Aside0.mk HP23
                    clear HP23
                    refine start_ (n := 11) (S := fun w' => w'.cell? ⟨go13, (x15_1).toNat, none⟩ = some (.int .i64 (rd y829 x15_1)) ∧ w'.cell? (ad831.add (x15_1).toNat) = some (.int .i64 (rd l1 x15_1))) (ds := [10]) #[false, false, false, false, false, false, false, false, false, false, false] (by kernel_rfl) rfl rfl ⟨hx830_0, ((HB.out.cell (World.block_lt_of_cell? w _ hw831_0)).trans hw831_0)⟩ (fun hHeld => ?_); refine with_tabW secret_curve_plus.tab8 secret_curve_plus.bits8 (fun HT_ HW_ => ?_)
                    generalize w21.drew = w22 at HO_5 HB HQ20 HQ23 hf15_0 hx15_0 hx830_0 hx831_0 hHeld ⊢
                    refine pure_ (i := 0) (N := some 36) (v := ?_) (a' := ?_) #[true, false, false, false, false, false, false, false, false, false, false] rfl rfl (any_of HT_.out (by kernel_rfl)) (fun _ _ _ h => h) (Or.inl ⟨by rfl, ?_⟩) ?_ ?_
                    rotate_left
                    · intro w'
                      go_simp
                      with_reducible rfl
                    rotate_left
                    · simp only [Act.put, List.setIfInBounds_toArray, List.set_cons_zero, List.set_cons_succ, i64_w, i32_w]
                      rfl
                    refine pure_ (i := 1) (N := some 37) (v := ?_) (a' := ?_) #[true, true, false, false, false, false, false, false, false, false, false] rfl rfl (any_of HT_.out (by kernel_rfl)) (fun _ _ _ h => h) (Or.inl ⟨by rfl, ?_⟩) ?_ ?_
                    rotate_left
                    · intro w'
                      go_simp
                      with_reducible rfl
                    rotate_left
                    · simp only [Act.put, List.setIfInBounds_toArray, List.set_cons_zero, List.set_cons_succ, i64_w, i32_w]
                      rfl
                    refine pure_ (i := 2) (N := some 38) (v := ?_) (a' := ?_) #[true, true, true, false, false, false, false, false, false, false, false] rfl rfl (any_of HT_.out (by kernel_rfl)) (fun _ _ _ h => h) (Or.inl ⟨by rfl, ?_⟩) ?_ ?_
                    rotate_left
                    · intro w'
                      go_simp
                      with_reducible rfl
                    rotate_left
                    · simp only [Act.put, List.setIfInBounds_toArray, List.set_cons_zero, List.set_cons_succ, i64_w, i32_w]
                      rfl
                    refine pure_ (i := 4) (N := some 40) (v := ?_) (a' := ?_) #[true, true, true, false, true, false, false, false, false, false, false] rfl rfl (any_of HT_.out (by kernel_rfl)) (fun _ _ _ h => h) (Or.inl ⟨by rfl, ?_⟩) ?_ ?_
                    rotate_left
                    · intro w'
                      go_simp
                      with_reducible rfl
                    rotate_left
                    · simp only [Act.put, List.setIfInBounds_toArray, List.set_cons_zero, List.set_cons_succ, i64_w, i32_w]
                      rfl
                    refine pure_ (i := 5) (N := some 41) (v := ?_) (a' := ?_) #[true, true, true, false, true, true, false, false, false, false, false] rfl rfl (any_of HT_.out (by kernel_rfl)) (fun _ _ _ h => h) (Or.inl ⟨by rfl, ?_⟩) ?_ ?_
                    rotate_left
                    · intro w'
                      go_simp
                      with_reducible rfl
                    rotate_left
                    · simp only [Act.put, List.setIfInBounds_toArray, List.set_cons_zero, List.set_cons_succ, i64_w, i32_w]
                      rfl
                    refine pure_ (i := 6) (N := some 42) (v := ?_) (a' := ?_) #[true, true, true, false, true, true, true, false, false, false, false] rfl rfl (any_of HT_.out (by kernel_rfl)) (fun _ _ _ h => h) (Or.inl ⟨by rfl, ?_⟩) ?_ ?_
                    rotate_left
                    · intro w'
                      go_simp
                      with_reducible rfl
                    rotate_left
                    · simp only [Act.put, List.setIfInBounds_toArray, List.set_cons_zero, List.set_cons_succ, i64_w, i32_w]
                      rfl
                    refine take_ (i := 3) (N := some 39) (v := ?_) (a' := ?_) #[true, true, true, true, true, true, true, false, false, false, false] rfl rfl (take_ofW HT_.out HW_.out (by kernel_rfl)) (fun _ _ _ h => h) (Or.inl ⟨by rfl, ?_⟩) hHeld ?_ ?_
                    rotate_left
                    · rintro w' ⟨s0, s1⟩
                      go_simp
                      with_reducible rfl
                    rotate_left
                    · simp only [Act.put, List.setIfInBounds_toArray, List.set_cons_zero, List.set_cons_succ, i64_w, i32_w]
                      rfl
                    refine take_ (i := 7) (N := some 43) (v := ?_) (a' := ?_) #[true, true, true, true, true, true, true, true, false, false, false] rfl rfl (take_ofW HT_.out HW_.out (by kernel_rfl)) (fun _ _ _ h => h) (Or.inl ⟨by rfl, ?_⟩) hHeld ?_ ?_
                    rotate_left
                    · rintro w' ⟨s0, s1⟩
                      go_simp
                      with_reducible rfl
                    rotate_left
                    · simp only [Act.put, List.setIfInBounds_toArray, List.set_cons_zero, List.set_cons_succ, i64_w, i32_w]
                      rfl
                    refine pure_ (i := 8) (N := some 44) (v := ?_) (a' := ?_) #[true, true, true, true, true, true, true, true, true, false, false] rfl rfl (any_of HT_.out (by kernel_rfl)) (fun _ _ _ h => h) (Or.inl ⟨by rfl, ?_⟩) ?_ ?_
                    rotate_left
                    · intro w'
                      go_simp
                      with_reducible rfl
                    rotate_left
                    · simp only [Act.put, List.setIfInBounds_toArray, List.set_cons_zero, List.set_cons_succ, i64_w, i32_w]
                      rfl
                    refine pure_ (i := 9) (N := some 45) (v := ?_) (a' := ?_) #[true, true, true, true, true, true, true, true, true, true, false] rfl rfl (any_of HT_.out (by kernel_rfl)) (fun _ _ _ h => h) (Or.inl ⟨by rfl, ?_⟩) ?_ ?_
                    rotate_left
                    · intro w'
                      go_simp
                      with_reducible rfl
                    rotate_left
                    · simp only [Act.put, List.setIfInBounds_toArray, List.set_cons_zero, List.set_cons_succ, i64_w, i32_w]
                      rfl
                    refine last_ (i := 10) (N := none) #[true, true, true, true, true, true, true, true, true, true, true] rfl rfl (one_of HT_.out (by kernel_rfl)) (by decide) (fun K hK => ?_)
                    refine skip_ (w1 := ?_) (by rfl) rfl ?_ ?_
                    rotate_left
                    · go_simp
                      rfl
                    refine hK.out _ _ ?_
                    clear hK K
                    refine done_ (done_of HT_.out (by kernel_rfl)) ?_
                    have n0_ : Aside0 (Kd.R (Kd.int .i64) 3 (w22.setCell ⟨go13, (x15_1 : Int).toNat, none⟩ (.int .i64 (wrap64 ((rd y829 x15_1) + (rd l1 x15_1))))) w.heap.size (fun _ => True) (.slice (some ⟨go13, 0, none⟩) x5_1.length co8) y832) := ⟨by (with_reducible repeat (first | apply Kd.R_alloc | apply Kd.R_drewN | apply Kd.R_drew)); exact HQ23.out⟩
                    have n1_ : Aside0 (Below w.heap.size w (w22.setCell ⟨go13, (x15_1 : Int).toNat, none⟩ (.int .i64 (wrap64 ((rd y829 x15_1) + (rd l1 x15_1)))))) := ⟨by repeat (first | (with_reducible first | exact HB.out | apply below_alloc | apply pw_below_drewN | apply below_drew1 | refine below_set ?_ GB13.out) | exact HB.out)⟩
                    (try clear HO_5)
                    (try clear HB)
                    generalize (w22.setCell ⟨go13, (x15_1 : Int).toNat, none⟩ (.int .i64 (wrap64 ((rd y829 x15_1) + (rd l1 x15_1))))) = w24 at n0_ n1_ ⊢
                    have HO_5 := n0_
                    have HB := n1_
                    clear n0_ n1_
                    have q24 : x15_1 < (y832.length : Int) := by have h1 := (Kd.R_reads' HO_5.out).1; have h2 : x15_1 < (x5_1.length : Int) := of_decide_eq_true (by first | (with_reducible assumption) | assumption); omega
                    obtain ⟨ad24, e24, hx24⟩ := Kd.at_int (Kd.R_reads' HO_5.out).2.2 x15_1 (of_decide_eq_true (by first | (with_reducible assumption) | assumption)) q24
                    obtain rfl : (⟨go13, 0, none⟩ : Addr) = ad24 := (by injection e24)
                    simp only [add_plain] at hx24
                    have hrd24 : rd y832 x15_1 = wrap64 ((rd y829 x15_1) + (rd l1 x15_1)) := by rw [Ny832.out] at q24 ⊢; rw [List.length_set] at q24; exact rd_set_same q24 (of_decide_eq_true (by first | (with_reducible assumption) | assumption)) _
                    rw [hrd24] at hx24
                    clear hrd24 q24 e24
                    have p16 : 0 ≤ (x15_1 : Int) := of_decide_eq_true (by first | (with_reducible assumption) | assumption)
                    have q16 : (x15_1 : Int) < ((x5_1.length : Int) : Int) := of_decide_eq_true (by first | (with_reducible assumption) | assumption)
                    replace p16 := eq_true p16
                    replace q16 := eq_true q16
                    try go_wp2_with (first | ((with_reducible refine gate_callee (f := 96) rfl ?_); refine goesL_ (some 52) rfl rfl Try.func96 (by kernel_rfl) rfl #[.int .i64 (wrap64 ((rd y829 x15_1) + (rd l1 x15_1)))] rfl (by (try simp only [List.map_toArray, List.map_cons, List.map_nil]); first | done | rfl | (simp only [List.length_drop, List.length_take]; rfl)) ?_; (with_reducible refine (secret_rest.calls (wrap64 ((rd y829 x15_1) + (rd l1 x15_1))) t834 _ A17.out).mono ?_); rintro e w' ⟨rfl, ⟨nd, rfl⟩⟩; refine ⟨_, rfl, ?_⟩; (try (rw [drewN_self w24]; generalize hq_ : World.drewN w24 _ = w24; have n0_ : Aside0 (Kd.R (Kd.int .i64) 3 w24 w.heap.size (fun _ => True) (.slice (some ⟨go13, 0, none⟩) x5_1.length co8) y832) := ⟨by rw [← hq_]; exact (by (with_reducible repeat (first | apply Kd.R_alloc | apply Kd.R_drewN | apply Kd.R_drew)); exact HO_5.out)⟩; have n1_ : Aside0 (Below w.heap.size w w24) := ⟨by rw [← hq_]; exact (by repeat (first | (with_reducible first | exact HB.out | apply below_alloc | apply pw_below_drewN | apply below_drew1) | exact HB.out))⟩; clear HO_5 HB hq_; have HO_5 := n0_; have HB := n1_; clear n0_ n1_)); have p18 : 0 ≤ (x15_1 : Int) := of_decide_eq_true (by first | (with_reducible assumption) | assumption); have q18 : (x15_1 : Int) < ((x5_1.length : Int) : Int) := of_decide_eq_true (by first | (with_reducible assumption) | assumption); replace p18 := eq_true p18; replace q18 := eq_true q18; obtain ⟨hy25_, hz25_⟩ := Kd.R_celln 0 HO_5.out (x15_1 : Int) (of_decide_eq_true (by first | (with_reducible assumption) | assumption)) (of_decide_eq_true (by first | (with_reducible assumption) | assumption)); have HP25 := Kd.R_putg HO_5.out (x15_1 : Int) t834) | ((with_reducible refine gate_store (t := 3) (p := 53) rfl ?_); refine store_event (t := 3) (p := 53) (v := ?vo_w26) (w1 := (w24.setCell ⟨go13, (x15_1 : Int).toNat, none⟩ (.int .i64 t834))) ?hg ?ho ?hn ?hr ?_; (case ho => rfl); (case hg => rfl); (case hn => rfl); (case hr => first | (go_simp; done) | (go_simp; rfl)); intro w26 hw; have hg : w24.grownBy w26 (some go13) := (by rw [hw]; exact HP25.2); have hp_ : Kd.R (Kd.int .i64) 3 w26 w.heap.size (fun _ => True) (.slice (some ⟨go13, 0, none⟩) x5_1.length co8) y835 := (by rw [hw, Ny835.out]; exact HP25.1); clear HP25; have n0_ := Aside0.mk (hp_); have n1_ := Aside0.mk ((by rw [hw]; exact below_set (HB.out) GB13.out : Below w.heap.size w w26)); clear HO_5; clear HB; have HO_5 := n0_; have HB := n1_; clear n0_ n1_; clear hg hw hp_))
                    (try simp only [← hl5_1])
                    go_roundg k1
                    case measure => have := HK1.out; omega
                    case rel => exact ⟨(y835), (wrap64 (x15_1 + 1)), (by first | rfl | (simp; done) | (simp [*]; done)), H', ⟨by have := HK1.out; omega⟩, ⟨by (try simp only [hl5_1]); (with_reducible repeat (first | apply Kd.R_alloc | apply Kd.R_drewN | apply Kd.R_drew)); exact HO_5.out⟩, ⟨by repeat (first | (with_reducible first | exact HB.out | apply below_alloc | apply pw_below_drewN | apply below_drew1) | exact HB.out)⟩⟩
                  · exact absurd (of_decide_eq_true c10b0 : x15_1 < (l0.length : Int)) (by have := HLE.out; omega)
                · rw [if_neg c12] at H
                  exact absurd H (by simp)
              · rw [if_neg c11] at H
                exact absurd H (by simp)
            · exact absurd (of_decide_eq_true c9b0 : x15_1 < (y824.length : Int)) (by have h_ := Ny824.out; rw [h_, List.length_replicate]; omega)
          · rw [if_neg c9] at H
            have c9b0 : decide (x15_1 < (y824.length : Int)) = false := decide_eq_false c9
            have c9b1 : decide (x15_1 < (x5_1.length : Int)) = false := by rw [← hl5_1]; exact c9b0
            clear c9
            obtain rfl := Option.some.inj H
            go_wp2
            go_ret
            exact ⟨_, by first | rfl | (simp [errW_none, errW_some] <;> rfl) | (simp [*, errW_none, errW_some] <;> rfl), by (with_reducible repeat (first | apply Kd.R_alloc | apply Kd.R_drewN | apply Kd.R_drew)); exact HO_5.out, by repeat (first | (with_reducible first | exact HB.out | apply below_alloc | apply pw_below_drewN | apply below_drew1) | exact HB.out)⟩
    · rw [if_neg c5] at H
      exact absurd H (by simp)
  · rw [if_neg c4] at H
    exact absurd H (by simp)

end Go.Proofs.Ythlbjdiicmojfaa.P

/-! Part Arr. -/
namespace Go.Proofs.Ythlbjdiicmojfaa.P
open Go.RowKit Go.Proofs.YthlbjdiicmojfaaW.PrintWords Go.Proofs.YthlbjdiicmojfaaW.PrintLast Go.Proofs.YthlbjdiicmojfaaW.PrintMore

set_option linter.unusedVariables false
theorem rd_at (P : List Int) (x : Int) (q : List Int) {i : Int} (h : i = P.length) : rd (P ++ x :: q) i = x := by
  subst h; unfold rd; simp
theorem set_at (P : List Int) (x y : Int) (q : List Int) {i : Int} (h : i = P.length) : (P ++ x :: q).set i.toNat y = P ++ y :: q := by
  subst h; simp
theorem powIt_num (n : Int) : ∀ d x, num x = true → num (powIt n d x) = true
  | 0, _, h => h
  | d + 1, _, _ => powIt_num n d _ (num_mod _)
theorem num_invI (n : Int) : num (invI n) = true := by
  unfold invI
  exact powIt_num n 249 1 (by decide)

theorem inverse_loop (n : Int) (hn : num n = true) (d : Nat) : ∀ (k : Nat) (x m : Int), num x = true → 0 ≤ m → m + d = 249 → d < k → secret_inverse.l0 k n x m = some (powIt n d x) := by
  induction d with
  | zero =>
    intro k x m hx h0 hm hk
    obtain ⟨k, rfl⟩ : ∃ j, k = j + 1 := ⟨k - 1, by omega⟩
    simp only [secret_inverse.l0]
    rw [if_neg (by omega)]; rfl
  | succ d ih =>
    intro k x m hx h0 hm hk
    obtain ⟨k, rfl⟩ : ∃ j, k = j + 1 := ⟨k - 1, by omega⟩
    have h1 := num_iff.1 hx
    have h2 := num_iff.1 hn
    have h3 := mul_range h1.1 h1.2 h2.1 h2.2
    simp only [secret_inverse.l0]
    rw [if_pos (by omega), wrap_id (a := x * n) (by omega) (by omega), rest_eq, Option.bind_some, wrap_id (a := m + 1) (by omega) (by omega)]
    exact ih k _ _ (num_mod _) (by omega) (by omega) (by omega)
theorem inverse_eq (n : Int) (hn : num n = true) (k : Nat) (hk : 250 ≤ k) : secret_inverse.f k n = some (invI n) := by
  unfold secret_inverse.f invI
  exact inverse_loop n hn 249 k 1 0 rfl (by omega) (by omega) (by omega)

theorem mul3_range {a b c : Int} (ha0 : 0 ≤ a) (ha : a ≤ 250) (hb0 : 0 ≤ b) (hb : b ≤ 250) (hc0 : 0 ≤ c) (hc : c ≤ 250) : 0 ≤ a * b * c ∧ a * b * c ≤ 15625000 := by
  have h := mul_range ha0 ha hb0 hb
  have h1 : 0 ≤ a * b * c := Int.mul_nonneg h.1 hc0
  have h2 : a * b * c ≤ 62500 * 250 := Int.mul_le_mul h.2 hc hc0 (by omega)
  omega

theorem times_loop (less m : Int) (hl : num less = true) (hm : num m = true) (c : List Int) (hc : c.length ≤ 1000) : ∀ (rest c1 P : List Int) (carry : Int) (k : Nat), c = c1 ++ rest → P.length = c1.length → (∀ n ∈ rest, num n = true) → 0 ≤ carry → carry ≤ 62500 → rest.length < k →
    secret_curve_times.l0 k less m (P ++ (carry % 251) :: List.replicate rest.length 0) c (c.length : Int) (c1.length : Int) = some (P ++ timesL rest less m carry) := by
  intro rest
  induction rest with
  | nil =>
    intro c1 P carry k hcc hP hn h0 h1 hk
    obtain ⟨k, rfl⟩ : ∃ j, k = j + 1 := ⟨k - 1, by simp at hk; omega⟩
    subst hcc
    simp only [secret_curve_times.l0]
    rw [if_neg (by simp)]
    rfl
  | cons n rest ih =>
    intro c1 P carry k hcc hP hn h0 h1 hk
    obtain ⟨k, rfl⟩ : ∃ j, k = j + 1 := ⟨k - 1, by simp at hk; omega⟩
    have hlen : c.length = c1.length + (rest.length + 1) := by rw [hcc]; simp
    have hn1 := num_iff.1 (hn n (by simp))
    have hl1 := num_iff.1 hl
    have hm1 := num_iff.1 hm
    have r1 := mul_range hn1.1 hn1.2 hm1.1 hm1.2
    have r2 := mul_range hn1.1 hn1.2 hl1.1 hl1.2
    have r3 := mul3_range hn1.1 hn1.2 hl1.1 hl1.2 hm1.1 hm1.2
    have hrc : rd c (c1.length : Int) = n := by rw [hcc]; exact rd_at c1 n rest rfl
    have hl2 : (P ++ carry % 251 :: List.replicate (n :: rest).length 0).length = c1.length + 1 + (rest.length + 1) := by simp [hP]; omega
    have hrep : P ++ carry % 251 :: List.replicate (n :: rest).length 0 = (P ++ [carry % 251]) ++ 0 :: List.replicate rest.length 0 := by simp [List.replicate_succ]
    have hP1 : ((P ++ [carry % 251]).length : Int) = (c1.length : Int) + 1 := by simp [hP]
    simp only [secret_curve_times.l0]
    rw [if_pos (by omega), if_pos (by omega), if_pos (by omega), wrap_id (a := (c1.length : Int) + 1) (by omega) (by omega), if_pos (by omega), if_pos (by rw [hl2]; omega), hrc, wrap_id (a := n * m) (by omega) (by omega), wrap_id (a := n * less) (by omega) (by omega), wrap_id (a := n * less * m) (by omega) (by omega)]
    rw [hrep, rd_at _ 0 _ hP1.symm, Int.zero_add, wrap_id (a := n * m) (by omega) (by omega), rest_eq, Option.bind_some, Option.bind_some, set_at _ 0 _ _ hP1.symm]
    rw [if_pos (by simp [hP]; omega), List.append_assoc, List.cons_append, List.nil_append, rd_at P _ _ (by rw [hP]), wrap_id (by omega) (by omega), rest_eq, Option.bind_some, set_at P _ _ _ (by rw [hP])]
    have hsum : (carry % 251 - n * less * m) % 251 = (carry - n * less * m) % 251 := by omega
    rw [hsum]
    have := ih (c1 ++ [n]) (P ++ [(carry - n * less * m) % 251]) (n * m) k (by rw [hcc]; simp) (by simp [hP]) (fun x hx => hn x (by simp [hx])) r1.1 r1.2 (by simp at hk; omega)
    rw [List.append_assoc, List.append_assoc, List.length_append] at this
    exact this
theorem times_eq (c : List Int) (less m : Int) (hc : c.length ≤ 1000) (hn : ∀ n ∈ c, num n = true) (hl : num less = true) (hm : num m = true) (k : Nat) (hk : c.length < k) : secret_curve_times.f k c less m = some (timesL c less m 0) := by
  unfold secret_curve_times.f
  rw [wrap_id (a := (c.length : Int) + 1) (by omega) (by omega), if_pos (by omega), if_pos (by omega), show ((c.length : Int) + 1).toNat = c.length + 1 by omega, List.replicate_succ]
  exact times_loop less m hl hm c hc c [] [] 0 k rfl rfl hn (by omega) (by omega) hk
theorem timesL_length : ∀ (c : List Int) (less m carry : Int), (timesL c less m carry).length = c.length + 1
  | [], _, _, _ => rfl
  | n :: c, less, m, carry => by simp [timesL, timesL_length c]
theorem timesL_num : ∀ (c : List Int) (less m carry : Int), ∀ n ∈ timesL c less m carry, num n = true
  | [], _, _, _, n, h => by simp [timesL] at h; subst h; exact num_mod _
  | x :: c, less, m, carry, n, h => by
    simp only [timesL, List.mem_cons] at h
    rcases h with rfl | h
    · exact num_mod _
    · exact timesL_num c _ _ _ n h

theorem plus_loop (c d : List Int) (hc : c.length ≤ 1000) (hcd : c.length = d.length) : ∀ (rc rd' : List Int) (c1 d1 P : List Int) (k : Nat), c = c1 ++ rc → d = d1 ++ rd' → c1.length = d1.length → P.length = c1.length → (∀ n ∈ rc, num n = true) → (∀ n ∈ rd', num n = true) → rc.length < k →
    secret_curve_plus.l0 k c d (P ++ List.replicate rc.length 0) (c.length : Int) (c1.length : Int) = some (P ++ plusL rc rd') := by
  intro rc
  induction rc with
  | nil =>
    intro rd' c1 d1 P k h1 h2 h3 h4 _ _ hk
    obtain ⟨k, rfl⟩ : ∃ j, k = j + 1 := ⟨k - 1, by simp at hk; omega⟩
    subst h1
    simp only [secret_curve_plus.l0]
    rw [if_neg (by simp)]
    simp [plusL]
  | cons n rc ih =>
    intro rd' c1 d1 P k h1 h2 h3 h4 hn hm hk
    obtain ⟨k, rfl⟩ : ∃ j, k = j + 1 := ⟨k - 1, by simp at hk; omega⟩
    cases rd' with
    | nil =>
      rw [h1, h2] at hcd; simp at hcd; omega
    | cons m rd' =>
      have hlc : c.length = c1.length + (rc.length + 1) := by rw [h1]; simp
      have hld : d.length = d1.length + (rd'.length + 1) := by rw [h2]; simp
      have hn1 := num_iff.1 (hn n (by simp))
      have hm1 := num_iff.1 (hm m (by simp))
      have hrc : rd c (c1.length : Int) = n := by rw [h1]; exact rd_at c1 n rc rfl
      have hrd : rd d (c1.length : Int) = m := by rw [h2]; exact rd_at d1 m rd' (by rw [h3])
      have hl2 : (P ++ List.replicate (n :: rc).length 0).length = c1.length + (rc.length + 1) := by simp [h4]
      have hP : ((c1.length : Int)) = (P.length : Int) := by rw [h4]
      simp only [secret_curve_plus.l0]
      rw [if_pos (by omega), if_pos (by omega), if_pos (by omega), if_pos (by rw [hl2]; omega), hrc, hrd, wrap_id (a := (c1.length : Int) + 1) (by omega) (by omega)]
      rw [show P ++ List.replicate (n :: rc).length 0 = P ++ 0 :: List.replicate rc.length 0 by simp [List.replicate_succ], rd_at P _ _ hP, Int.zero_add, wrap_id (a := n) (by omega) (by omega), set_at P _ _ _ hP, Option.bind_some, if_pos (by omega), rd_at P _ _ hP, wrap_id (a := n + m) (by omega) (by omega), rest_eq, Option.bind_some, set_at P _ _ _ hP, set_at P _ _ _ hP]
      have := ih rd' (c1 ++ [n]) (d1 ++ [m]) (P ++ [(n + m) % 251]) k (by rw [h1]; simp) (by rw [h2]; simp) (by simp [h3]) (by simp [h4]) (fun x hx => hn x (by simp [hx])) (fun x hx => hm x (by simp [hx])) (by simp at hk; omega)
      rw [List.append_assoc, List.append_assoc, List.length_append] at this
      exact this
theorem plus_eq (c d : List Int) (hc : c.length ≤ 1000) (hcd : c.length = d.length) (hn : ∀ n ∈ c, num n = true) (hm : ∀ n ∈ d, num n = true) (k : Nat) (hk : c.length < k) : secret_curve_plus.f k c d = some (plusL c d) := by
  unfold secret_curve_plus.f
  rw [mx_left (by omega), if_pos (by omega), if_pos (by omega), Option.bind_some, Int.toNat_natCast]
  rw [List.length_replicate]
  exact plus_loop c d hc hcd c d [] [] [] k rfl rfl rfl rfl hn hm hk
theorem plusL_length (c d : List Int) : (plusL c d).length = min c.length d.length := by simp [plusL]
theorem plusL_num (c d : List Int) : ∀ n ∈ plusL c d, num n = true := by
  intro n hn
  unfold plusL at hn
  rw [List.mem_iff_getElem] at hn
  obtain ⟨i, hi, rfl⟩ := hn
  rw [List.getElem_zipWith]
  exact num_mod _

theorem basis_num (xi : Int) : ∀ (others c : List Int), (∀ n ∈ c, num n = true) → ∀ n ∈ basis xi others c, num n = true
  | [], c, h => h
  | x :: others, c, h => basis_num xi others _ (timesL_num _ _ _ _)
theorem basis_length (xi : Int) : ∀ (others c : List Int), (basis xi others c).length = c.length + others.length
  | [], c => rfl
  | x :: others, c => by
    show (basis xi others (timesL c x (invI ((xi - x) % 251)) 0)).length = _
    rw [basis_length xi others, timesL_length]; simp; omega
theorem basis_snoc (xi : Int) (others c : List Int) (x : Int) : basis xi (others ++ [x]) c = timesL (basis xi others c) x (invI ((xi - x) % 251)) 0 := by
  simp [basis]
theorem interpTo_succ (p : List (Int × Int)) (m : Nat) : interpTo p (m + 1) = plusL (interpTo p m) (oneL p m) := by
  simp [interpTo, List.range_succ]
theorem oneL_length (p : List (Int × Int)) (i : Nat) (hi : i < p.length) : (oneL p i).length = p.length := by
  unfold oneL
  rw [basis_length, List.length_eraseIdx, List.length_map, if_pos hi]
  simp; omega
theorem interpTo_length (p : List (Int × Int)) : ∀ m, m ≤ p.length → (interpTo p m).length = p.length
  | 0, _ => by simp [interpTo]
  | m + 1, h => by rw [interpTo_succ, plusL_length, interpTo_length p m (by omega), oneL_length p m (by omega)]; omega
theorem interpTo_num (p : List (Int × Int)) : ∀ m, ∀ n ∈ interpTo p m, num n = true
  | 0 => by
    intro n hn
    simp [interpTo] at hn
    rw [hn.2]; rfl
  | m + 1 => by rw [interpTo_succ]; exact plusL_num _ _
end Go.Proofs.Ythlbjdiicmojfaa.P

/-! Part H78. -/
namespace Go.Proofs.Ythlbjdiicmojfaa.P
open Go.RowKit Go.Proofs.YthlbjdiicmojfaaW.PrintWords Go.Proofs.YthlbjdiicmojfaaW.PrintLast Go.Proofs.YthlbjdiicmojfaaW.PrintMore
set_option linter.unusedVariables false

/-- Something known: a part, or a secret. -/
inductive Kn where
  | share (x y : Int)
  | recipe (n : Int)
def Kn.pt : Kn → Int × Int
  | .share x y => (x, y)
  | .recipe n => (0, n)
def encK : Kn → Value
  | .share x y => .iface 67 (.agg #[.int .i64 x, .int .i64 y])
  | .recipe n => .iface 65 (.int .i64 n)
theorem encK_one : ∀ k, (encK k).oneCell' = true
  | .share _ _ => rfl
  | .recipe _ => rfl
abbrev kK : Kd Kn := Kd.scalar encK encK_one

theorem assertShare (x y : Int) (W : World) : (Instr.typeAssert (.iface 67 (.agg #[.int .i64 x, .int .i64 y])) 87 67 true).run Try.prog W = .ok (.tuple #[.agg #[.int .i64 x, .int .i64 y], .bool true]) W := by kernel_rfl
theorem assertRecipe (n : Int) (W : World) : (Instr.typeAssert (.iface 65 (.int .i64 n)) 87 67 true).run Try.prog W = .ok (.tuple #[.agg #[.int .i64 0, .int .i64 0], .bool false]) W := by kernel_rfl

set_option maxHeartbeats 2000000 in
set_option maxRecDepth 100000 in
theorem place_any (k : Kn) (w : World) : Calls Try.prog 109 #[encK k] w fun e w' => e = .returned (.int .i64 k.pt.1) ∧ Below w.heap.size w w' := by
  have hu67 := Try.underlying67
  have hu87 := Try.underlying87
  cases k with
  | share x y =>
    have hta := assertShare x y
    unfold encK
    go_enter Try.func109, Try.ntmps109
    go_wp2_with fail
    go_ret
    exact ⟨rfl, below_alloc (Below.refl _ _) _⟩
  | recipe n =>
    have hta := assertRecipe n
    unfold encK
    go_enter Try.func109, Try.ntmps109
    go_wp2_with fail
    go_ret
    exact ⟨rfl, Below.refl _ _⟩

set_option maxHeartbeats 2000000 in
set_option maxRecDepth 100000 in
theorem valueShare (x y : Int) (w : World) : Calls Try.prog 133 #[.agg #[.int .i64 x, .int .i64 y]] w fun e w' => e = .returned (.int .i64 y) ∧ Below w.heap.size w w' := by
  have hu67 := Try.underlying67
  go_enter Try.func133, Try.ntmps133
  go_wp2_with fail
  go_ret
  exact ⟨rfl, below_alloc (Below.refl _ _) _⟩
theorem valueRecipe (n : Int) (w : World) : Calls Try.prog 132 #[.int .i64 n] w fun e w' => e = .returned (.int .i64 n) ∧ Below w.heap.size w w' := by
  go_enter Try.func132, Try.ntmps132
  go_wp2_with fail
  go_ret
  exact ⟨rfl, Below.refl _ _⟩

theorem invShare (x y : Int) (w : World) : (invoke (.fn (.method "verditer/secret.value") #[]) #[.iface 67 (.agg #[.int .i64 x, .int .i64 y])]).run Try.prog w = .ok (.enter 133 #[.agg #[.int .i64 x, .int .i64 y]]) w := by kernel_rfl
theorem invRecipe (n : Int) (w : World) : (invoke (.fn (.method "verditer/secret.value") #[]) #[.iface 65 (.int .i64 n)]).run Try.prog w = .ok (.enter 132 #[.int .i64 n]) w := by kernel_rfl
theorem inv_event {ops : Array Oper} {rest : List Oper} {o : Oper} {a : Act} {Q : Exit → Act → World → Prop} {W : World} (k : Kn) (hgd : o.guard = none) (hop : o.op = .call { callee := .invoke (.tmp 20) "verditer/secret.value", args := #[], argTypes := #[] })
    (he : a.eval (.tmp 20) = encK k) (h : ∀ w', Below W.heap.size W w' → wpList Try.prog ops Q rest (a.put o.dst (.int .i64 k.pt.2)) w') : wpList Try.prog ops Q (o :: rest) a W := by
  refine wpList_plain hgd fun K hK => ?_
  cases k with
  | share x y =>
    have hrun : (execOp a.eval o).run Try.prog W = .ok (.enter 133 #[.agg #[.int .i64 x, .int .i64 y]]) W := by
      unfold execOp
      simp [hop, resolve, he, encK, invShare]
    unfold Oper.wp
    rw [hrun, Oper.upon_enter]
    refine (valueShare x y W).mono fun e w' hh => ?_
    obtain ⟨rfl, hb⟩ := hh
    exact hK _ _ (h w' hb)
  | recipe n =>
    have hrun : (execOp a.eval o).run Try.prog W = .ok (.enter 132 #[.int .i64 n]) W := by
      unfold execOp
      simp [hop, resolve, he, encK, invRecipe]
    unfold Oper.wp
    rw [hrun, Oper.upon_enter]
    refine (valueRecipe n W).mono fun e w' hh => ?_
    obtain ⟨rfl, hb⟩ := hh
    exact hK _ _ (h w' hb)

theorem eraseIdx_take_snoc {α : Type} (xs : List α) (i j : Nat) (hj : j < xs.length) (hne : j ≠ i) : (xs.take (j + 1)).eraseIdx i = (xs.take j).eraseIdx i ++ [xs[j]] := by
  rw [List.take_succ_eq_append_getElem hj]
  by_cases h : i < j
  · rw [List.eraseIdx_append_of_lt_length (by rw [List.length_take]; omega)]
  · rw [List.eraseIdx_append_of_length_le (by rw [List.length_take]; omega), List.eraseIdx_of_length_le (l := List.take j xs) (by rw [List.length_take]; omega), List.length_take, Nat.min_eq_left (by omega), List.eraseIdx_of_length_le (by simp; omega)]
theorem eraseIdx_take_same {α : Type} (xs : List α) (i : Nat) (hi : i < xs.length) : (xs.take (i + 1)).eraseIdx i = (xs.take i).eraseIdx i := by
  rw [List.take_succ_eq_append_getElem hi, List.eraseIdx_append_of_length_le (by rw [List.length_take]; omega), List.length_take, Nat.min_eq_left (by omega), Nat.sub_self]
  rw [List.eraseIdx_of_length_le (l := List.take i xs) (by rw [List.length_take]; omega)]
  simp

theorem at_K {w : World} {A : Option Addr} {l : List Kn} (h : Kd.C kK w A l.length l) (i : Nat) (hi : i < l.length) : ∃ ad, A = some ad ∧ w.cell? (ad.add i) = some (encK l[i]) := by
  obtain ⟨ad, e, hc⟩ := ReadsOf.at_ (Kd.reads_of_C (enc := encK) (d := Kn.recipe 0) (h1 := encK_one) h) (i : Int) (by omega) (by omega)
  refine ⟨ad, e, ?_⟩
  rw [Int.toNat_natCast] at hc
  rw [hc]
  simp [rdOf, hi]

set_option maxHeartbeats 4000000 in
set_option maxRecDepth 100000 in
theorem through_any (A0 : Option Addr) (c0 : Nat) (l : List Kn) (w : World) (hr0 : Kd.C kK w A0 l.length l) (hlen : l.length ≤ 12) (hx : ∀ k ∈ l, num k.pt.1 = true) (hy : ∀ k ∈ l, num k.pt.2 = true) :
    Calls Try.prog 78 #[.slice A0 l.length c0] w fun e w' => ∃ v0_ : Value, e = .returned (v0_) ∧ Kd.R (Kd.int .i64) 3 w' w.heap.size (fun _ => True) v0_ (interp (l.map Kn.pt)) ∧ Below w.heap.size w w' := by
  have HR0 := Aside0.mk hr0
  have HX := Aside0.mk hx
  have HY := Aside0.mk hy
  have HB := Aside0.mk (Below.refl w.heap.size w)
  clear hr0 hx hy
  obtain ⟨P, hP⟩ : ∃ P, P = l.map Kn.pt := ⟨_, rfl⟩
  obtain ⟨xs, hxs⟩ : ∃ xs, xs = P.map Prod.fst := ⟨_, rfl⟩
  have hxl : xs.length = l.length := by rw [hxs, hP]; simp
  have hPl : P.length = l.length := by rw [hP]; simp
  rw [← hP]
  have hxg : ∀ j (hj : j < l.length), xs[j]? = some l[j].pt.1 := fun j hj => by rw [hxs, hP]; simp [hj]
  have HXG := Aside0.mk hxg
  have HXL := Aside0.mk hxl
  have HPL := Aside0.mk hPl
  have HXS := Aside0.mk hxs
  have HPP := Aside0.mk hP
  clear hxg hxl hPl hxs hP
  have h0 : (0 : Int) ≤ (l.length : Int) := by omega
  go_enter Try.func78, Try.ntmps78
  go_wp2_with (first | ((with_reducible refine gate_dst (N := 12) rfl ?_); refine Kd.R_make (Kd.int .i64) _ 3 rfl (N := 12) rfl 68 _ _ rfl (l.length : Int) rfl rfl Try.underlying68 (.int .i64 0) 8 info3 rfl (by decide) (by omega) 0 (ok := fun _ => True) (okp := fun _ => True) rfl (fun _ hk => hk) trivial h0 (by omega) (Below.refl _ _) (Nat.le_refl _) ?_; intro v1 w1 ho hb hg_ hnew_; clear hg_ hnew_; have HO := Aside0.mk ho; have HB1 := Aside0.mk hb; clear ho hb))
  go_loopg [4, 15] l.length (fun gg v4 v15 wr => ∃ i : Nat, i ≤ l.length ∧ l.length - i ≤ gg ∧ v15 = .int .i64 i ∧ Aside0 (Kd.R (Kd.int .i64) 3 wr w.heap.size (fun _ => True) v4 (interpTo P i)) ∧ Aside0 (Below w.heap.size w wr))
  case atStart => exact ⟨0, Nat.zero_le _, by omega, rfl, ⟨by have := HO.out; rw [Int.toNat_natCast, ← HPL.out] at this; exact this⟩, HB1⟩
  case round =>
    clear HO HB1 HB
    obtain ⟨i, hi, hg, rfl, HO4, HBr⟩ := hrel
    obtain ⟨A4, c4, e4⟩ := Kd.R_slice HO4.out
    subst e4
    by_cases hlt : i < l.length
    · have hltz : (i : Int) < (l.length : Int) := by omega
      obtain ⟨ad, e1, hx0⟩ := at_K (Kd.C_below HR0.out HBr.out) i hlt
      subst e1
      have hxi := HX.out l[i] (List.getElem_mem hlt)
      have hyi := HY.out l[i] (List.getElem_mem hlt)
      generalize hki : l[i] = ki at hx0 hxi hyi
      have HKI := Aside0.mk hki
      have HYI := Aside0.mk hyi
      clear hki hyi
      obtain ⟨hxi0, hxi1⟩ := num_iff.1 hxi
      clear hxi
      go_wp2_with (first | ((with_reducible refine gate_dst (N := 21) rfl ?_); refine inv_event ki rfl rfl rfl ?_; intro w2 hb; have HB2 := Aside0.mk (below_step HBr.out hb); have HO5 := Aside0.mk (Kd.R_below HO4.out hb); clear hb))
      have HB3 := Aside0.mk (below_alloc HB2.out (.cells #[.int .i64 ki.pt.2] 3))
      have HO6 := Aside0.mk (Kd.R_alloc HO5.out (.cells #[.int .i64 ki.pt.2] 3))
      have HO7 : Aside0 (Kd.R (Kd.int .i64) 3 (w2.alloc (.cells #[.int .i64 ki.pt.2] 3)) w.heap.size (fun _ => True) (.slice (some ⟨w2.heap.size, 0, none⟩) 1 1) [ki.pt.2]) := ⟨Kd.R_of_own (own_lit w2 w.heap.size 3 .i64 [ki.pt.2] HB2.out.size (by simp)) (fun _ _ => trivial)⟩
      clear HB2 HO5
      obtain ⟨w3, hw3⟩ : ∃ w3, w2.alloc (.cells #[.int .i64 ki.pt.2] 3) = w3 := ⟨_, rfl⟩
      rw [hw3] at HB3 HO6 HO7 ⊢
      clear hw3
      go_loopg [7, 25] l.length (fun gg v7 v25 wr2 => ∃ j : Nat, j ≤ l.length ∧ l.length - j ≤ gg ∧ v25 = .int .i64 j ∧ Aside0 (Kd.R (Kd.int .i64) 3 wr2 w.heap.size (fun _ => True) v7 (basis ki.pt.1 ((xs.take j).eraseIdx i) [ki.pt.2]))
        ∧ Aside0 (Kd.R (Kd.int .i64) 3 wr2 w.heap.size (fun _ => True) (.slice A4 (interpTo P i).length c4) (interpTo P i)) ∧ Aside0 (Below w.heap.size w wr2))
      case atStart => exact ⟨0, Nat.zero_le _, by omega, rfl, HO7, HO6, HB3⟩
      case round =>
        clear HO7 HO6 HB3 HO4 HBr
        obtain ⟨j, hj, hgj, rfl, HO7, HO4, HB⟩ := hrel
        obtain ⟨A7, c7, e7⟩ := Kd.R_slice HO7.out
        subst e7
        by_cases hjl : j < l.length
        · have hjz : (j : Int) < (l.length : Int) := by omega
          obtain ⟨ad2, e2, hx1⟩ := at_K (Kd.C_below HR0.out HB.out) j hjl
          injection e2 with e2
          subst e2
          have hxj := HX.out l[j] (List.getElem_mem hjl)
          have hkpt := HXG.out j hjl
          generalize hkj : l[j] = kj at hx1 hxj hkpt
          have HKJ := Aside0.mk hkpt
          clear hkj hkpt
          obtain ⟨hxj0, hxj1⟩ := num_iff.1 hxj
          have HXJ := Aside0.mk hxj
          clear hxj
          have HJL : Aside0 (j < xs.length) := ⟨by rw [HXL.out]; exact hjl⟩
          by_cases hne : i = j
          · have hb0 : ((i : Int) != (j : Int)) = false := by rw [hne]; simp
            have HNE := Aside0.mk hne
            clear hne
            go_wp2_with fail
            go_roundg (l.length - (j + 1))
            case measure => omega
            case rel => exact ⟨j + 1, by omega, by omega, by go_num, ⟨by have := HO7.out; rw [HNE.out] at this ⊢; rw [eraseIdx_take_same _ j HJL.out]; exact this⟩, HO4, HB⟩
          · have hb0 : ((i : Int) != (j : Int)) = true := by rw [bne_iff_ne]; omega
            have HNE := Aside0.mk hne
            clear hne
            go_wp2_with fail
            with_reducible refine (place_any kj _).mono ?_
            rintro e wa ⟨rfl, hba⟩
            have HBa := Aside0.mk (below_step HB.out hba)
            have HO7a := Aside0.mk (Kd.R_below HO7.out hba)
            have HO4a := Aside0.mk (Kd.R_below HO4.out hba)
            clear hba HB HO7 HO4
            go_wp2_with fail
            with_reducible refine (place_any ki _).mono ?_
            rintro e wb ⟨rfl, hbb⟩
            have HBb := Aside0.mk (below_step HBa.out hbb)
            have HO7b := Aside0.mk (Kd.R_below HO7a.out hbb)
            have HO4b := Aside0.mk (Kd.R_below HO4a.out hbb)
            clear hbb HBa HO7a HO4a
            go_wp2_with fail
            with_reducible refine (place_any kj _).mono ?_
            rintro e wc ⟨rfl, hbc⟩
            have HBc := Aside0.mk (below_step HBb.out hbc)
            have HO7c := Aside0.mk (Kd.R_below HO7b.out hbc)
            have HO4c := Aside0.mk (Kd.R_below HO4b.out hbc)
            clear hbc HBb HO7b HO4b
            go_wp2_with fail
            with_reducible refine (secret_rest.calls _ _ _ (rest_eq _)).mono ?_
            rintro e w' ⟨rfl, ⟨nd, rfl⟩⟩
            go_wp2_with fail
            with_reducible refine (secret_inverse.calls 250 _ _ _ (inverse_eq _ (num_mod _) 250 (Nat.le_refl _))).mono ?_
            rintro e w' ⟨rfl, ⟨nd2, rfl⟩⟩
            go_wp2_with fail
            have HT := Aside0.mk (times_eq (basis ki.pt.1 ((xs.take j).eraseIdx i) [ki.pt.2]) kj.pt.1 (invI ((ki.pt.1 - kj.pt.1) % 251))
              (by rw [basis_length, List.length_eraseIdx, List.length_take]; simp only [List.length_cons, List.length_nil]; split <;> omega)
              (basis_num _ _ _ (by intro n hn; rw [List.mem_singleton.1 hn]; exact HYI.out)) HXJ.out (num_invI _) 2000
              (by rw [basis_length, List.length_eraseIdx, List.length_take]; simp only [List.length_cons, List.length_nil]; split <;> omega))
            with_reducible refine (secret_curve_times.calls 2000 A7 c7 _ _ _ _ _ (Kd.C_drewN (Kd.R_reads' HO7c.out).2.2 _) (Kd.R_reads' HO7c.out).2.1 HT.out).mono ?_
            rintro e wd ⟨v7, rfl, ho7, hbd⟩
            have HB7 := Aside0.mk (below_step (pw_below_drewN HBc.out _) hbd)
            have HO7d := Aside0.mk (Kd.R_lower ho7 (below_size (pw_below_drewN HBc.out _)))
            have HO4d := Aside0.mk (Kd.R_below (Kd.R_drewN HO4c.out _) hbd)
            clear ho7 hbd HBc HO7c HO4c HT
            go_wp2_with fail
            go_roundg (l.length - (j + 1))
            case measure => omega
            case rel =>
              refine ⟨j + 1, by omega, by omega, by go_num, ⟨?_⟩, HO4d, HB7⟩
              have h1 : xs[j]'HJL.out = kj.pt.1 := by have := HKJ.out; rw [List.getElem?_eq_getElem HJL.out] at this; exact Option.some.inj this
              rw [eraseIdx_take_snoc _ i j HJL.out (fun e => HNE.out e.symm), basis_snoc, h1]
              exact HO7d.out
        · have hjz : ¬ (j : Int) < (l.length : Int) := by omega
          have HE : Aside0 (basis ki.pt.1 ((xs.take j).eraseIdx i) [ki.pt.2] = oneL P i) := ⟨by
            have h1 : P[i]? = some ki.pt := by rw [HPP.out, List.getElem?_map, List.getElem?_eq_getElem hlt, HKI.out]; rfl
            rw [List.take_of_length_le (by rw [HXL.out]; omega), HXS.out]
            unfold oneL
            rw [List.getD_eq_getElem?_getD, h1]
            rfl⟩
          rw [HE.out] at HO7 ⊢
          have HS := Aside0.mk (plus_eq (interpTo P i) (oneL P i) (by rw [interpTo_length _ _ (by rw [HPL.out]; omega), HPL.out]; omega) (by rw [interpTo_length _ _ (by rw [HPL.out]; omega), oneL_length _ _ (by rw [HPL.out]; omega)])
            (interpTo_num _ _) (by rw [← HE.out]; exact basis_num _ _ _ (by intro n hn; rw [List.mem_singleton.1 hn]; exact HYI.out)) 2000 (by rw [interpTo_length _ _ (by rw [HPL.out]; omega), HPL.out]; omega))
          have HL2 : Aside0 ((oneL P i).length = (interpTo P i).length) := ⟨by rw [interpTo_length _ _ (by rw [HPL.out]; omega), oneL_length _ _ (by rw [HPL.out]; omega)]⟩
          go_wp2_with fail
          with_reducible refine (secret_curve_plus.calls 2000 A4 c4 _ A7 c7 _ _ _ (Kd.R_reads' HO4.out).2.2 (Kd.R_reads' HO4.out).2.1 (Kd.R_reads' HO7.out).2.2 (Kd.R_reads' HO7.out).2.1 (by rw [HL2.out]; exact Nat.le_refl _) (by rw [HL2.out]; exact Nat.le_refl _) HS.out).mono ?_
          rintro e wd ⟨v4, rfl, ho4, hbd⟩
          have HB4 := Aside0.mk (below_step HB.out hbd)
          have HO4d := Aside0.mk (Kd.R_lower ho4 (below_size HB.out))
          clear ho4 hbd
          rw [← interpTo_succ] at HO4d
          go_wp2_with fail
          go_roundg (l.length - (i + 1))
          case measure => omega
          case rel => exact ⟨i + 1, by omega, by omega, by go_num, HO4d, HB4⟩
    · have hiz : ¬ (i : Int) < (l.length : Int) := by omega
      have HI : Aside0 (i = P.length) := ⟨by rw [HPL.out]; omega⟩
      go_wp2_with fail
      go_ret
      refine ⟨_, rfl, ?_, HBr.out⟩
      have := HO4.out
      rw [HI.out] at this ⊢
      exact this
end Go.Proofs.Ythlbjdiicmojfaa.P

/-! Part H87. -/
namespace Go.Proofs.Ythlbjdiicmojfaa.P
open Go.RowKit Go.Proofs.YthlbjdiicmojfaaW.PrintWords Go.Proofs.YthlbjdiicmojfaaW.PrintLast Go.Proofs.YthlbjdiicmojfaaW.PrintMore
set_option linter.unusedVariables false

theorem info87 : (Try.prog.info? 87).map (fun i => (i.zero, i.size, i.bytes)) = some (some .nilIface, 1, 16) := by kernel_rfl
def kns (l : List S43) : List Kn := l.map fun p => .share p.f0 p.f1
theorem kns_pts (l : List S43) : (kns l).map Kn.pt = pts l := by simp [kns, pts, Kn.pt]

set_option maxHeartbeats 4000000 in
set_option maxRecDepth 100000 in
theorem secret_of.calls (A0 : Option Addr) (c0 : Nat) (l0 : List (S43)) (r : List Int) (w : World) (hr0 : Kd.C k43 w A0 l0.length l0) (hc0 : l0.length ≤ c0) (h : secret_of.f l0 = some r) :
    Calls Try.prog 87 #[.slice A0 l0.length c0] w fun e w' => ∃ v0_ : Value, e = .returned (v0_) ∧ Kd.R (Kd.int .i64) 3 w' w.heap.size (fun _ => True) v0_ r ∧ Below w.heap.size w w' := by
  unfold secret_of.f at h
  split at h
  · rename_i hv
    obtain ⟨hlen, hok, _⟩ := valid_iff.1 hv
    have hr := Option.some.inj h
    have HR := Aside0.mk hr
    have HR0 := Aside0.mk hr0
    have HOK := Aside0.mk hok
    have HB := Aside0.mk (Below.refl w.heap.size w)
    clear h hr hr0 hc0 hv hok
    have hu43 := Try.underlying43
    have hu67 := Try.underlying67
    go_enter Try.func87, Try.ntmps87
    go_wp2_with fail
    go_loopg [3, 8] l0.length (fun gg v3 v8 wr => ∃ i : Nat, i ≤ l0.length ∧ l0.length - i ≤ gg ∧ v8 = .int .i64 i ∧ Aside0 (Kd.R kK 87 wr w.heap.size (fun _ => True) v3 (kns (l0.take i))) ∧ Aside0 (Below w.heap.size w wr))
    case atStart => exact ⟨0, Nat.zero_le _, by omega, rfl, ⟨Kd.R_nil kK 87 w w.heap.size _⟩, HB⟩
    case round =>
      clear HB
      obtain ⟨i, hi, hg, rfl, HO, HB⟩ := hrel
      by_cases hlt : i < l0.length
      · have hltz : (i : Int) < (l0.length : Int) := by omega
        have hq0 : (0 : Int) ≤ (i : Int) := by omega
        obtain ⟨ad, e1, hx0, hx1⟩ := at_T43 (Kd.C_below HR0.out HB.out) (i : Int) hq0 hltz
        cases e1
        rw [rd43_get l0 i hlt] at hx0 hx1
        simp only [Int.toNat_natCast] at hx0 hx1
        have hsn : kns (l0.take (i + 1)) = kns (l0.take i) ++ [.share l0[i].f0 l0[i].f1] := by unfold kns; rw [List.take_succ_eq_append_getElem hlt, List.map_append]; rfl
        have HSN := Aside0.mk hsn
        have hkl : (kns (l0.take i)).length = i := by simp [kns]; omega
        have HKL := Aside0.mk hkl
        clear hsn hkl
        go_wp2_with (first | ((with_reducible refine gate_builtin (b := .append) (xs := #[.tmp 12, .tmp 15]) rfl ?_); at_builtin; refine Kd.R_append kK (w0 := w) w.heap.size rfl (.tmp 12) (.tmp 15) 66 87 .nilIface 16 rfl Try.underlying66 info87 rfl (by decide) (by omega) u3 (kns (l0.take i)) (.share l0[i].f0 l0[i].f1) [encK (.share l0[i].f0 l0[i].f1)] (fun _ => True) (fun _ => False) rfl (by rw [World.size_alloc]; rfl) ?aP (fun _ hk => hk.elim) ?aF ?aO ?aB ?aS ?aL ?_; (case aP => exact rfl); (case aB => exact below_alloc HB.out _); (case aF => exact fun _ _ => trivial); (case aO => exact Kd.R_alloc HO.out _); (case aS => exact below_size (below_alloc HB.out _)); (case aL => rw [HKL.out]; omega); intro v1 w1 ho hb hg_ hat; have HO2 := Aside0.mk ho; have HB2 := Aside0.mk hb; clear ho hb hg_ hat))
        go_roundg (l0.length - (i + 1))
        case measure => omega
        case rel => exact ⟨i + 1, by omega, by omega, by go_num, ⟨by rw [HSN.out]; exact HO2.out⟩, HB2⟩
      · have hiz : ¬ (i : Int) < (l0.length : Int) := by omega
        have HE : Aside0 (l0.take i = l0) := ⟨List.take_of_length_le (by omega)⟩
        rw [HE.out] at HO
        obtain ⟨A3, c3, e3⟩ := Kd.R_slice HO.out
        subst e3
        have HT := Aside0.mk (through_any A3 c3 (kns l0) wr (Kd.R_reads' HO.out).2.2 (by simp [kns]; exact hlen)
          (by intro k hk; simp only [kns, List.mem_map] at hk; obtain ⟨p, hp, rfl⟩ := hk; have := okP_iff.1 (HOK.out p hp); exact num_iff.2 ⟨by show 0 ≤ p.f0; omega, by show p.f0 ≤ 250; omega⟩)
          (by intro k hk; simp only [kns, List.mem_map] at hk; obtain ⟨p, hp, rfl⟩ := hk; have := okP_iff.1 (HOK.out p hp); exact num_iff.2 ⟨by show 0 ≤ p.f1; omega, by show p.f1 ≤ 250; omega⟩))
        obtain ⟨K3, hK3⟩ : ∃ K3, kns l0 = K3 := ⟨_, rfl⟩
        have HK3 := Aside0.mk hK3
        rw [hK3] at HT HO ⊢
        clear hK3
        go_wp2_with fail
        with_reducible refine HT.out.mono ?_
        rintro e w2 ⟨v2, rfl, ho2, hb2⟩
        have HO2 := Aside0.mk (Kd.R_lower ho2 (below_size HB.out))
        have HB2 := Aside0.mk (below_step HB.out hb2)
        clear ho2 hb2
        go_wp2_with fail
        go_ret
        refine ⟨_, rfl, ?_, HB2.out⟩
        rw [← HR.out, ← kns_pts, HK3.out]
        exact HO2.out
  · cases h
end Go.Proofs.Ythlbjdiicmojfaa.P

/-! Part PF49. -/
-- Written for this claim by wip/print_more.py (a session's program that runs the kit's printer with hand-proved functions beside). Lean checks it.
namespace Go.Proofs.Ythlbjdiicmojfaa.P
open Go.RowKit Go.Proofs.YthlbjdiicmojfaaW.PrintWords Go.Proofs.YthlbjdiicmojfaaW.PrintLast Go.Proofs.YthlbjdiicmojfaaW.PrintMore
attribute [local go_sem] max2_int min2_int max_two min_two max_three min_three max_four min_four   -- for this text's walks alone
set_option linter.unusedVariables false
set_option linter.unusedSimpArgs false

/-! ### secret_Part: function 49 -/
def secret_Part.j0 : Nat → List (S43) → Int → Bool → Option (Int × Int × Int)
  | 0, _, _, _ => none
  | k + 1, x0, x1, x20 => if x20 = true then (some (0, 0, 1)) else ((secret_some.f x0).bind fun t280 => (if t280 = 0 then ((secret_of.f x0).bind fun t281 => ((secret_curve_at.f t281 x1).bind fun t284 => (some (x1, t284, 0)))) else (some (0, 0, t280))))
def secret_Part.f (k : Nat) (l0 : List (S43)) (a1 : Int) : Option (Int × Int × Int) := (secret_Validate.f l0).bind fun t278 => (if t278 = 0 then (if a1 = 0 then (secret_Part.j0 k l0 a1 true) else ((secret_isNumber.f a1).bind fun t279 => (secret_Part.j0 k l0 a1 (!t279)))) else (some (0, 0, t278)))
set_option maxHeartbeats 8000000 in
set_option maxRecDepth 100000 in
theorem secret_Part.calls (k : Nat) (A0 : Option Addr) (c0 : Nat) (l0 : List (S43)) (a1 : Int) (r1 : Int) (r2 : Int) (r3 : Int) (w : World) (hr0 : Kd.C k43 w A0 l0.length l0) (hc0 : l0.length ≤ c0) (h : secret_Part.f k l0 a1 = some (r1, r2, r3)) :
    Calls Try.prog 49 #[.slice A0 l0.length c0, .int .i64 a1] w fun e w' => e = .returned (.tuple #[.agg #[.int .i64 r1, .int .i64 r2], .int .i64 r3]) ∧ Below w.heap.size w w' := by
  have hu43 := Try.underlying43
  have HR0 := Aside0.mk hr0
  have HC0 := Aside0.mk hc0
  clear hr0 hc0
  have HB := Aside0.mk (Below.refl w.heap.size w)
  have H : ((secret_Validate.f l0).bind fun t278 => (if t278 = 0 then (if a1 = 0 then (secret_Part.j0 k l0 a1 true) else ((secret_isNumber.f a1).bind fun t279 => (secret_Part.j0 k l0 a1 (!t279)))) else (some (0, 0, t278)))) = some (r1, r2, r3) := h
  clear h
  replace H := Option.bind_eq_some_iff.mp H
  obtain ⟨t278, A30, H⟩ := H
  replace H : (if t278 = 0 then (if a1 = 0 then (secret_Part.j0 k l0 a1 true) else ((secret_isNumber.f a1).bind fun t279 => (secret_Part.j0 k l0 a1 (!t279)))) else (some (0, 0, t278))) = some (r1, r2, r3) := H
  have A3 := Aside0.mk A30
  clear A30
  by_cases c4 : t278 = 0
  · rw [if_pos c4] at H
    have c4b0 : (t278 == 0) = true := beq_iff_eq.mpr c4
    have c4b1 : (t278 != 0) = false := bne_eq_false_iff_eq.mpr c4
    clear c4
    have HC5 := Aside0.mk H
    clear H
    go_enter Try.func49, Try.ntmps49
    go_upto_region 4 with (first | ((with_reducible refine gate_dst (N := 4) rfl ?_); refine box_event ?hg (N := 4) ?hd (cs := #[.int .i64 0, .int .i64 0]) (t := 43) ?hr ?_; (case hd => rfl); (case hg => rfl); (case hr => first | (go_simp; done) | (go_simp; rfl)); intro gb277 hg w6 hbox hb; have n0_ := Aside0.mk (below_step (by repeat (first | (with_reducible first | exact HB.out | apply below_alloc | apply pw_below_drewN | apply below_drew1) | exact HB.out)) hb); have n1_ := Aside0.mk (hbox); have n2_ := Aside0.mk ((by rw [hg]; exact (below_size (by repeat (first | (with_reducible first | exact HB.out | apply below_alloc | apply pw_below_drewN | apply below_drew1) | exact HB.out))) : w.heap.size ≤ gb277)); have n3_ := Aside0.mk ((by rw [hg]; exact (below_size (by repeat (first | (with_reducible first | exact HB.out | apply below_alloc | apply pw_below_drewN | apply below_drew1) | exact HB.out))) : w.heap.size ≤ gb277)); clear HB; have HB := n0_; have BK277 := n1_; have GW277 := n2_; have GE277 := n3_; clear n0_ n1_ n2_ n3_; clear hb hbox hg) | ((with_reducible refine gate_callee (f := 65) rfl ?_); refine goesL_ (some 9) rfl rfl Try.func65 (by kernel_rfl) rfl #[.slice A0 l0.length c0] rfl (by (try simp only [List.map_toArray, List.map_cons, List.map_nil]); first | done | rfl | (simp only [List.length_drop, List.length_take]; rfl)) ?_; (with_reducible refine (secret_Validate.calls _ _ l0 t278 _ ?side1 ?side2 A3.out).mono ?_); (case side1 => repeat (first | exact (Kd.C_below HR0.out HB.out) | (with_reducible refine Kd.C_alloc ?_ _) | (with_reducible refine Kd.C_drewN ?_ _) | (with_reducible refine Kd.C_drew ?_))); (case side2 => exact HC0.out); rintro e w7 ⟨rfl, hb⟩; refine ⟨_, rfl, ?_⟩; have n0_ := Aside0.mk (blk_below (g := gb277) (o := .cells #[.int .i64 0, .int .i64 0] 43 (0, 0)) (by (with_reducible repeat (first | refine blk_drewN ?_ _ | refine blk_drew ?_ | refine blk_alloc ?_ _)); exact BK277.out) hb); have n1_ := Aside0.mk (below_step (by repeat (first | (with_reducible first | exact HB.out | apply below_alloc | apply pw_below_drewN | apply below_drew1 | refine below_set ?_ GE277.out) | exact HB.out)) hb); clear BK277; clear HB; have BK277 := n0_; have HB := n1_; clear n0_ n1_; (try clear hb); (try clear hb2); (try clear hk); (try clear hi)))
    (try simp only [Act.put, List.setIfInBounds_toArray, List.set_cons_zero, List.set_cons_succ])
    go_cut [20] (fun v20 wc => ∃ (kq : Nat) (x20_4 : Bool), v20 = .bool x20_4 ∧ Aside0 (secret_Part.j0 kq l0 a1 x20_4 = some (r1, r2, r3)) ∧ Aside0 (kq ≤ k) ∧ Aside0 (wc.heap[gb277]? = some (.cells #[.int .i64 0, .int .i64 0] 43 (0, 0))) ∧ Aside0 (Below w.heap.size w wc))
    case first =>
      have H := HC5.out
      clear HC5
      by_cases c8 : a1 = 0
      · rw [if_pos c8] at H
        have c8b0 : (a1 == 0) = true := beq_iff_eq.mpr c8
        have c8b1 : (a1 != 0) = false := bne_eq_false_iff_eq.mpr c8
        clear c8
        (first | rw [c8b0] | (simp only [i64_w, i32_w]; rw [c8b0]) | skip)
        have H' := Aside0.mk H
        clear H
        go_wp2
        go_meet
        case rel => exact ⟨_, (true), (by first | rfl | (simp; done) | (simp [*]; done)), H', ⟨by first | omega | exact Nat.le_refl _⟩, ⟨by (with_reducible repeat (first | refine blk_drewN ?_ _ | refine blk_drew ?_ | refine blk_alloc ?_ _)); exact BK277.out⟩, ⟨by repeat (first | (with_reducible first | exact HB.out | apply below_alloc | apply pw_below_drewN | apply below_drew1 | refine below_set ?_ GE277.out) | exact HB.out)⟩⟩
      · rw [if_neg c8] at H
        have c8b0 : (a1 == 0) = false := beq_eq_false_iff_ne.mpr c8
        have c8b1 : (a1 != 0) = true := bne_iff_ne.mpr c8
        (first | rw [c8b0] | (simp only [i64_w, i32_w]; rw [c8b0]) | skip)
        replace H := Option.bind_eq_some_iff.mp H
        obtain ⟨t279, A90, H⟩ := H
        replace H : (secret_Part.j0 k l0 a1 (!t279)) = some (r1, r2, r3) := H
        have A9 := Aside0.mk A90
        clear A90
        have H' := Aside0.mk H
        clear H
        go_wp2_with (first | (go_at_call 77; (with_reducible refine (secret_isNumber.calls a1 t279 _ A9.out).mono ?_); rintro e w' ⟨rfl, ⟨nd, rfl⟩⟩))
        go_meet
        case rel => exact ⟨_, (!t279), (by first | rfl | (simp; done) | (simp [*]; done)), H', ⟨by first | omega | exact Nat.le_refl _⟩, ⟨by (with_reducible repeat (first | refine blk_drewN ?_ _ | refine blk_drew ?_ | refine blk_alloc ?_ _)); exact BK277.out⟩, ⟨by repeat (first | (with_reducible first | exact HB.out | apply below_alloc | apply pw_below_drewN | apply below_drew1 | refine below_set ?_ GE277.out) | exact HB.out)⟩⟩
    case rest =>
      clear HC5
      try clear p2
      try clear c4
      try clear c4b0
      try clear c4b1
      try clear c6
      try clear c8
      try clear c8b0
      try clear c8b1
      obtain ⟨kq, x20_4, rfl, HA, HJ4, BK277, HB⟩ := hcut
      cases kq with
      | zero => exact absurd HA.out (by simp [secret_Part.j0])
      | succ kj4 =>
        have H := HA.out
        clear HA
        simp only [secret_Part.j0] at H
        by_cases c10 : x20_4 = true
        · subst c10
          have H1 : (some (0, 0, 1)) = some (r1, r2, r3) := by rw [if_pos rfl] at H; exact H
          clear H
          have H := H1
          clear H1
          simp only [Option.some.injEq, Prod.mk.injEq] at H
          obtain ⟨rfl, rfl, rfl⟩ := H
          have hcz11_0 : wc.cell? ⟨gb277, 0, none⟩ = some (.int .i64 0) := (blk_cell BK277.out 0).trans rfl
          have hcz11_1 : wc.cell? ⟨gb277, 1, none⟩ = some (.int .i64 0) := (blk_cell BK277.out 1).trans rfl
          have hfz11_0 := blk_frozen BK277.out 0
          have hfz11_1 := blk_frozen BK277.out 1
          go_wp2
          refine bodyPost_ret (results_ct rfl _ _ gb277 43 #[.int .i64 0, .int .i64 0] (0, 0) _ rfl (by (with_reducible repeat (first | refine blk_drewN ?_ _ | refine blk_drew ?_ | refine blk_alloc ?_ _)); refine blk_put (cs := #[.int .i64 0, .int .i64 0]) ?_ 1 _ rfl; (with_reducible repeat (first | refine blk_drewN ?_ _ | refine blk_drew ?_ | refine blk_alloc ?_ _)); refine blk_put (cs := #[.int .i64 0, .int .i64 0]) ?_ 0 _ rfl; (with_reducible repeat (first | refine blk_drewN ?_ _ | refine blk_drew ?_ | refine blk_alloc ?_ _)); exact BK277.out) Try.underlying43 rfl (by kernel_rfl)) rfl ?_
          exact ⟨by first | rfl | (simp [errW_none, errW_some] <;> rfl) | (simp [*, errW_none, errW_some] <;> rfl), by repeat (first | (with_reducible first | exact HB.out | apply below_alloc | apply pw_below_drewN | apply below_drew1 | refine below_set ?_ GE277.out) | exact HB.out)⟩
        · replace c10 := Bool.eq_false_iff.mpr c10
          subst c10
          have H1 : ((secret_some.f l0).bind fun t280 => (if t280 = 0 then ((secret_of.f l0).bind fun t281 => ((secret_curve_at.f t281 a1).bind fun t284 => (some (a1, t284, 0)))) else (some (0, 0, t280)))) = some (r1, r2, r3) := by rw [if_neg (show ¬ (false = true) by decide)] at H; exact H
          clear H
          have H := H1
          clear H1
          replace H := Option.bind_eq_some_iff.mp H
          obtain ⟨t280, A120, H⟩ := H
          replace H : (if t280 = 0 then ((secret_of.f l0).bind fun t281 => ((secret_curve_at.f t281 a1).bind fun t284 => (some (a1, t284, 0)))) else (some (0, 0, t280))) = some (r1, r2, r3) := H
          have A12 := Aside0.mk A120
          clear A120
          by_cases c13 : t280 = 0
          · rw [if_pos c13] at H
            have c13b0 : (t280 == 0) = true := beq_iff_eq.mpr c13
            have c13b1 : (t280 != 0) = false := bne_eq_false_iff_eq.mpr c13
            clear c13
            replace H := Option.bind_eq_some_iff.mp H
            obtain ⟨t281, A140, H⟩ := H
            replace H : ((secret_curve_at.f t281 a1).bind fun t284 => (some (a1, t284, 0))) = some (r1, r2, r3) := H
            have A14 := Aside0.mk A140
            clear A140
            replace H := Option.bind_eq_some_iff.mp H
            obtain ⟨t284, A150, H⟩ := H
            replace H : (some (a1, t284, 0)) = some (r1, r2, r3) := H
            have A15 := Aside0.mk A150
            clear A150
            simp only [Option.some.injEq, Prod.mk.injEq] at H
            obtain ⟨rfl, rfl, rfl⟩ := H
            go_wp2_with (first | ((with_reducible refine gate_callee (f := 86) rfl ?_); refine goesL_ (some 23) rfl rfl Try.func86 (by kernel_rfl) rfl #[.slice A0 l0.length c0] rfl (by (try simp only [List.map_toArray, List.map_cons, List.map_nil]); first | done | rfl | (simp only [List.length_drop, List.length_take]; rfl)) ?_; (with_reducible refine (secret_some.calls _ _ l0 t280 _ ?side1 ?side2 A12.out).mono ?_); (case side1 => repeat (first | exact (Kd.C_below HR0.out HB.out) | (with_reducible refine Kd.C_alloc ?_ _) | (with_reducible refine Kd.C_drewN ?_ _) | (with_reducible refine Kd.C_drew ?_))); (case side2 => exact HC0.out); rintro e w' ⟨rfl, ⟨nd, rfl⟩⟩; refine ⟨_, rfl, ?_⟩; (try (rw [drewN_self wc]; generalize hq_ : World.drewN wc _ = wc; have n0_ : Aside0 (wc.heap[gb277]? = some (.cells #[.int .i64 0, .int .i64 0] 43 (0, 0))) := ⟨by rw [← hq_]; exact (by (with_reducible repeat (first | refine blk_drewN ?_ _ | refine blk_drew ?_ | refine blk_alloc ?_ _)); exact BK277.out)⟩; have n1_ : Aside0 (Below w.heap.size w wc) := ⟨by rw [← hq_]; exact (by repeat (first | (with_reducible first | exact HB.out | apply below_alloc | apply pw_below_drewN | apply below_drew1 | refine below_set ?_ GE277.out) | exact HB.out))⟩; clear BK277 HB hq_; have BK277 := n0_; have HB := n1_; clear n0_ n1_))) | ((with_reducible refine gate_callee (f := 87) rfl ?_); refine goesL_ (some 30) rfl rfl Try.func87 (by kernel_rfl) rfl #[.slice A0 l0.length c0] rfl (by (try simp only [List.map_toArray, List.map_cons, List.map_nil]); first | done | rfl | (simp only [List.length_drop, List.length_take]; rfl)) ?_; (with_reducible refine (secret_of.calls _ _ l0 t281 _ ?side1 ?side2 A14.out).mono ?_); (case side1 => repeat (first | exact (Kd.C_below HR0.out HB.out) | (with_reducible refine Kd.C_alloc ?_ _) | (with_reducible refine Kd.C_drewN ?_ _) | (with_reducible refine Kd.C_drew ?_))); (case side2 => exact HC0.out); rintro e w16 ⟨v282, rfl, ho0, hb⟩; refine ⟨_, rfl, ?_⟩; have n0_ := Aside0.mk (Kd.R_lower ho0 (below_size (by repeat (first | (with_reducible first | exact HB.out | apply below_alloc | apply pw_below_drewN | apply below_drew1 | refine below_set ?_ GE277.out) | exact HB.out)))); have n1_ := Aside0.mk (blk_below (g := gb277) (o := .cells #[.int .i64 0, .int .i64 0] 43 (0, 0)) (by (with_reducible repeat (first | refine blk_drewN ?_ _ | refine blk_drew ?_ | refine blk_alloc ?_ _)); exact BK277.out) hb); have n2_ := Aside0.mk (below_step (by repeat (first | (with_reducible first | exact HB.out | apply below_alloc | apply pw_below_drewN | apply below_drew1 | refine below_set ?_ GE277.out) | exact HB.out)) hb); clear BK277; clear HB; have HO283 := n0_; have BK277 := n1_; have HB := n2_; clear n0_ n1_ n2_; (try clear hb); (try clear hb2); (try clear hk); (try clear hi); (try clear ho0); obtain ⟨Ao17, co17, eo17⟩ := Kd.R_slice HO283.out; subst eo17) | ((with_reducible refine gate_callee (f := 80) rfl ?_); refine goesL_ (some 32) rfl rfl Try.func80 (by kernel_rfl) rfl #[.slice Ao17 t281.length co17, .int .i64 a1] rfl (by (try simp only [List.map_toArray, List.map_cons, List.map_nil]); first | done | rfl | (simp only [List.length_drop, List.length_take]; rfl)) ?_; (with_reducible refine (secret_curve_at.calls _ _ t281 a1 t284 _ ?side1 ?side2 A15.out).mono ?_); (case side1 => repeat (first | exact (Kd.R_reads' HO283.out).2.2 | (with_reducible refine Kd.C_alloc ?_ _) | (with_reducible refine Kd.C_drewN ?_ _) | (with_reducible refine Kd.C_drew ?_))); (case side2 => exact (Kd.R_reads' HO283.out).2.1); rintro e w18 ⟨rfl, hb⟩; refine ⟨_, rfl, ?_⟩; have n0_ := Aside0.mk (Kd.R_below (by (with_reducible repeat (first | apply Kd.R_alloc | apply Kd.R_drewN | apply Kd.R_drew)); exact HO283.out) hb); have n1_ := Aside0.mk (blk_below (g := gb277) (o := .cells #[.int .i64 0, .int .i64 0] 43 (0, 0)) (by (with_reducible repeat (first | refine blk_drewN ?_ _ | refine blk_drew ?_ | refine blk_alloc ?_ _)); exact BK277.out) hb); have n2_ := Aside0.mk (below_step (by repeat (first | (with_reducible first | exact HB.out | apply below_alloc | apply pw_below_drewN | apply below_drew1 | refine below_set ?_ GE277.out) | exact HB.out)) hb); clear HO283; clear BK277; clear HB; have HO283 := n0_; have BK277 := n1_; have HB := n2_; clear n0_ n1_ n2_; (try clear hb); (try clear hb2); (try clear hk); (try clear hi); have hcz19_0 : w18.cell? ⟨gb277, 0, none⟩ = some (.int .i64 0) := (blk_cell BK277.out 0).trans rfl; have hcz19_1 : w18.cell? ⟨gb277, 1, none⟩ = some (.int .i64 0) := (blk_cell BK277.out 1).trans rfl; have hfz19_0 := blk_frozen BK277.out 0; have hfz19_1 := blk_frozen BK277.out 1))
            refine bodyPost_ret (results_ct rfl _ _ gb277 43 #[.int .i64 a1, .int .i64 t284] (0, 0) _ rfl (by (with_reducible repeat (first | refine blk_drewN ?_ _ | refine blk_drew ?_ | refine blk_alloc ?_ _)); refine blk_put (cs := #[.int .i64 a1, .int .i64 0]) ?_ 1 _ rfl; (with_reducible repeat (first | refine blk_drewN ?_ _ | refine blk_drew ?_ | refine blk_alloc ?_ _)); refine blk_put (cs := #[.int .i64 0, .int .i64 0]) ?_ 0 _ rfl; (with_reducible repeat (first | refine blk_drewN ?_ _ | refine blk_drew ?_ | refine blk_alloc ?_ _)); exact BK277.out) Try.underlying43 rfl (by kernel_rfl)) rfl ?_
            exact ⟨by first | rfl | (simp [errW_none, errW_some] <;> rfl) | (simp [*, errW_none, errW_some] <;> rfl), by repeat (first | (with_reducible first | exact HB.out | apply below_alloc | apply pw_below_drewN | apply below_drew1 | refine below_set ?_ GE277.out) | exact HB.out)⟩
          · rw [if_neg c13] at H
            have c13b0 : (t280 == 0) = false := beq_eq_false_iff_ne.mpr c13
            have c13b1 : (t280 != 0) = true := bne_iff_ne.mpr c13
            simp only [Option.some.injEq, Prod.mk.injEq] at H
            obtain ⟨rfl, rfl, rfl⟩ := H
            go_wp2_with (first | ((with_reducible refine gate_callee (f := 86) rfl ?_); refine goesL_ (some 23) rfl rfl Try.func86 (by kernel_rfl) rfl #[.slice A0 l0.length c0] rfl (by (try simp only [List.map_toArray, List.map_cons, List.map_nil]); first | done | rfl | (simp only [List.length_drop, List.length_take]; rfl)) ?_; (with_reducible refine (secret_some.calls _ _ l0 t280 _ ?side1 ?side2 A12.out).mono ?_); (case side1 => repeat (first | exact (Kd.C_below HR0.out HB.out) | (with_reducible refine Kd.C_alloc ?_ _) | (with_reducible refine Kd.C_drewN ?_ _) | (with_reducible refine Kd.C_drew ?_))); (case side2 => exact HC0.out); rintro e w' ⟨rfl, ⟨nd, rfl⟩⟩; refine ⟨_, rfl, ?_⟩; (try (rw [drewN_self wc]; generalize hq_ : World.drewN wc _ = wc; have n0_ : Aside0 (wc.heap[gb277]? = some (.cells #[.int .i64 0, .int .i64 0] 43 (0, 0))) := ⟨by rw [← hq_]; exact (by (with_reducible repeat (first | refine blk_drewN ?_ _ | refine blk_drew ?_ | refine blk_alloc ?_ _)); exact BK277.out)⟩; have n1_ : Aside0 (Below w.heap.size w wc) := ⟨by rw [← hq_]; exact (by repeat (first | (with_reducible first | exact HB.out | apply below_alloc | apply pw_below_drewN | apply below_drew1 | refine below_set ?_ GE277.out) | exact HB.out))⟩; clear BK277 HB hq_; have BK277 := n0_; have HB := n1_; clear n0_ n1_)); have hcz20_0 : wc.cell? ⟨gb277, 0, none⟩ = some (.int .i64 0) := (blk_cell BK277.out 0).trans rfl; have hcz20_1 : wc.cell? ⟨gb277, 1, none⟩ = some (.int .i64 0) := (blk_cell BK277.out 1).trans rfl; have hfz20_0 := blk_frozen BK277.out 0; have hfz20_1 := blk_frozen BK277.out 1))
            refine bodyPost_ret (results_ct rfl _ _ gb277 43 #[.int .i64 0, .int .i64 0] (0, 0) _ rfl (by (with_reducible repeat (first | refine blk_drewN ?_ _ | refine blk_drew ?_ | refine blk_alloc ?_ _)); refine blk_put (cs := #[.int .i64 0, .int .i64 0]) ?_ 1 _ rfl; (with_reducible repeat (first | refine blk_drewN ?_ _ | refine blk_drew ?_ | refine blk_alloc ?_ _)); refine blk_put (cs := #[.int .i64 0, .int .i64 0]) ?_ 0 _ rfl; (with_reducible repeat (first | refine blk_drewN ?_ _ | refine blk_drew ?_ | refine blk_alloc ?_ _)); exact BK277.out) Try.underlying43 rfl (by kernel_rfl)) rfl ?_
            exact ⟨by first | rfl | (simp [errW_none, errW_some] <;> rfl) | (simp [*, errW_none, errW_some] <;> rfl), by repeat (first | (with_reducible first | exact HB.out | apply below_alloc | apply pw_below_drewN | apply below_drew1 | refine below_set ?_ GE277.out) | exact HB.out)⟩
  · rw [if_neg c4] at H
    have c4b0 : (t278 == 0) = false := beq_eq_false_iff_ne.mpr c4
    have c4b1 : (t278 != 0) = true := bne_iff_ne.mpr c4
    simp only [Option.some.injEq, Prod.mk.injEq] at H
    obtain ⟨rfl, rfl, rfl⟩ := H
    go_enter Try.func49, Try.ntmps49
    go_wp2_with (first | ((with_reducible refine gate_dst (N := 4) rfl ?_); refine box_event ?hg (N := 4) ?hd (cs := #[.int .i64 0, .int .i64 0]) (t := 43) ?hr ?_; (case hd => rfl); (case hg => rfl); (case hr => first | (go_simp; done) | (go_simp; rfl)); intro gb277 hg w21 hbox hb; have n0_ := Aside0.mk (below_step (by repeat (first | (with_reducible first | exact HB.out | apply below_alloc | apply pw_below_drewN | apply below_drew1) | exact HB.out)) hb); have n1_ := Aside0.mk (hbox); have n2_ := Aside0.mk ((by rw [hg]; exact (below_size (by repeat (first | (with_reducible first | exact HB.out | apply below_alloc | apply pw_below_drewN | apply below_drew1) | exact HB.out))) : w.heap.size ≤ gb277)); have n3_ := Aside0.mk ((by rw [hg]; exact (below_size (by repeat (first | (with_reducible first | exact HB.out | apply below_alloc | apply pw_below_drewN | apply below_drew1) | exact HB.out))) : w.heap.size ≤ gb277)); clear HB; have HB := n0_; have BK277 := n1_; have GW277 := n2_; have GE277 := n3_; clear n0_ n1_ n2_ n3_; clear hb hbox hg) | ((with_reducible refine gate_callee (f := 65) rfl ?_); refine goesL_ (some 9) rfl rfl Try.func65 (by kernel_rfl) rfl #[.slice A0 l0.length c0] rfl (by (try simp only [List.map_toArray, List.map_cons, List.map_nil]); first | done | rfl | (simp only [List.length_drop, List.length_take]; rfl)) ?_; (with_reducible refine (secret_Validate.calls _ _ l0 t278 _ ?side1 ?side2 A3.out).mono ?_); (case side1 => repeat (first | exact (Kd.C_below HR0.out HB.out) | (with_reducible refine Kd.C_alloc ?_ _) | (with_reducible refine Kd.C_drewN ?_ _) | (with_reducible refine Kd.C_drew ?_))); (case side2 => exact HC0.out); rintro e w22 ⟨rfl, hb⟩; refine ⟨_, rfl, ?_⟩; have n0_ := Aside0.mk (blk_below (g := gb277) (o := .cells #[.int .i64 0, .int .i64 0] 43 (0, 0)) (by (with_reducible repeat (first | refine blk_drewN ?_ _ | refine blk_drew ?_ | refine blk_alloc ?_ _)); exact BK277.out) hb); have n1_ := Aside0.mk (below_step (by repeat (first | (with_reducible first | exact HB.out | apply below_alloc | apply pw_below_drewN | apply below_drew1 | refine below_set ?_ GE277.out) | exact HB.out)) hb); clear BK277; clear HB; have BK277 := n0_; have HB := n1_; clear n0_ n1_; (try clear hb); (try clear hb2); (try clear hk); (try clear hi); have hcz23_0 : w22.cell? ⟨gb277, 0, none⟩ = some (.int .i64 0) := (blk_cell BK277.out 0).trans rfl; have hcz23_1 : w22.cell? ⟨gb277, 1, none⟩ = some (.int .i64 0) := (blk_cell BK277.out 1).trans rfl; have hfz23_0 := blk_frozen BK277.out 0; have hfz23_1 := blk_frozen BK277.out 1))
    refine bodyPost_ret (results_ct rfl _ _ gb277 43 #[.int .i64 0, .int .i64 0] (0, 0) _ rfl (by (with_reducible repeat (first | refine blk_drewN ?_ _ | refine blk_drew ?_ | refine blk_alloc ?_ _)); refine blk_put (cs := #[.int .i64 0, .int .i64 0]) ?_ 1 _ rfl; (with_reducible repeat (first | refine blk_drewN ?_ _ | refine blk_drew ?_ | refine blk_alloc ?_ _)); refine blk_put (cs := #[.int .i64 0, .int .i64 0]) ?_ 0 _ rfl; (with_reducible repeat (first | refine blk_drewN ?_ _ | refine blk_drew ?_ | refine blk_alloc ?_ _)); exact BK277.out) Try.underlying43 rfl (by kernel_rfl)) rfl ?_
    exact ⟨by first | rfl | (simp [errW_none, errW_some] <;> rfl) | (simp [*, errW_none, errW_some] <;> rfl), by repeat (first | (with_reducible first | exact HB.out | apply below_alloc | apply pw_below_drewN | apply below_drew1 | refine below_set ?_ GE277.out) | exact HB.out)⟩

end Go.Proofs.Ythlbjdiicmojfaa.P

/-! Part PF51. -/
-- Written for this claim by wip/print_more.py (a session's program that runs the kit's printer with hand-proved functions beside). Lean checks it.
namespace Go.Proofs.Ythlbjdiicmojfaa.P
open Go.RowKit Go.Proofs.YthlbjdiicmojfaaW.PrintWords Go.Proofs.YthlbjdiicmojfaaW.PrintLast Go.Proofs.YthlbjdiicmojfaaW.PrintMore
attribute [local go_sem] max2_int min2_int max_two min_two max_three min_three max_four min_four   -- for this text's walks alone
set_option linter.unusedVariables false
set_option linter.unusedSimpArgs false

/-! ### secret_Share: function 51 -/
def secret_Share.l0 : Nat → List Int → Int → List (S43) → Int → Option ((List (S43)) × Int)
  | 0, _, _, _, _ => none
  | k + 1, x0, x1, x7, x8 => if x8 ≤ x1 then ((secret_curve_at.f x0 x8).bind fun t117 => (if x7.length < 8796093022208 then (secret_Share.l0 k x0 x1 (x7 ++ [(⟨x8, t117⟩ : S43)]) (wrap64 (x8 + 1))) else (none))) else (some (x7, 0))
def secret_Share.f (k : Nat) (l0 : List Int) (a1 : Int) : Option ((List (S43)) × Int) := (secret_isCurve.f l0).bind fun t115 => (if t115 = 0 then ((secret_within.f a1 1 12).bind fun t116 => (if t116 = true then (secret_Share.l0 k l0 a1 ([] : List (S43)) 1) else (some (([] : List (S43)), 1)))) else (some (([] : List (S43)), t115)))
set_option maxHeartbeats 8000000 in
set_option maxRecDepth 100000 in
theorem secret_Share.calls (k : Nat) (A0 : Option Addr) (c0 : Nat) (l0 : List Int) (a1 : Int) (r1 : List (S43)) (r2 : Int) (w : World) (hr0 : Kd.C (Kd.int .i64) w A0 l0.length l0) (hc0 : l0.length ≤ c0) (h : secret_Share.f k l0 a1 = some (r1, r2)) :
    Calls Try.prog 51 #[.slice A0 l0.length c0, .int .i64 a1] w fun e w' => ∃ v0_ : Value, e = .returned (.tuple #[v0_, .int .i64 r2]) ∧ Kd.R k43 43 w' w.heap.size (fun _ => True) v0_ r1 ∧ Below w.heap.size w w' := by
  have hu43 := Try.underlying43
  have HR0 := Aside0.mk hr0
  have HC0 := Aside0.mk hc0
  clear hr0 hc0
  have HB := Aside0.mk (Below.refl w.heap.size w)
  have H : ((secret_isCurve.f l0).bind fun t115 => (if t115 = 0 then ((secret_within.f a1 1 12).bind fun t116 => (if t116 = true then (secret_Share.l0 k l0 a1 ([] : List (S43)) 1) else (some (([] : List (S43)), 1)))) else (some (([] : List (S43)), t115)))) = some (r1, r2) := h
  clear h
  replace H := Option.bind_eq_some_iff.mp H
  obtain ⟨t115, A30, H⟩ := H
  replace H : (if t115 = 0 then ((secret_within.f a1 1 12).bind fun t116 => (if t116 = true then (secret_Share.l0 k l0 a1 ([] : List (S43)) 1) else (some (([] : List (S43)), 1)))) else (some (([] : List (S43)), t115))) = some (r1, r2) := H
  have A3 := Aside0.mk A30
  clear A30
  by_cases c4 : t115 = 0
  · rw [if_pos c4] at H
    have c4b0 : (t115 == 0) = true := beq_iff_eq.mpr c4
    have c4b1 : (t115 != 0) = false := bne_eq_false_iff_eq.mpr c4
    clear c4
    replace H := Option.bind_eq_some_iff.mp H
    obtain ⟨t116, A50, H⟩ := H
    replace H : (if t116 = true then (secret_Share.l0 k l0 a1 ([] : List (S43)) 1) else (some (([] : List (S43)), 1))) = some (r1, r2) := H
    have A5 := Aside0.mk A50
    clear A50
    by_cases c6 : t116 = true
    · subst c6
      have H1 : (secret_Share.l0 k l0 a1 ([] : List (S43)) 1) = some (r1, r2) := by rw [if_pos rfl] at H; exact H
      clear H
      have H := H1
      clear H1
      have H' := Aside0.mk H
      clear H
      go_enter Try.func51, Try.ntmps51
      go_wp2_with (first | ((with_reducible refine gate_callee (f := 79) rfl ?_); refine goesL_ (some 10) rfl rfl Try.func79 (by kernel_rfl) rfl #[.slice A0 l0.length c0] rfl (by (try simp only [List.map_toArray, List.map_cons, List.map_nil]); first | done | rfl | (simp only [List.length_drop, List.length_take]; rfl)) ?_; (with_reducible refine (secret_isCurve.calls _ _ l0 t115 _ ?side1 ?side2 A3.out).mono ?_); (case side1 => repeat (first | exact HR0.out | (with_reducible refine Kd.C_alloc ?_ _) | (with_reducible refine Kd.C_drewN ?_ _) | (with_reducible refine Kd.C_drew ?_))); (case side2 => exact HC0.out); rintro e w7 ⟨rfl, hb⟩; refine ⟨_, rfl, ?_⟩; have n0_ := Aside0.mk (below_step (by repeat (first | (with_reducible first | exact HB.out | apply below_alloc | apply pw_below_drewN | apply below_drew1) | exact HB.out)) hb); clear HB; have HB := n0_; clear n0_; (try clear hb); (try clear hb2); (try clear hk); (try clear hi)) | ((with_reducible refine gate_callee (f := 88) rfl ?_); refine goesL_ (some 15) rfl rfl Try.func88 (by kernel_rfl) rfl #[.int .i64 a1, .int .i64 1, .int .i64 12] rfl (by (try simp only [List.map_toArray, List.map_cons, List.map_nil]); first | done | rfl | (simp only [List.length_drop, List.length_take]; rfl)) ?_; (with_reducible refine (secret_within.calls a1 1 12 true _ A5.out).mono ?_); rintro e w' ⟨rfl, ⟨nd, rfl⟩⟩; refine ⟨_, rfl, ?_⟩))
      go_loopg [7, 8] k (fun kq v7 v8 w' => ∃ (x7_1 : List (S43)) (x8_1 : Int), v8 = .int .i64 x8_1 ∧ Aside0 (secret_Share.l0 kq l0 a1 x7_1 x8_1 = some (r1, r2)) ∧ Aside0 (kq ≤ k) ∧ Aside0 (Kd.R k43 43 w' w.heap.size (fun _ => True) v7 x7_1) ∧ Aside0 (Below w.heap.size w w'))
      case atStart => exact ⟨(([] : List (S43))), (1), (by first | rfl | (simp; done) | (simp [*]; done)), H', ⟨Nat.le_refl _⟩, ⟨by first | exact Kd.R_nil _ _ _ _ _ | exact Kd.N_nil _ _ _ _ _ | exact Kd.V_nil _ _ _ _ _ | exact Kd.Q_nil _ _ _ _ _ | exact Kd.S_nil _ _ _ _ _⟩, ⟨by repeat (first | (with_reducible first | exact HB.out | apply below_alloc | apply pw_below_drewN | apply below_drew1) | exact HB.out)⟩⟩
      case round =>
        clear H'
        try clear p2
        try clear c4
        try clear c4b0
        try clear c4b1
        try clear c5
        try clear c6
        try clear c7
        obtain ⟨x7_1, x8_1, rfl, HA, HK1, HO_7, HB⟩ := hrel
        cases gk with
        | zero => exact absurd HA.out (by simp [secret_Share.l0])
        | succ k1 =>
          have H := HA.out
          clear HA
          simp only [secret_Share.l0] at H
          by_cases c8 : x8_1 ≤ a1
          · rw [if_pos c8] at H
            have c8b0 : decide (x8_1 ≤ a1) = true := decide_eq_true c8
            clear c8
            replace H := Option.bind_eq_some_iff.mp H
            obtain ⟨t117, A90, H⟩ := H
            replace H : (if x7_1.length < 8796093022208 then (secret_Share.l0 k1 l0 a1 (x7_1 ++ [(⟨x8_1, t117⟩ : S43)]) (wrap64 (x8_1 + 1))) else (none)) = some (r1, r2) := H
            have A9 := Aside0.mk A90
            clear A90
            by_cases c10 : x7_1.length < 8796093022208
            · rw [if_pos c10] at H
              have LMc10 := Aside0.mk c10
              clear c10
              obtain ⟨y118, hy118⟩ : ∃ y_ : List (S43), y_ = (x7_1 ++ [(⟨x8_1, t117⟩ : S43)]) := ⟨_, rfl⟩
              replace H : (secret_Share.l0 k1 l0 a1 y118 (wrap64 (x8_1 + 1))) = some (r1, r2) := by first | (rw [hy118]; with_reducible exact H) | (have H2_ := (Option.bind_some _ _).symm.trans H; rw [hy118]; with_reducible exact H2_) | (have H2_ := (Option.bind_some _ _).symm.trans H; with_reducible exact H2_) | with_reducible exact H | (rw [hy118]; exact H) | exact H
              have Ny118 := Aside0.mk hy118
              clear hy118
              have H' := Aside0.mk H
              clear H
              go_wp2_with (first | ((with_reducible refine gate_callee (f := 80) rfl ?_); refine goesL_ (some 26) rfl rfl Try.func80 (by kernel_rfl) rfl #[.slice A0 l0.length c0, .int .i64 x8_1] rfl (by (try simp only [List.map_toArray, List.map_cons, List.map_nil]); first | done | rfl | (simp only [List.length_drop, List.length_take]; rfl)) ?_; (with_reducible refine (secret_curve_at.calls _ _ l0 x8_1 t117 _ ?side1 ?side2 A9.out).mono ?_); (case side1 => repeat (first | exact (Kd.C_below HR0.out HB.out) | (with_reducible refine Kd.C_alloc ?_ _) | (with_reducible refine Kd.C_drewN ?_ _) | (with_reducible refine Kd.C_drew ?_))); (case side2 => exact HC0.out); rintro e w11 ⟨rfl, hb⟩; refine ⟨_, rfl, ?_⟩; have n0_ := Aside0.mk (Kd.R_below (by (with_reducible repeat (first | apply Kd.R_alloc | apply Kd.R_drewN | apply Kd.R_drew)); exact HO_7.out) hb); have n1_ := Aside0.mk (below_step (by repeat (first | (with_reducible first | exact HB.out | apply below_alloc | apply pw_below_drewN | apply below_drew1) | exact HB.out)) hb); clear HO_7; clear HB; have HO_7 := n0_; have HB := n1_; clear n0_ n1_; (try clear hb); (try clear hb2); (try clear hk); (try clear hi)) | ((with_reducible refine gate_builtin (b := .append) (xs := #[.tmp 22, .tmp 28]) rfl ?_); at_builtin; refine Kd.R_append k43 (w0 := w) w.heap.size rfl (.tmp 22) (.tmp 28) 22 43 (.agg #[(.int .i64 0), (.int .i64 0)]) 16 rfl Try.underlying22 info43 rfl (by decide) (by omega) u7 x7_1 (⟨x8_1, t117⟩ : S43) [.int .i64 x8_1, .int .i64 t117] (fun _ => True) (fun _ => False) rfl rfl ?aP (fun _ hk => hk.elim) ?aF ?aO ?aB ?aS ?aL ?_; (case aP => exact k43_mkM _ _ _ (⟨x8_1, t117⟩ : S43)); (case aB => exact (by repeat (first | (with_reducible first | exact HB.out | apply below_alloc | apply pw_below_drewN | apply below_drew1) | exact HB.out))); (case aF => exact (fun _ _ => trivial)); (case aO => exact (by (with_reducible repeat (first | apply Kd.R_alloc | apply Kd.R_drewN | apply Kd.R_drew)); exact HO_7.out)); (case aS => exact (below_size (by repeat (first | (with_reducible first | exact HB.out | apply below_alloc | apply pw_below_drewN | apply below_drew1) | exact HB.out)))); (case aL => have := LMc10.out; omega); intro v119 w12 ho hb hg hat; rw [← Ny118.out] at ho; have n0_ := Aside0.mk (hb); have n1_ := Aside0.mk (ho); clear HB; clear HO_7; have HB := n0_; have HO120 := n1_; clear n0_ n1_; clear ho hb hg hat))
              go_roundg k1
              case measure => have := HK1.out; omega
              case rel => exact ⟨(y118), (wrap64 (x8_1 + 1)), (by first | rfl | (simp; done) | (simp [*]; done)), H', ⟨by have := HK1.out; omega⟩, ⟨by (with_reducible repeat (first | apply Kd.R_alloc | apply Kd.R_drewN | apply Kd.R_drew)); exact HO120.out⟩, ⟨by repeat (first | (with_reducible first | exact HB.out | apply below_alloc | apply pw_below_drewN | apply below_drew1) | exact HB.out)⟩⟩
            · rw [if_neg c10] at H
              exact absurd H (by simp)
          · rw [if_neg c8] at H
            have c8b0 : decide (x8_1 ≤ a1) = false := decide_eq_false c8
            clear c8
            simp only [Option.some.injEq, Prod.mk.injEq] at H
            obtain ⟨rfl, rfl⟩ := H
            go_wp2
            go_ret2
            exact ⟨_, by first | rfl | (simp [errW_none, errW_some] <;> rfl) | (simp [*, errW_none, errW_some] <;> rfl), by (with_reducible repeat (first | apply Kd.R_alloc | apply Kd.R_drewN | apply Kd.R_drew)); exact HO_7.out, by repeat (first | (with_reducible first | exact HB.out | apply below_alloc | apply pw_below_drewN | apply below_drew1) | exact HB.out)⟩
    · replace c6 := Bool.eq_false_iff.mpr c6
      subst c6
      have H1 : (some (([] : List (S43)), 1)) = some (r1, r2) := by rw [if_neg (show ¬ (false = true) by decide)] at H; exact H
      clear H
      have H := H1
      clear H1
      simp only [Option.some.injEq, Prod.mk.injEq] at H
      obtain ⟨rfl, rfl⟩ := H
      go_enter Try.func51, Try.ntmps51
      go_wp2_with (first | ((with_reducible refine gate_callee (f := 79) rfl ?_); refine goesL_ (some 10) rfl rfl Try.func79 (by kernel_rfl) rfl #[.slice A0 l0.length c0] rfl (by (try simp only [List.map_toArray, List.map_cons, List.map_nil]); first | done | rfl | (simp only [List.length_drop, List.length_take]; rfl)) ?_; (with_reducible refine (secret_isCurve.calls _ _ l0 t115 _ ?side1 ?side2 A3.out).mono ?_); (case side1 => repeat (first | exact HR0.out | (with_reducible refine Kd.C_alloc ?_ _) | (with_reducible refine Kd.C_drewN ?_ _) | (with_reducible refine Kd.C_drew ?_))); (case side2 => exact HC0.out); rintro e w13 ⟨rfl, hb⟩; refine ⟨_, rfl, ?_⟩; have n0_ := Aside0.mk (below_step (by repeat (first | (with_reducible first | exact HB.out | apply below_alloc | apply pw_below_drewN | apply below_drew1) | exact HB.out)) hb); clear HB; have HB := n0_; clear n0_; (try clear hb); (try clear hb2); (try clear hk); (try clear hi)) | ((with_reducible refine gate_callee (f := 88) rfl ?_); refine goesL_ (some 15) rfl rfl Try.func88 (by kernel_rfl) rfl #[.int .i64 a1, .int .i64 1, .int .i64 12] rfl (by (try simp only [List.map_toArray, List.map_cons, List.map_nil]); first | done | rfl | (simp only [List.length_drop, List.length_take]; rfl)) ?_; (with_reducible refine (secret_within.calls a1 1 12 false _ A5.out).mono ?_); rintro e w' ⟨rfl, ⟨nd, rfl⟩⟩; refine ⟨_, rfl, ?_⟩))
      go_ret2
      exact ⟨_, by first | rfl | (simp [errW_none, errW_some] <;> rfl) | (simp [*, errW_none, errW_some] <;> rfl), by first | exact Kd.R_nil _ _ _ _ _ | exact Kd.N_nil _ _ _ _ _ | exact Kd.V_nil _ _ _ _ _ | exact Kd.Q_nil _ _ _ _ _ | exact Kd.S_nil _ _ _ _ _, by repeat (first | (with_reducible first | exact HB.out | apply below_alloc | apply pw_below_drewN | apply below_drew1) | exact HB.out)⟩
  · rw [if_neg c4] at H
    have c4b0 : (t115 == 0) = false := beq_eq_false_iff_ne.mpr c4
    have c4b1 : (t115 != 0) = true := bne_iff_ne.mpr c4
    simp only [Option.some.injEq, Prod.mk.injEq] at H
    obtain ⟨rfl, rfl⟩ := H
    go_enter Try.func51, Try.ntmps51
    go_wp2_with (first | ((with_reducible refine gate_callee (f := 79) rfl ?_); refine goesL_ (some 10) rfl rfl Try.func79 (by kernel_rfl) rfl #[.slice A0 l0.length c0] rfl (by (try simp only [List.map_toArray, List.map_cons, List.map_nil]); first | done | rfl | (simp only [List.length_drop, List.length_take]; rfl)) ?_; (with_reducible refine (secret_isCurve.calls _ _ l0 t115 _ ?side1 ?side2 A3.out).mono ?_); (case side1 => repeat (first | exact HR0.out | (with_reducible refine Kd.C_alloc ?_ _) | (with_reducible refine Kd.C_drewN ?_ _) | (with_reducible refine Kd.C_drew ?_))); (case side2 => exact HC0.out); rintro e w14 ⟨rfl, hb⟩; refine ⟨_, rfl, ?_⟩; have n0_ := Aside0.mk (below_step (by repeat (first | (with_reducible first | exact HB.out | apply below_alloc | apply pw_below_drewN | apply below_drew1) | exact HB.out)) hb); clear HB; have HB := n0_; clear n0_; (try clear hb); (try clear hb2); (try clear hk); (try clear hi)))
    go_ret2
    exact ⟨_, by first | rfl | (simp [errW_none, errW_some] <;> rfl) | (simp [*, errW_none, errW_some] <;> rfl), by first | exact Kd.R_nil _ _ _ _ _ | exact Kd.N_nil _ _ _ _ _ | exact Kd.V_nil _ _ _ _ _ | exact Kd.Q_nil _ _ _ _ _ | exact Kd.S_nil _ _ _ _ _, by repeat (first | (with_reducible first | exact HB.out | apply below_alloc | apply pw_below_drewN | apply below_drew1) | exact HB.out)⟩

end Go.Proofs.Ythlbjdiicmojfaa.P

/-! Part PF89. -/
-- Written for this claim by wip/print_more.py (a session's program that runs the kit's printer with hand-proved functions beside). Lean checks it.
namespace Go.Proofs.Ythlbjdiicmojfaa.P
open Go.RowKit Go.Proofs.YthlbjdiicmojfaaW.PrintWords Go.Proofs.YthlbjdiicmojfaaW.PrintLast Go.Proofs.YthlbjdiicmojfaaW.PrintMore
attribute [local go_sem] max2_int min2_int max_two min_two max_three min_three max_four min_four   -- for this text's walks alone
set_option linter.unusedVariables false
set_option linter.unusedSimpArgs false

/-! ### secret_needed: function 89 -/
def secret_needed.f (l0 : List (S43)) (a1 : Int) : Option (Int) := (secret_Validate.f l0).bind fun t304 => (if t304 = 0 then ((secret_within.f a1 1 6).bind fun t305 => (if t305 = true then (some 0) else (some 1))) else (some t304))
set_option maxHeartbeats 8000000 in
set_option maxRecDepth 100000 in
theorem secret_needed.calls (A0 : Option Addr) (c0 : Nat) (l0 : List (S43)) (a1 : Int) (r : Int) (w : World) (hr0 : Kd.C k43 w A0 l0.length l0) (hc0 : l0.length ≤ c0) (h : secret_needed.f l0 a1 = some r) :
    Calls Try.prog 89 #[.slice A0 l0.length c0, .int .i64 a1] w fun e w' => e = .returned (.int .i64 r) ∧ Below w.heap.size w w' := by
  have HR0 := Aside0.mk hr0
  have HC0 := Aside0.mk hc0
  clear hr0 hc0
  have HB := Aside0.mk (Below.refl w.heap.size w)
  have H : ((secret_Validate.f l0).bind fun t304 => (if t304 = 0 then ((secret_within.f a1 1 6).bind fun t305 => (if t305 = true then (some 0) else (some 1))) else (some t304))) = some r := h
  clear h
  replace H := Option.bind_eq_some_iff.mp H
  obtain ⟨t304, A30, H⟩ := H
  replace H : (if t304 = 0 then ((secret_within.f a1 1 6).bind fun t305 => (if t305 = true then (some 0) else (some 1))) else (some t304)) = some r := H
  have A3 := Aside0.mk A30
  clear A30
  by_cases c4 : t304 = 0
  · rw [if_pos c4] at H
    have c4b0 : (t304 == 0) = true := beq_iff_eq.mpr c4
    have c4b1 : (t304 != 0) = false := bne_eq_false_iff_eq.mpr c4
    clear c4
    replace H := Option.bind_eq_some_iff.mp H
    obtain ⟨t305, A50, H⟩ := H
    replace H : (if t305 = true then (some 0) else (some 1)) = some r := H
    have A5 := Aside0.mk A50
    clear A50
    by_cases c6 : t305 = true
    · subst c6
      have H1 : (some 0) = some r := by rw [if_pos rfl] at H; exact H
      clear H
      have H := H1
      clear H1
      obtain rfl := Option.some.inj H
      go_enter Try.func89, Try.ntmps89
      go_wp2_with (first | ((with_reducible refine gate_callee (f := 65) rfl ?_); refine goesL_ (some 7) rfl rfl Try.func65 (by kernel_rfl) rfl #[.slice A0 l0.length c0] rfl (by (try simp only [List.map_toArray, List.map_cons, List.map_nil]); first | done | rfl | (simp only [List.length_drop, List.length_take]; rfl)) ?_; (with_reducible refine (secret_Validate.calls _ _ l0 t304 _ ?side1 ?side2 A3.out).mono ?_); (case side1 => repeat (first | exact HR0.out | (with_reducible refine Kd.C_alloc ?_ _) | (with_reducible refine Kd.C_drewN ?_ _) | (with_reducible refine Kd.C_drew ?_))); (case side2 => exact HC0.out); rintro e w7 ⟨rfl, hb⟩; refine ⟨_, rfl, ?_⟩; have n0_ := Aside0.mk (below_step (by repeat (first | (with_reducible first | exact HB.out | apply below_alloc | apply pw_below_drewN | apply below_drew1) | exact HB.out)) hb); clear HB; have HB := n0_; clear n0_; (try clear hb); (try clear hb2); (try clear hk); (try clear hi)) | ((with_reducible refine gate_callee (f := 88) rfl ?_); refine goesL_ (some 12) rfl rfl Try.func88 (by kernel_rfl) rfl #[.int .i64 a1, .int .i64 1, .int .i64 6] rfl (by (try simp only [List.map_toArray, List.map_cons, List.map_nil]); first | done | rfl | (simp only [List.length_drop, List.length_take]; rfl)) ?_; (with_reducible refine (secret_within.calls a1 1 6 true _ A5.out).mono ?_); rintro e w' ⟨rfl, ⟨nd, rfl⟩⟩; refine ⟨_, rfl, ?_⟩))
      go_ret
      exact ⟨by first | rfl | (simp [errW_none, errW_some] <;> rfl) | (simp [*, errW_none, errW_some] <;> rfl), by repeat (first | (with_reducible first | exact HB.out | apply below_alloc | apply pw_below_drewN | apply below_drew1) | exact HB.out)⟩
    · replace c6 := Bool.eq_false_iff.mpr c6
      subst c6
      have H1 : (some 1) = some r := by rw [if_neg (show ¬ (false = true) by decide)] at H; exact H
      clear H
      have H := H1
      clear H1
      obtain rfl := Option.some.inj H
      go_enter Try.func89, Try.ntmps89
      go_wp2_with (first | ((with_reducible refine gate_callee (f := 65) rfl ?_); refine goesL_ (some 7) rfl rfl Try.func65 (by kernel_rfl) rfl #[.slice A0 l0.length c0] rfl (by (try simp only [List.map_toArray, List.map_cons, List.map_nil]); first | done | rfl | (simp only [List.length_drop, List.length_take]; rfl)) ?_; (with_reducible refine (secret_Validate.calls _ _ l0 t304 _ ?side1 ?side2 A3.out).mono ?_); (case side1 => repeat (first | exact HR0.out | (with_reducible refine Kd.C_alloc ?_ _) | (with_reducible refine Kd.C_drewN ?_ _) | (with_reducible refine Kd.C_drew ?_))); (case side2 => exact HC0.out); rintro e w8 ⟨rfl, hb⟩; refine ⟨_, rfl, ?_⟩; have n0_ := Aside0.mk (below_step (by repeat (first | (with_reducible first | exact HB.out | apply below_alloc | apply pw_below_drewN | apply below_drew1) | exact HB.out)) hb); clear HB; have HB := n0_; clear n0_; (try clear hb); (try clear hb2); (try clear hk); (try clear hi)) | ((with_reducible refine gate_callee (f := 88) rfl ?_); refine goesL_ (some 12) rfl rfl Try.func88 (by kernel_rfl) rfl #[.int .i64 a1, .int .i64 1, .int .i64 6] rfl (by (try simp only [List.map_toArray, List.map_cons, List.map_nil]); first | done | rfl | (simp only [List.length_drop, List.length_take]; rfl)) ?_; (with_reducible refine (secret_within.calls a1 1 6 false _ A5.out).mono ?_); rintro e w' ⟨rfl, ⟨nd, rfl⟩⟩; refine ⟨_, rfl, ?_⟩))
      go_ret
      exact ⟨by first | rfl | (simp [errW_none, errW_some] <;> rfl) | (simp [*, errW_none, errW_some] <;> rfl), by repeat (first | (with_reducible first | exact HB.out | apply below_alloc | apply pw_below_drewN | apply below_drew1) | exact HB.out)⟩
  · rw [if_neg c4] at H
    have c4b0 : (t304 == 0) = false := beq_eq_false_iff_ne.mpr c4
    have c4b1 : (t304 != 0) = true := bne_iff_ne.mpr c4
    obtain rfl := Option.some.inj H
    go_enter Try.func89, Try.ntmps89
    go_wp2_with (first | ((with_reducible refine gate_callee (f := 65) rfl ?_); refine goesL_ (some 7) rfl rfl Try.func65 (by kernel_rfl) rfl #[.slice A0 l0.length c0] rfl (by (try simp only [List.map_toArray, List.map_cons, List.map_nil]); first | done | rfl | (simp only [List.length_drop, List.length_take]; rfl)) ?_; (with_reducible refine (secret_Validate.calls _ _ l0 t304 _ ?side1 ?side2 A3.out).mono ?_); (case side1 => repeat (first | exact HR0.out | (with_reducible refine Kd.C_alloc ?_ _) | (with_reducible refine Kd.C_drewN ?_ _) | (with_reducible refine Kd.C_drew ?_))); (case side2 => exact HC0.out); rintro e w9 ⟨rfl, hb⟩; refine ⟨_, rfl, ?_⟩; have n0_ := Aside0.mk (below_step (by repeat (first | (with_reducible first | exact HB.out | apply below_alloc | apply pw_below_drewN | apply below_drew1) | exact HB.out)) hb); clear HB; have HB := n0_; clear n0_; (try clear hb); (try clear hb2); (try clear hk); (try clear hi)))
    go_ret
    exact ⟨by first | rfl | (simp [errW_none, errW_some] <;> rfl) | (simp [*, errW_none, errW_some] <;> rfl), by repeat (first | (with_reducible first | exact HB.out | apply below_alloc | apply pw_below_drewN | apply below_drew1) | exact HB.out)⟩

end Go.Proofs.Ythlbjdiicmojfaa.P

/-! Part H90. -/
namespace Go.Proofs.Ythlbjdiicmojfaa.P
open Go.RowKit Go.Proofs.YthlbjdiicmojfaaW.PrintWords Go.Proofs.YthlbjdiicmojfaaW.PrintLast Go.Proofs.YthlbjdiicmojfaaW.PrintMore
set_option linter.unusedVariables false

set_option maxHeartbeats 4000000 in
set_option maxRecDepth 100000 in
theorem off113 (x y : Int) (B : Nat) (A : Option Addr) (cap : Nat) (c : List Int) (r : Int) (w : World) (hB : w.heap[B]? = some (.cells #[.slice A c.length cap] 68 (0, 0))) (hC : Kd.C (Kd.int .i64) w A c.length c) (hc : c.length ≤ cap) (h : secret_curve_at.f c x = some r) :
    Calls Try.prog 113 #[.agg #[.int .i64 x, .int .i64 y], .pointer (some ⟨B, 0, none⟩)] w fun e w' => e = .returned (.bool (r != y)) ∧ Below w.heap.size w w' := by
  have hu43 := Try.underlying43
  have hal := below_alloc (Below.refl w.heap.size w) (.cells #[.int .i64 x, .int .i64 y] 43)
  have hc1 : (w.alloc (.cells #[.int .i64 x, .int .i64 y] 43)).cell? ⟨B, 0, none⟩ = some (.slice A c.length cap) := pw_cell_below hal (blk_cell hB 0)
  have hc2 : (w.alloc (.cells #[.int .i64 x, .int .i64 y] 43)).cell? ⟨w.heap.size, 0, none⟩ = some (.int .i64 x) := blk_cell (alloc_new w (.cells #[.int .i64 x, .int .i64 y] 43)).2 0
  have hc3 : (w.alloc (.cells #[.int .i64 x, .int .i64 y] 43)).cell? ⟨w.heap.size, 1, none⟩ = some (.int .i64 y) := blk_cell (alloc_new w (.cells #[.int .i64 x, .int .i64 y] 43)).2 1
  have HAL := Aside0.mk hal
  have HC := Aside0.mk (Kd.C_below hC hal)
  have H1 := Aside0.mk hc1
  have H2 := Aside0.mk hc2
  have H3 := Aside0.mk hc3
  have HL := Aside0.mk hc
  have HF := Aside0.mk h
  obtain ⟨n0, hn0⟩ : ∃ n0, w.heap.size = n0 := ⟨_, rfl⟩
  have HN0 := Aside0.mk hn0
  clear hal hc1 hc2 hc3 hB hC hc h
  rw [hn0] at HAL H2 H3
  go_enter Try.func113, Try.ntmps113
  go_wp2_with fail
  clear hn0
  generalize w.alloc (.cells #[.int .i64 x, .int .i64 y] 43) = w1 at HAL HC H1 H2 H3 ⊢
  have h1 := H1.out
  have h2 := H2.out
  have h3 := H3.out
  go_region_held3 (fun w' => w'.cell? ⟨B, 0, none⟩ = some (.slice A c.length cap) ∧ w'.cell? ⟨n0, 0, none⟩ = some (.int .i64 x) ∧ w'.cell? ⟨n0, 1, none⟩ = some (.int .i64 y))
    (first | go_keep | exact ⟨HK1.out, HK2.out, HK3.out⟩)
    ((go_at_call 80; refine (secret_curve_at.calls A cap c x r _ (Kd.C_drew HC.out) HL.out HF.out).mono ?_; rintro e w2 ⟨rfl, hb⟩; have HK1 := Aside0.mk (pw_cell_below hb H1.out); have HK2 := Aside0.mk (pw_cell_below hb H2.out); have HK3 := Aside0.mk (pw_cell_below hb H3.out); have HB2 := Aside0.mk (hb); clear hb))
  go_wp2_with fail
  go_ret
  have hfin := HAL.out
  rw [← HN0.out] at hfin
  exact ⟨rfl, below_step (below_drew hfin) HB2.out⟩

theorem eg113 : ∀ args w, (callFunc 113 args).run Try.prog w = .ok (.enter 113 args) w := enters_of Try.func113 (by kernel_rfl) rfl
theorem interp_length (p : List (Int × Int)) : (interp p).length = p.length := interpTo_length p p.length (Nat.le_refl _)
theorem interp_num (p : List (Int × Int)) : ∀ n ∈ interp p, num n = true := interpTo_num p p.length
theorem at_eq {c : List Int} {x : Int} (h : ∀ n ∈ c, num n = true) (hl : c.length ≤ 12) (hx : num x = true) : secret_curve_at.f c x = some (atI c x) := by
  unfold secret_curve_at.f
  rw [if_pos]
  simp only [Bool.and_eq_true, List.all_eq_true, decide_eq_true_eq]
  exact ⟨⟨h, hx⟩, hl⟩
theorem valid_take {l : List S43} (h : valid l = 0) (n : Nat) : valid (l.take n) = 0 := by
  obtain ⟨h1, h2, h3⟩ := valid_iff.1 h
  refine valid_iff.2 ⟨by rw [List.length_take]; omega, fun p hp => h2 p (List.mem_of_mem_take hp), ?_⟩
  rw [List.map_take]
  exact h3.sublist (List.take_sublist _ _)
theorem not_any_ne (l : List S43) (c : List Int) : (!(l.any fun q => atI c q.f0 != q.f1)) = l.all fun q => atI c q.f0 == q.f1 := by
  rw [List.not_any_eq_all_not]
  congr 1
  funext q
  simp [bne]

set_option maxHeartbeats 4000000 in
set_option maxRecDepth 100000 in
theorem secret_lieOn.calls (A0 : Option Addr) (c0 : Nat) (l0 : List (S43)) (a1 : Int) (r : Bool) (w : World) (hr0 : Kd.C k43 w A0 l0.length l0) (hc0 : l0.length ≤ c0) (h : secret_lieOn.f l0 a1 = some r) :
    Calls Try.prog 90 #[.slice A0 l0.length c0, .int .i64 a1] w fun e w' => e = .returned (.bool r) ∧ Below w.heap.size w w' := by
  unfold secret_lieOn.f at h
  split at h
  · rename_i hg
    obtain ⟨hv, h1, h6⟩ := hg
    obtain ⟨n, rfl⟩ := Int.eq_ofNat_of_zero_le (show 0 ≤ a1 by omega)
    rw [Int.toNat_natCast] at h
    have hr := Option.some.inj h
    have HR := Aside0.mk hr
    have hu43 := Try.underlying43
    clear h hr
    by_cases hle : l0.length ≤ n
    · have HE : Aside0 (lies l0 n = true) := ⟨by unfold lies; simp [hle]⟩
      have hlez : (l0.length : Int) ≤ (n : Int) := by omega
      clear hr0
      go_enter Try.func90, Try.ntmps90
      go_wp2_with fail
      go_ret
      exact ⟨by rw [← HR.out, HE.out]; rfl, Below.refl _ _⟩
    · have hlez : ¬ (l0.length : Int) ≤ (n : Int) := by omega
      have hlt2 : (l0.take n).length = n := by rw [List.length_take]; omega
      have hvt := valid_take hv n
      have HO := Aside0.mk (secret_of.calls A0 c0 (l0.take n) (interp (pts (l0.take n))) w (Kd.C_take hr0 (by omega)) (by omega) (by unfold secret_of.f; rw [if_pos hvt]))
      rw [hlt2] at HO
      have hcl : (interp (pts (l0.take n))).length = n := by rw [interp_length, pts, List.length_map, hlt2]
      have HE : Aside0 (lies l0 n = l0.all fun q => atI (interp (pts (l0.take n))) q.f0 == q.f1) := ⟨by unfold lies; rw [show decide (l0.length ≤ n) = false by simp; omega, Bool.false_or]⟩
      have hat : ∀ q ∈ l0, secret_curve_at.f (interp (pts (l0.take n))) q.f0 = some (atI (interp (pts (l0.take n))) q.f0) := fun q hq => at_eq (interp_num _) (by omega) (num_iff.2 (by have := okP_iff.1 ((valid_iff.1 hv).2.1 q hq); omega))
      have HAT := Aside0.mk hat
      have HCL := Aside0.mk hcl
      obtain ⟨c, hc⟩ : ∃ c, interp (pts (l0.take n)) = c := ⟨_, rfl⟩
      rw [hc] at HO HE HAT HCL
      have HR0 := Aside0.mk hr0
      have HC0 := Aside0.mk hc0
      have hnc : n ≤ c0 := by omega
      have hnl : (n : Int) ≤ (l0.length : Int) := by omega
      clear hc hcl hat hvt hlt2 hv hr0 hc0
      go_enter Try.func90, Try.ntmps90
      go_wp2_with fail
      with_reducible refine HO.out.mono ?_
      rintro e w1 ⟨v, rfl, hR, hb⟩
      obtain ⟨A, cap, e1⟩ := Kd.R_slice hR
      subst e1
      have HB := Aside0.mk hb
      have HRR := Aside0.mk hR
      clear hR hb HO
      obtain ⟨n1, hn1⟩ : ∃ n1, w1.heap.size = n1 := ⟨_, rfl⟩
      have HN1 := Aside0.mk hn1
      clear hn1
      go_wp2_with fail
      have hpred : PredB 113 #[.pointer (some ⟨w1.heap.size, 0, none⟩)] enc43 (fun q => atI c q.f0 != q.f1) l0 (w1.alloc (.cells #[.slice A c.length cap] 68)) := fun W q hq hb =>
        off113 q.f0 q.f1 w1.heap.size A cap c _ W ((hb.block w1.heap.size (alloc_new w1 _).1).trans (alloc_new w1 _).2) (Kd.C_below (Kd.C_alloc (Kd.R_reads' HRR.out).2.2 _) hb) (Kd.R_reads' HRR.out).2.1 (HAT.out q hq)
      with_reducible refine (contains43 A0 c0 l0 113 _ _ eg113 _ (Kd.C_alloc (Kd.C_below HR0.out HB.out) _) hpred).mono ?_
      rintro e w2 ⟨rfl, hb2⟩
      have HB2 := Aside0.mk (below_step (below_alloc HB.out _) hb2)
      clear hb2 hpred
      generalize hbv : (l0.any fun q => atI c q.f0 != q.f1) = bv
      have HBV := Aside0.mk hbv
      clear hbv
      go_wp2_with fail
      go_ret
      exact ⟨by rw [← HR.out, HE.out, ← not_any_ne, HBV.out]; rfl, HB2.out⟩
  · cases h
end Go.Proofs.Ythlbjdiicmojfaa.P

/-! Part PF53. -/
-- Written for this claim by wip/print_more.py (a session's program that runs the kit's printer with hand-proved functions beside). Lean checks it.
namespace Go.Proofs.Ythlbjdiicmojfaa.P
open Go.RowKit Go.Proofs.YthlbjdiicmojfaaW.PrintWords Go.Proofs.YthlbjdiicmojfaaW.PrintLast Go.Proofs.YthlbjdiicmojfaaW.PrintMore
attribute [local go_sem] max2_int min2_int max_two min_two max_three min_three max_four min_four   -- for this text's walks alone
set_option linter.unusedVariables false
set_option linter.unusedSimpArgs false

/-! ### secret_LieOn: function 53 -/
def secret_LieOn.f (l0 : List (S43)) (a1 : Int) : Option (Bool × Int) := (secret_needed.f l0 a1).bind fun t306 => (if t306 = 0 then ((secret_lieOn.f l0 a1).bind fun t307 => (some (t307, 0))) else (some (false, t306)))
set_option maxHeartbeats 8000000 in
set_option maxRecDepth 100000 in
theorem secret_LieOn.calls (A0 : Option Addr) (c0 : Nat) (l0 : List (S43)) (a1 : Int) (r1 : Bool) (r2 : Int) (w : World) (hr0 : Kd.C k43 w A0 l0.length l0) (hc0 : l0.length ≤ c0) (h : secret_LieOn.f l0 a1 = some (r1, r2)) :
    Calls Try.prog 53 #[.slice A0 l0.length c0, .int .i64 a1] w fun e w' => e = .returned (.tuple #[.bool r1, .int .i64 r2]) ∧ Below w.heap.size w w' := by
  have HR0 := Aside0.mk hr0
  have HC0 := Aside0.mk hc0
  clear hr0 hc0
  have HB := Aside0.mk (Below.refl w.heap.size w)
  have H : ((secret_needed.f l0 a1).bind fun t306 => (if t306 = 0 then ((secret_lieOn.f l0 a1).bind fun t307 => (some (t307, 0))) else (some (false, t306)))) = some (r1, r2) := h
  clear h
  replace H := Option.bind_eq_some_iff.mp H
  obtain ⟨t306, A30, H⟩ := H
  replace H : (if t306 = 0 then ((secret_lieOn.f l0 a1).bind fun t307 => (some (t307, 0))) else (some (false, t306))) = some (r1, r2) := H
  have A3 := Aside0.mk A30
  clear A30
  by_cases c4 : t306 = 0
  · rw [if_pos c4] at H
    have c4b0 : (t306 == 0) = true := beq_iff_eq.mpr c4
    have c4b1 : (t306 != 0) = false := bne_eq_false_iff_eq.mpr c4
    clear c4
    replace H := Option.bind_eq_some_iff.mp H
    obtain ⟨t307, A50, H⟩ := H
    replace H : (some (t307, 0)) = some (r1, r2) := H
    have A5 := Aside0.mk A50
    clear A50
    simp only [Option.some.injEq, Prod.mk.injEq] at H
    obtain ⟨rfl, rfl⟩ := H
    go_enter Try.func53, Try.ntmps53
    go_wp2_with (first | ((with_reducible refine gate_callee (f := 89) rfl ?_); refine goesL_ (some 9) rfl rfl Try.func89 (by kernel_rfl) rfl #[.slice A0 l0.length c0, .int .i64 a1] rfl (by (try simp only [List.map_toArray, List.map_cons, List.map_nil]); first | done | rfl | (simp only [List.length_drop, List.length_take]; rfl)) ?_; (with_reducible refine (secret_needed.calls _ _ l0 a1 t306 _ ?side1 ?side2 A3.out).mono ?_); (case side1 => repeat (first | exact HR0.out | (with_reducible refine Kd.C_alloc ?_ _) | (with_reducible refine Kd.C_drewN ?_ _) | (with_reducible refine Kd.C_drew ?_))); (case side2 => exact HC0.out); rintro e w6 ⟨rfl, hb⟩; refine ⟨_, rfl, ?_⟩; have n0_ := Aside0.mk (below_step (by repeat (first | (with_reducible first | exact HB.out | apply below_alloc | apply pw_below_drewN | apply below_drew1) | exact HB.out)) hb); clear HB; have HB := n0_; clear n0_; (try clear hb); (try clear hb2); (try clear hk); (try clear hi)) | ((with_reducible refine gate_callee (f := 90) rfl ?_); refine goesL_ (some 15) rfl rfl Try.func90 (by kernel_rfl) rfl #[.slice A0 l0.length c0, .int .i64 a1] rfl (by (try simp only [List.map_toArray, List.map_cons, List.map_nil]); first | done | rfl | (simp only [List.length_drop, List.length_take]; rfl)) ?_; (with_reducible refine (secret_lieOn.calls _ _ l0 a1 t307 _ ?side1 ?side2 A5.out).mono ?_); (case side1 => repeat (first | exact (Kd.C_below HR0.out HB.out) | (with_reducible refine Kd.C_alloc ?_ _) | (with_reducible refine Kd.C_drewN ?_ _) | (with_reducible refine Kd.C_drew ?_))); (case side2 => exact HC0.out); rintro e w7 ⟨rfl, hb⟩; refine ⟨_, rfl, ?_⟩; have n0_ := Aside0.mk (below_step (by repeat (first | (with_reducible first | exact HB.out | apply below_alloc | apply pw_below_drewN | apply below_drew1) | exact HB.out)) hb); clear HB; have HB := n0_; clear n0_; (try clear hb); (try clear hb2); (try clear hk); (try clear hi)))
    go_ret2
    exact ⟨by first | rfl | (simp [errW_none, errW_some] <;> rfl) | (simp [*, errW_none, errW_some] <;> rfl), by repeat (first | (with_reducible first | exact HB.out | apply below_alloc | apply pw_below_drewN | apply below_drew1) | exact HB.out)⟩
  · rw [if_neg c4] at H
    have c4b0 : (t306 == 0) = false := beq_eq_false_iff_ne.mpr c4
    have c4b1 : (t306 != 0) = true := bne_iff_ne.mpr c4
    simp only [Option.some.injEq, Prod.mk.injEq] at H
    obtain ⟨rfl, rfl⟩ := H
    go_enter Try.func53, Try.ntmps53
    go_wp2_with (first | ((with_reducible refine gate_callee (f := 89) rfl ?_); refine goesL_ (some 9) rfl rfl Try.func89 (by kernel_rfl) rfl #[.slice A0 l0.length c0, .int .i64 a1] rfl (by (try simp only [List.map_toArray, List.map_cons, List.map_nil]); first | done | rfl | (simp only [List.length_drop, List.length_take]; rfl)) ?_; (with_reducible refine (secret_needed.calls _ _ l0 a1 t306 _ ?side1 ?side2 A3.out).mono ?_); (case side1 => repeat (first | exact HR0.out | (with_reducible refine Kd.C_alloc ?_ _) | (with_reducible refine Kd.C_drewN ?_ _) | (with_reducible refine Kd.C_drew ?_))); (case side2 => exact HC0.out); rintro e w8 ⟨rfl, hb⟩; refine ⟨_, rfl, ?_⟩; have n0_ := Aside0.mk (below_step (by repeat (first | (with_reducible first | exact HB.out | apply below_alloc | apply pw_below_drewN | apply below_drew1) | exact HB.out)) hb); clear HB; have HB := n0_; clear n0_; (try clear hb); (try clear hb2); (try clear hk); (try clear hi)))
    go_ret2
    exact ⟨by first | rfl | (simp [errW_none, errW_some] <;> rfl) | (simp [*, errW_none, errW_some] <;> rfl), by repeat (first | (with_reducible first | exact HB.out | apply below_alloc | apply pw_below_drewN | apply below_drew1) | exact HB.out)⟩

end Go.Proofs.Ythlbjdiicmojfaa.P
