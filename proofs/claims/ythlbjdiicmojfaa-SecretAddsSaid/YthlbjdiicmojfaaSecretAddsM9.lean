/- Parts of the proof of the law SecretAdds: walks of functions that it reaches, and plain facts about numbers, lists and curves; without a condition. -/
import Derived.Test.YthlbjdiicmojfaaSecretAddsM1
import Derived.Test.YthlbjdiicmojfaaSecretAddsM4
import Derived.Test.YthlbjdiicmojfaaSecretAddsM5
import Derived.Test.YthlbjdiicmojfaaSecretAddsM8
/-! Part PF69. -/
-- Written for this claim by wip/print_more.py (a session's program that runs the kit's printer with hand-proved functions beside). Lean checks it.
namespace Go.Proofs.Ythlbjdiicmojfaa.P
open Go.RowKit Go.Proofs.YthlbjdiicmojfaaW.PrintWords Go.Proofs.YthlbjdiicmojfaaW.PrintLast Go.Proofs.YthlbjdiicmojfaaW.PrintMore
attribute [local go_sem] max2_int min2_int max_two min_two max_three min_three max_four min_four   -- for this text's walks alone
set_option linter.unusedVariables false
set_option linter.unusedSimpArgs false

/-! ### verditerref08_Renew: function 69 -/
def verditerref08_Renew.l0 : Nat → List (S43) → List Int → List (S43) → Int → Option ((List (S43)) × Int)
  | 0, _, _, _, _ => none
  | k + 1, x0, x1, x7, x8 => if x8 < (x0.length : Int) then (if 0 ≤ x8 then ((verditerref08_at.f k x1 ((rd_T43 x0 x8).f0)).bind fun t537 => ((verditerref08_mod.f (wrap64 (((rd_T43 x0 x8).f1) + t537))).bind fun t538 => (if x7.length < 8796093022208 then (verditerref08_Renew.l0 k x0 x1 (x7 ++ [(⟨(rd_T43 x0 x8).f0, t538⟩ : S43)]) (wrap64 (x8 + 1))) else (none)))) else (none)) else (some (x7, 0))
def verditerref08_Renew.f (k : Nat) (l0 : List (S43)) (l1 : List Int) : Option ((List (S43)) × Int) := (verditerref08_Validate.f k l0).bind fun t531 => (if t531 = 0 then ((verditerref08_curved.f k l1).bind fun t532 => (if t532 = 0 then (if 0 < (l1.length : Int) then (if (rd l1 0) = 0 then (verditerref08_Renew.l0 k l0 l1 ([] : List (S43)) 0) else (some (([] : List (S43)), 8))) else (none)) else (some (([] : List (S43)), t532)))) else (some (([] : List (S43)), t531)))
theorem verditerref08_Renew.mono_l : ∀ k, (∀ y0 y1 y2 y3, LeO (verditerref08_Renew.l0 k y0 y1 y2 y3) (verditerref08_Renew.l0 (k + 1) y0 y1 y2 y3))
  | 0 => fun _ _ _ _ r h => by simp [verditerref08_Renew.l0] at h
  | k + 1 => by
    have ih0 := verditerref08_Renew.mono_l k
    · intro y0 y1 y2 y3
      unfold verditerref08_Renew.l0
      repeat' first
      | (with_reducible exact ih0 _ _ _ _)
      | (with_reducible exact verditerref08_Validate.mono _ _)
      | (with_reducible exact verditerref08_at.mono _ _ _)
      | (with_reducible exact verditerref08_curved.mono _ _)
      | (with_reducible exact LeO.refl _)
      | (with_reducible exact LeO.none _)
      | (with_reducible refine LeO.ite ?_ ?_)
      | (with_reducible refine LeO.bind ?_ (fun _ => ?_))
      | exact ih0 _ _ _ _
      | exact verditerref08_Validate.mono _ _
      | exact verditerref08_at.mono _ _ _
      | exact verditerref08_curved.mono _ _
      | exact LeO.none _
      | refine LeO.ite ?_ ?_
      | refine LeO.bind ?_ (fun _ => ?_)
theorem verditerref08_Renew.mono : ∀ a0 a1 k, LeO (verditerref08_Renew.f k a0 a1) (verditerref08_Renew.f (k + 1) a0 a1) := by
  intro a0 a1 k
  have ih0 := verditerref08_Renew.mono_l k
  unfold verditerref08_Renew.f
  repeat' first
      | (with_reducible exact ih0 _ _ _ _)
      | (with_reducible exact verditerref08_Validate.mono _ _)
      | (with_reducible exact verditerref08_at.mono _ _ _)
      | (with_reducible exact verditerref08_curved.mono _ _)
      | (with_reducible exact LeO.refl _)
      | (with_reducible exact LeO.none _)
      | (with_reducible refine LeO.ite ?_ ?_)
      | (with_reducible refine LeO.bind ?_ (fun _ => ?_))
      | exact ih0 _ _ _ _
      | exact verditerref08_Validate.mono _ _
      | exact verditerref08_at.mono _ _ _
      | exact verditerref08_curved.mono _ _
      | exact LeO.none _
      | refine LeO.ite ?_ ?_
      | refine LeO.bind ?_ (fun _ => ?_)
def verditerref08_Renew.T13 : Bool × List (List Nat × List Nat) := (true, [([], []), ([], []), ([], []), ([1, 2], [1, 2]), ([3], [3]), ([4], [4]), ([], []), ([], []), ([6, 7], [6, 7]), ([8], [8]), ([9], [9]), ([], []), ([], []), ([], []), ([12, 13], [12, 13]), ([14], [14]), ([15], [15]), ([11, 16], [11, 16]), ([10, 17], [10, 17]), ([18, 17], [18]), ([5, 19], [5, 19]), ([20], [20]), ([0, 21, 19], [0, 21]), ([22, 22, 0, 1, 2, 3, 4, 5, 6, 7, 8, 9, 10, 11, 12, 13, 14, 15, 16, 17, 18, 19, 20, 21, 22], [0, 22])])
def verditerref08_Renew.B13 : List Nat := [0, 0, 0, 6, 14, 30, 0, 0, 192, 448, 960, 0, 0, 0, 12288, 28672, 61440, 129024, 262080, 524224, 1048574, 2097150, 4194303, 8388607]
theorem verditerref08_Renew.tab13 : rtab .any (opsOf Try.f69 13) = verditerref08_Renew.T13 := by kernel_rfl
theorem verditerref08_Renew.bits13 : waitsOk verditerref08_Renew.T13.2 verditerref08_Renew.B13 = true := by kernel_rfl
set_option maxHeartbeats 8000000 in
set_option maxRecDepth 100000 in
theorem verditerref08_Renew.calls (k : Nat) (A0 : Option Addr) (c0 : Nat) (l0 : List (S43)) (A1 : Option Addr) (c1 : Nat) (l1 : List Int) (r1 : List (S43)) (r2 : Int) (w : World) (hr0 : Kd.C k43 w A0 l0.length l0) (hc0 : l0.length ≤ c0) (hr1 : Kd.C (Kd.int .i64) w A1 l1.length l1) (hc1 : l1.length ≤ c1) (h : verditerref08_Renew.f k l0 l1 = some (r1, r2)) :
    Calls Try.prog 69 #[.slice A0 l0.length c0, .slice A1 l1.length c1] w fun e w' => ∃ v0_ : Value, e = .returned (.tuple #[v0_, .int .i64 r2]) ∧ Kd.R k43 43 w' w.heap.size (fun _ => True) v0_ r1 ∧ Below w.heap.size w w' := by
  have hu43 := Try.underlying43
  have HR0 := Aside0.mk hr0
  have HC0 := Aside0.mk hc0
  clear hr0 hc0
  have HR1 := Aside0.mk hr1
  have HC1 := Aside0.mk hc1
  clear hr1 hc1
  have HB := Aside0.mk (Below.refl w.heap.size w)
  have H : ((verditerref08_Validate.f k l0).bind fun t531 => (if t531 = 0 then ((verditerref08_curved.f k l1).bind fun t532 => (if t532 = 0 then (if 0 < (l1.length : Int) then (if (rd l1 0) = 0 then (verditerref08_Renew.l0 k l0 l1 ([] : List (S43)) 0) else (some (([] : List (S43)), 8))) else (none)) else (some (([] : List (S43)), t532)))) else (some (([] : List (S43)), t531)))) = some (r1, r2) := h
  clear h
  replace H := Option.bind_eq_some_iff.mp H
  obtain ⟨t531, A30, H⟩ := H
  replace H : (if t531 = 0 then ((verditerref08_curved.f k l1).bind fun t532 => (if t532 = 0 then (if 0 < (l1.length : Int) then (if (rd l1 0) = 0 then (verditerref08_Renew.l0 k l0 l1 ([] : List (S43)) 0) else (some (([] : List (S43)), 8))) else (none)) else (some (([] : List (S43)), t532)))) else (some (([] : List (S43)), t531))) = some (r1, r2) := H
  have A3 := Aside0.mk A30
  clear A30
  by_cases c4 : t531 = 0
  · rw [if_pos c4] at H
    have c4b0 : (t531 == 0) = true := beq_iff_eq.mpr c4
    have c4b1 : (t531 != 0) = false := bne_eq_false_iff_eq.mpr c4
    clear c4
    replace H := Option.bind_eq_some_iff.mp H
    obtain ⟨t532, A50, H⟩ := H
    replace H : (if t532 = 0 then (if 0 < (l1.length : Int) then (if (rd l1 0) = 0 then (verditerref08_Renew.l0 k l0 l1 ([] : List (S43)) 0) else (some (([] : List (S43)), 8))) else (none)) else (some (([] : List (S43)), t532))) = some (r1, r2) := H
    have A5 := Aside0.mk A50
    clear A50
    by_cases c6 : t532 = 0
    · rw [if_pos c6] at H
      have c6b0 : (t532 == 0) = true := beq_iff_eq.mpr c6
      have c6b1 : (t532 != 0) = false := bne_eq_false_iff_eq.mpr c6
      clear c6
      by_cases c7 : 0 < (l1.length : Int)
      · rw [if_pos c7] at H
        have c7b0 : decide (0 < (l1.length : Int)) = true := decide_eq_true c7
        have c7b1 : decide (0 < l1.length) = true := decide_eq_true (by omega)
        clear c7
        by_cases c8 : (rd l1 0) = 0
        · rw [if_pos c8] at H
          have c8b0 : ((rd l1 0) == 0) = true := beq_iff_eq.mpr c8
          have c8b1 : ((rd l1 0) != 0) = false := bne_eq_false_iff_eq.mpr c8
          clear c8
          have H' := Aside0.mk H
          clear H
          go_enter Try.func69, Try.ntmps69
          go_wp2_with (first | ((with_reducible refine gate_callee (f := 66) rfl ?_); refine goesL_ (some 10) rfl rfl Try.func66 (by kernel_rfl) rfl #[.slice A0 l0.length c0] rfl (by (try simp only [List.map_toArray, List.map_cons, List.map_nil]); first | done | rfl | (simp only [List.length_drop, List.length_take]; rfl)) ?_; (with_reducible refine (verditerref08_Validate.calls k _ _ l0 t531 _ ?side1 ?side2 A3.out).mono ?_); (case side1 => repeat (first | exact HR0.out | (with_reducible refine Kd.C_alloc ?_ _) | (with_reducible refine Kd.C_drewN ?_ _) | (with_reducible refine Kd.C_drew ?_))); (case side2 => exact HC0.out); rintro e w' ⟨rfl, ⟨nd, rfl⟩⟩; refine ⟨_, rfl, ?_⟩) | ((with_reducible refine gate_callee (f := 81) rfl ?_); refine goesL_ (some 15) rfl rfl Try.func81 (by kernel_rfl) rfl #[.slice A1 l1.length c1] rfl (by (try simp only [List.map_toArray, List.map_cons, List.map_nil]); first | done | rfl | (simp only [List.length_drop, List.length_take]; rfl)) ?_; (with_reducible refine (verditerref08_curved.calls k _ _ l1 t532 _ ?side1 ?side2 A5.out).mono ?_); (case side1 => repeat (first | exact HR1.out | (with_reducible refine Kd.C_alloc ?_ _) | (with_reducible refine Kd.C_drewN ?_ _) | (with_reducible refine Kd.C_drew ?_))); (case side2 => exact HC1.out); rintro e w' ⟨rfl, ⟨nd, rfl⟩⟩; refine ⟨_, rfl, ?_⟩; have p533 : 0 ≤ (0 : Int) := (by omega); have q533 : 0 < (l1.length : Int) := of_decide_eq_true (by first | (with_reducible assumption) | assumption); obtain ⟨ad533, e533, hx533_0⟩ := Kd.at_int HR1.out 0 p533 q533; cases e533; have qi533 : (0 < l1.length) = True := eq_true (by omega); (try rw [show ((0 : Int)).toNat = 0 from rfl] at hx533_0); (try rw [Addr.add_zero'] at hx533_0); replace p533 := eq_true p533; replace q533 := eq_true q533))
          go_loopg [7, 8] k (fun kq v7 v8 w' => ∃ (x7_1 : List (S43)) (x8_1 : Int), v8 = .int .i64 x8_1 ∧ Aside0 (verditerref08_Renew.l0 kq l0 l1 x7_1 x8_1 = some (r1, r2)) ∧ Aside0 (kq ≤ k) ∧ Aside0 (Kd.R k43 43 w' w.heap.size (fun _ => True) v7 x7_1) ∧ Aside0 (Below w.heap.size w w'))
          case atStart => exact ⟨(([] : List (S43))), (0), (by first | rfl | (simp; done) | (simp [*]; done)), H', ⟨Nat.le_refl _⟩, ⟨by first | exact Kd.R_nil _ _ _ _ _ | exact Kd.N_nil _ _ _ _ _ | exact Kd.V_nil _ _ _ _ _ | exact Kd.Q_nil _ _ _ _ _ | exact Kd.S_nil _ _ _ _ _⟩, ⟨by repeat (first | (with_reducible first | exact HB.out | apply below_alloc | apply pw_below_drewN | apply below_drew1) | exact HB.out)⟩⟩
          case round =>
            clear H'
            try clear c1
            try clear p2
            try clear c4
            try clear c4b0
            try clear c4b1
            try clear p5
            try clear q5
            try clear hx5
            try clear qi5
            try clear c6
            try clear c6b0
            try clear c6b1
            try clear c7
            try clear c7b0
            try clear c7b1
            try clear c8
            try clear c8b0
            try clear c8b1
            try clear hx533_0
            try clear p533
            try clear q533
            obtain ⟨x7_1, x8_1, rfl, HA, HK1, HO_7, HB⟩ := hrel
            cases gk with
            | zero => exact absurd HA.out (by simp [verditerref08_Renew.l0])
            | succ k1 =>
              have H := HA.out
              clear HA
              simp only [verditerref08_Renew.l0] at H
              by_cases c9 : x8_1 < (l0.length : Int)
              · rw [if_pos c9] at H
                have c9b0 : decide (x8_1 < (l0.length : Int)) = true := decide_eq_true c9
                clear c9
                by_cases c10 : 0 ≤ x8_1
                · rw [if_pos c10] at H
                  have c10b0 : decide (0 ≤ x8_1) = true := decide_eq_true c10
                  clear c10
                  replace H := Option.bind_eq_some_iff.mp H
                  obtain ⟨t537, A110, H⟩ := H
                  replace H : ((verditerref08_mod.f (wrap64 (((rd_T43 l0 x8_1).f1) + t537))).bind fun t538 => (if x7_1.length < 8796093022208 then (verditerref08_Renew.l0 k1 l0 l1 (x7_1 ++ [(⟨(rd_T43 l0 x8_1).f0, t538⟩ : S43)]) (wrap64 (x8_1 + 1))) else (none))) = some (r1, r2) := H
                  have A11 := Aside0.mk A110
                  clear A110
                  replace H := Option.bind_eq_some_iff.mp H
                  obtain ⟨t538, A120, H⟩ := H
                  replace H : (if x7_1.length < 8796093022208 then (verditerref08_Renew.l0 k1 l0 l1 (x7_1 ++ [(⟨(rd_T43 l0 x8_1).f0, t538⟩ : S43)]) (wrap64 (x8_1 + 1))) else (none)) = some (r1, r2) := H
                  have A12 := Aside0.mk A120
                  clear A120
                  by_cases c13 : x7_1.length < 8796093022208
                  · rw [if_pos c13] at H
                    have LMc13 := Aside0.mk c13
                    clear c13
                    obtain ⟨y539, hy539⟩ : ∃ y_ : List (S43), y_ = (x7_1 ++ [(⟨(rd_T43 l0 x8_1).f0, t538⟩ : S43)]) := ⟨_, rfl⟩
                    replace H : (verditerref08_Renew.l0 k1 l0 l1 y539 (wrap64 (x8_1 + 1))) = some (r1, r2) := by first | (rw [hy539]; with_reducible exact H) | (have H2_ := (Option.bind_some _ _).symm.trans H; rw [hy539]; with_reducible exact H2_) | (have H2_ := (Option.bind_some _ _).symm.trans H; with_reducible exact H2_) | with_reducible exact H | (rw [hy539]; exact H) | exact H
                    have Ny539 := Aside0.mk hy539
                    clear hy539
                    have H' := Aside0.mk H
                    clear H
                    try go_wp2
                    have n0_ := Aside0.mk (Kd.R_drew HO_7.out)
                    have n1_ := Aside0.mk (below_drew1 HB.out)
                    clear HO_7
                    clear HB
                    have HO_7 := n0_
                    have HB := n1_
                    clear n0_ n1_
                    have p534 : 0 ≤ (x8_1 : Int) := of_decide_eq_true (by first | (with_reducible assumption) | assumption)
                    have q534 : x8_1 < (l0.length : Int) := of_decide_eq_true (by first | (with_reducible assumption) | assumption)
                    obtain ⟨ad534, e534, hx534_0, hx534_1⟩ := at_T43 HR0.out x8_1 p534 q534
                    have hw534_1 := hx534_1
                    have hw534_0 := hx534_0
                    cases e534
                    replace hx534_0 := (HB.out.cell (World.block_lt_of_cell? w _ hx534_0)).trans hx534_0
                    replace hx534_1 := (HB.out.cell (World.block_lt_of_cell? w _ hx534_1)).trans hx534_1
                    replace p534 := eq_true p534
                    replace q534 := eq_true q534
                    have p535 : 0 ≤ (x8_1 : Int) := of_decide_eq_true (by first | (with_reducible assumption) | assumption)
                    have q535 : x8_1 < (l0.length : Int) := of_decide_eq_true (by first | (with_reducible assumption) | assumption)
                    obtain ⟨ad535, e535, hx535_0, hx535_1⟩ := at_T43 HR0.out x8_1 p535 q535
                    have hw535_1 := hx535_1
                    have hw535_0 := hx535_0
                    obtain rfl : ad534 = ad535 := (by injection e535)
                    replace hx535_0 := (HB.out.cell (World.block_lt_of_cell? w _ hx535_0)).trans hx535_0
                    replace hx535_1 := (HB.out.cell (World.block_lt_of_cell? w _ hx535_1)).trans hx535_1
                    replace p535 := eq_true p535
                    replace q535 := eq_true q535
                    have p536 : 0 ≤ (x8_1 : Int) := of_decide_eq_true (by first | (with_reducible assumption) | assumption)
                    have q536 : x8_1 < (l0.length : Int) := of_decide_eq_true (by first | (with_reducible assumption) | assumption)
                    obtain ⟨ad536, e536, hx536_0, hx536_1⟩ := at_T43 HR0.out x8_1 p536 q536
                    have hw536_1 := hx536_1
                    have hw536_0 := hx536_0
                    obtain rfl : ad534 = ad536 := (by injection e536)
                    replace hx536_0 := (HB.out.cell (World.block_lt_of_cell? w _ hx536_0)).trans hx536_0
                    replace hx536_1 := (HB.out.cell (World.block_lt_of_cell? w _ hx536_1)).trans hx536_1
                    replace p536 := eq_true p536
                    replace q536 := eq_true q536
                    refine start_ (n := 24) (S := fun w' => w'.cell? (ad534.add ((x8_1).toNat * 2)) = some (.int .i64 ((rd_T43 l0 x8_1).f0)) ∧ w'.cell? ⟨(ad534.add ((x8_1).toNat * 2)).block, (ad534.add ((x8_1).toNat * 2)).off + 1, none⟩ = some (.int .i64 ((rd_T43 l0 x8_1).f1)) ∧ w'.cell? (ad534.add ((x8_1).toNat * 2)) = some (.int .i64 ((rd_T43 l0 x8_1).f0)) ∧ w'.cell? ⟨(ad534.add ((x8_1).toNat * 2)).block, (ad534.add ((x8_1).toNat * 2)).off + 1, none⟩ = some (.int .i64 ((rd_T43 l0 x8_1).f1)) ∧ w'.cell? (ad534.add ((x8_1).toNat * 2)) = some (.int .i64 ((rd_T43 l0 x8_1).f0)) ∧ w'.cell? ⟨(ad534.add ((x8_1).toNat * 2)).block, (ad534.add ((x8_1).toNat * 2)).off + 1, none⟩ = some (.int .i64 ((rd_T43 l0 x8_1).f1))) (ds := []) #[false, false, false, false, false, false, false, false, false, false, false, false, false, false, false, false, false, false, false, false, false, false, false, false] (by kernel_rfl) rfl rfl ⟨((HB.out.cell (World.block_lt_of_cell? w _ hw534_0)).trans hw534_0), ((HB.out.cell (World.block_lt_of_cell? w _ hw534_1)).trans hw534_1), ((HB.out.cell (World.block_lt_of_cell? w _ hw535_0)).trans hw535_0), ((HB.out.cell (World.block_lt_of_cell? w _ hw535_1)).trans hw535_1), ((HB.out.cell (World.block_lt_of_cell? w _ hw536_0)).trans hw536_0), ((HB.out.cell (World.block_lt_of_cell? w _ hw536_1)).trans hw536_1)⟩ (fun hHeld => ?_); refine with_tabW verditerref08_Renew.tab13 verditerref08_Renew.bits13 (fun HT_ HW_ => ?_)
                    generalize wr.drew = w14 at HO_7 HB hx534_0 hx534_1 hx535_0 hx535_1 hx536_0 hx536_1 hHeld ⊢
                    refine pure_ (i := 0) (N := some 29) (v := ?_) (a' := ?_) #[true, false, false, false, false, false, false, false, false, false, false, false, false, false, false, false, false, false, false, false, false, false, false, false] rfl rfl (any_of HT_.out (by kernel_rfl)) (fun _ _ _ h => h) (Or.inl ⟨by rfl, ?_⟩) ?_ ?_
                    rotate_left
                    · intro w'
                      go_simp
                      with_reducible rfl
                    rotate_left
                    · simp only [Act.put, List.setIfInBounds_toArray, List.set_cons_zero, List.set_cons_succ, i64_w, i32_w]
                      rfl
                    refine pure_ (i := 1) (N := some 30) (v := ?_) (a' := ?_) #[true, true, false, false, false, false, false, false, false, false, false, false, false, false, false, false, false, false, false, false, false, false, false, false] rfl rfl (any_of HT_.out (by kernel_rfl)) (fun _ _ _ h => h) (Or.inl ⟨by rfl, ?_⟩) ?_ ?_
                    rotate_left
                    · intro w'
                      go_simp
                      with_reducible rfl
                    rotate_left
                    · simp only [Act.put, List.setIfInBounds_toArray, List.set_cons_zero, List.set_cons_succ, i64_w, i32_w]
                      rfl
                    refine pure_ (i := 2) (N := some 31) (v := ?_) (a' := ?_) #[true, true, true, false, false, false, false, false, false, false, false, false, false, false, false, false, false, false, false, false, false, false, false, false] rfl rfl (any_of HT_.out (by kernel_rfl)) (fun _ _ _ h => h) (Or.inl ⟨by rfl, ?_⟩) ?_ ?_
                    rotate_left
                    · intro w'
                      go_simp
                      with_reducible rfl
                    rotate_left
                    · simp only [Act.put, List.setIfInBounds_toArray, List.set_cons_zero, List.set_cons_succ, i64_w, i32_w]
                      rfl
                    refine pure_ (i := 3) (N := some 32) (v := ?_) (a' := ?_) #[true, true, true, true, false, false, false, false, false, false, false, false, false, false, false, false, false, false, false, false, false, false, false, false] rfl rfl (any_of HT_.out (by kernel_rfl)) (fun _ _ _ h => h) (Or.inl ⟨by rfl, ?_⟩) ?_ ?_
                    rotate_left
                    · intro w'
                      go_simp
                      with_reducible rfl
                    rotate_left
                    · simp only [Act.put, List.setIfInBounds_toArray, List.set_cons_zero, List.set_cons_succ, i64_w, i32_w]
                      rfl
                    refine pure_ (i := 4) (N := some 33) (v := ?_) (a' := ?_) #[true, true, true, true, true, false, false, false, false, false, false, false, false, false, false, false, false, false, false, false, false, false, false, false] rfl rfl (any_of HT_.out (by kernel_rfl)) (fun _ _ _ h => h) (Or.inl ⟨by rfl, ?_⟩) ?_ ?_
                    rotate_left
                    · intro w'
                      go_simp
                      with_reducible rfl
                    rotate_left
                    · simp only [Act.put, List.setIfInBounds_toArray, List.set_cons_zero, List.set_cons_succ, i64_w, i32_w]
                      rfl
                    refine pure_ (i := 6) (N := some 35) (v := ?_) (a' := ?_) #[true, true, true, true, true, false, true, false, false, false, false, false, false, false, false, false, false, false, false, false, false, false, false, false] rfl rfl (any_of HT_.out (by kernel_rfl)) (fun _ _ _ h => h) (Or.inl ⟨by rfl, ?_⟩) ?_ ?_
                    rotate_left
                    · intro w'
                      go_simp
                      with_reducible rfl
                    rotate_left
                    · simp only [Act.put, List.setIfInBounds_toArray, List.set_cons_zero, List.set_cons_succ, i64_w, i32_w]
                      rfl
                    refine pure_ (i := 7) (N := some 36) (v := ?_) (a' := ?_) #[true, true, true, true, true, false, true, true, false, false, false, false, false, false, false, false, false, false, false, false, false, false, false, false] rfl rfl (any_of HT_.out (by kernel_rfl)) (fun _ _ _ h => h) (Or.inl ⟨by rfl, ?_⟩) ?_ ?_
                    rotate_left
                    · intro w'
                      go_simp
                      with_reducible rfl
                    rotate_left
                    · simp only [Act.put, List.setIfInBounds_toArray, List.set_cons_zero, List.set_cons_succ, i64_w, i32_w]
                      rfl
                    refine pure_ (i := 8) (N := some 37) (v := ?_) (a' := ?_) #[true, true, true, true, true, false, true, true, true, false, false, false, false, false, false, false, false, false, false, false, false, false, false, false] rfl rfl (any_of HT_.out (by kernel_rfl)) (fun _ _ _ h => h) (Or.inl ⟨by rfl, ?_⟩) ?_ ?_
                    rotate_left
                    · intro w'
                      go_simp
                      with_reducible rfl
                    rotate_left
                    · simp only [Act.put, List.setIfInBounds_toArray, List.set_cons_zero, List.set_cons_succ, i64_w, i32_w]
                      rfl
                    refine pure_ (i := 9) (N := some 38) (v := ?_) (a' := ?_) #[true, true, true, true, true, false, true, true, true, true, false, false, false, false, false, false, false, false, false, false, false, false, false, false] rfl rfl (any_of HT_.out (by kernel_rfl)) (fun _ _ _ h => h) (Or.inl ⟨by rfl, ?_⟩) ?_ ?_
                    rotate_left
                    · intro w'
                      go_simp
                      with_reducible rfl
                    rotate_left
                    · simp only [Act.put, List.setIfInBounds_toArray, List.set_cons_zero, List.set_cons_succ, i64_w, i32_w]
                      rfl
                    refine pure_ (i := 11) (N := some 40) (v := ?_) (a' := ?_) #[true, true, true, true, true, false, true, true, true, true, false, true, false, false, false, false, false, false, false, false, false, false, false, false] rfl rfl (any_of HT_.out (by kernel_rfl)) (fun _ _ _ h => h) (Or.inl ⟨by rfl, ?_⟩) ?_ ?_
                    rotate_left
                    · intro w'
                      go_simp
                      with_reducible rfl
                    rotate_left
                    · simp only [Act.put, List.setIfInBounds_toArray, List.set_cons_zero, List.set_cons_succ, i64_w, i32_w]
                      rfl
                    refine pure_ (i := 12) (N := some 41) (v := ?_) (a' := ?_) #[true, true, true, true, true, false, true, true, true, true, false, true, true, false, false, false, false, false, false, false, false, false, false, false] rfl rfl (any_of HT_.out (by kernel_rfl)) (fun _ _ _ h => h) (Or.inl ⟨by rfl, ?_⟩) ?_ ?_
                    rotate_left
                    · intro w'
                      go_simp
                      with_reducible rfl
                    rotate_left
                    · simp only [Act.put, List.setIfInBounds_toArray, List.set_cons_zero, List.set_cons_succ, i64_w, i32_w]
                      rfl
                    refine pure_ (i := 13) (N := some 42) (v := ?_) (a' := ?_) #[true, true, true, true, true, false, true, true, true, true, false, true, true, true, false, false, false, false, false, false, false, false, false, false] rfl rfl (any_of HT_.out (by kernel_rfl)) (fun _ _ _ h => h) (Or.inl ⟨by rfl, ?_⟩) ?_ ?_
                    rotate_left
                    · intro w'
                      go_simp
                      with_reducible rfl
                    rotate_left
                    · simp only [Act.put, List.setIfInBounds_toArray, List.set_cons_zero, List.set_cons_succ, i64_w, i32_w]
                      rfl
                    refine pure_ (i := 14) (N := some 43) (v := ?_) (a' := ?_) #[true, true, true, true, true, false, true, true, true, true, false, true, true, true, true, false, false, false, false, false, false, false, false, false] rfl rfl (any_of HT_.out (by kernel_rfl)) (fun _ _ _ h => h) (Or.inl ⟨by rfl, ?_⟩) ?_ ?_
                    rotate_left
                    · intro w'
                      go_simp
                      with_reducible rfl
                    rotate_left
                    · simp only [Act.put, List.setIfInBounds_toArray, List.set_cons_zero, List.set_cons_succ, i64_w, i32_w]
                      rfl
                    refine pure_ (i := 15) (N := some 44) (v := ?_) (a' := ?_) #[true, true, true, true, true, false, true, true, true, true, false, true, true, true, true, true, false, false, false, false, false, false, false, false] rfl rfl (any_of HT_.out (by kernel_rfl)) (fun _ _ _ h => h) (Or.inl ⟨by rfl, ?_⟩) ?_ ?_
                    rotate_left
                    · intro w'
                      go_simp
                      with_reducible rfl
                    rotate_left
                    · simp only [Act.put, List.setIfInBounds_toArray, List.set_cons_zero, List.set_cons_succ, i64_w, i32_w]
                      rfl
                    refine take_ (i := 5) (N := some 34) (v := ?_) (a' := ?_) #[true, true, true, true, true, true, true, true, true, true, false, true, true, true, true, true, false, false, false, false, false, false, false, false] rfl rfl (take_ofW HT_.out HW_.out (by kernel_rfl)) (fun _ _ _ h => h) (Or.inl ⟨by rfl, ?_⟩) hHeld ?_ ?_
                    rotate_left
                    · rintro w' ⟨s0, s1, s2, s3, s4, s5⟩
                      go_simp
                      with_reducible rfl
                    rotate_left
                    · simp only [Act.put, List.setIfInBounds_toArray, List.set_cons_zero, List.set_cons_succ, i64_w, i32_w]
                      rfl
                    refine take_ (i := 10) (N := some 39) (v := ?_) (a' := ?_) #[true, true, true, true, true, true, true, true, true, true, true, true, true, true, true, true, false, false, false, false, false, false, false, false] rfl rfl (take_ofW HT_.out HW_.out (by kernel_rfl)) (fun _ _ _ h => h) (Or.inl ⟨by rfl, ?_⟩) hHeld ?_ ?_
                    rotate_left
                    · rintro w' ⟨s0, s1, s2, s3, s4, s5⟩
                      go_simp
                      with_reducible rfl
                    rotate_left
                    · simp only [Act.put, List.setIfInBounds_toArray, List.set_cons_zero, List.set_cons_succ, i64_w, i32_w]
                      rfl
                    refine take_ (i := 16) (N := some 45) (v := ?_) (a' := ?_) #[true, true, true, true, true, true, true, true, true, true, true, true, true, true, true, true, true, false, false, false, false, false, false, false] rfl rfl (take_ofW HT_.out HW_.out (by kernel_rfl)) (fun _ _ _ h => h) (Or.inl ⟨by rfl, ?_⟩) hHeld ?_ ?_
                    rotate_left
                    · rintro w' ⟨s0, s1, s2, s3, s4, s5⟩
                      go_simp
                      with_reducible rfl
                    rotate_left
                    · simp only [Act.put, List.setIfInBounds_toArray, List.set_cons_zero, List.set_cons_succ, i64_w, i32_w]
                      rfl
                    refine one_ (i := 17) (N := some 46) #[true, true, true, true, true, true, true, true, true, true, true, true, true, true, true, true, true, true, false, false, false, false, false, false] rfl rfl (one_of HT_.out (by kernel_rfl)) (by decide) (fun K hK => ?_)
                    refine goes_ Try.func82 (by kernel_rfl) rfl #[.slice (some ad533) l1.length c1, .int .i64 ((rd_T43 l0 x8_1).f0)] (by rfl) rfl rfl (by (try simp only [List.map_toArray, List.map_cons, List.map_nil]); first | done | rfl | (simp only [List.length_drop, List.length_take]; rfl)) ?_
                    with_reducible refine (verditerref08_at.calls k1 _ _ l1 ((rd_T43 l0 x8_1).f0) t537 _ ?side1 ?side2 A11.out).mono ?_
                    (case side1 => repeat (first | exact (Kd.C_below HR1.out HB.out) | (with_reducible refine Kd.C_alloc ?_ _) | (with_reducible refine Kd.C_drewN ?_ _) | (with_reducible refine Kd.C_drew ?_)))
                    (case side2 => exact HC1.out)
                    rintro e w' ⟨rfl, ⟨nd, rfl⟩⟩
                    refine ⟨_, rfl, ?_⟩
                    refine hK.out _ _ ⟨((HB.out.cell (World.block_lt_of_cell? w _ hw534_0)).trans hw534_0), ((HB.out.cell (World.block_lt_of_cell? w _ hw534_1)).trans hw534_1), ((HB.out.cell (World.block_lt_of_cell? w _ hw535_0)).trans hw535_0), ((HB.out.cell (World.block_lt_of_cell? w _ hw535_1)).trans hw535_1), ((HB.out.cell (World.block_lt_of_cell? w _ hw536_0)).trans hw536_0), ((HB.out.cell (World.block_lt_of_cell? w _ hw536_1)).trans hw536_1)⟩ (fun hHeld => ?_)
                    clear hK K
                    refine norm_ (a' := ?_) ?_ ?_
                    rotate_left
                    · show Act.put _ (some 46) _ = _
                      simp only [Act.put, List.setIfInBounds_toArray, List.set_cons_zero, List.set_cons_succ, i64_w, i32_w]
                      rfl
                    refine pure_ (i := 18) (N := some 47) (v := ?_) (a' := ?_) #[true, true, true, true, true, true, true, true, true, true, true, true, true, true, true, true, true, true, true, false, false, false, false, false] rfl rfl (any_of HT_.out (by kernel_rfl)) (fun _ _ _ h => h) (Or.inl ⟨by rfl, ?_⟩) ?_ ?_
                    rotate_left
                    · intro w'
                      go_simp
                      with_reducible rfl
                    rotate_left
                    · simp only [Act.put, List.setIfInBounds_toArray, List.set_cons_zero, List.set_cons_succ, i64_w, i32_w]
                      rfl
                    refine one_ (i := 19) (N := some 48) #[true, true, true, true, true, true, true, true, true, true, true, true, true, true, true, true, true, true, true, true, false, false, false, false] rfl rfl (one_of HT_.out (by kernel_rfl)) (by decide) (fun K hK => ?_)
                    refine goes_ Try.func104 (by kernel_rfl) rfl #[.int .i64 (wrap64 (((rd_T43 l0 x8_1).f1) + t537))] (by rfl) rfl rfl (by (try simp only [List.map_toArray, List.map_cons, List.map_nil]); first | done | rfl | (simp only [List.length_drop, List.length_take]; rfl)) ?_
                    with_reducible refine (verditerref08_mod.calls (wrap64 (((rd_T43 l0 x8_1).f1) + t537)) t538 _ A12.out).mono ?_
                    rintro e w' ⟨rfl, ⟨nd, rfl⟩⟩
                    refine ⟨_, rfl, ?_⟩
                    refine hK.out _ _ ⟨((HB.out.cell (World.block_lt_of_cell? w _ hw534_0)).trans hw534_0), ((HB.out.cell (World.block_lt_of_cell? w _ hw534_1)).trans hw534_1), ((HB.out.cell (World.block_lt_of_cell? w _ hw535_0)).trans hw535_0), ((HB.out.cell (World.block_lt_of_cell? w _ hw535_1)).trans hw535_1), ((HB.out.cell (World.block_lt_of_cell? w _ hw536_0)).trans hw536_0), ((HB.out.cell (World.block_lt_of_cell? w _ hw536_1)).trans hw536_1)⟩ (fun hHeld => ?_)
                    clear hK K
                    refine norm_ (a' := ?_) ?_ ?_
                    rotate_left
                    · show Act.put _ (some 48) _ = _
                      simp only [Act.put, List.setIfInBounds_toArray, List.set_cons_zero, List.set_cons_succ, i64_w, i32_w]
                      rfl
                    refine pure_ (i := 20) (N := some 49) (v := ?_) (a' := ?_) #[true, true, true, true, true, true, true, true, true, true, true, true, true, true, true, true, true, true, true, true, true, false, false, false] rfl rfl (any_of HT_.out (by kernel_rfl)) (fun _ _ _ h => h) (Or.inl ⟨by rfl, ?_⟩) ?_ ?_
                    rotate_left
                    · intro w'
                      go_simp
                      with_reducible rfl
                    rotate_left
                    · simp only [Act.put, List.setIfInBounds_toArray, List.set_cons_zero, List.set_cons_succ, i64_w, i32_w]
                      rfl
                    refine one_ (i := 21) (N := some 50) #[true, true, true, true, true, true, true, true, true, true, true, true, true, true, true, true, true, true, true, true, true, true, false, false] rfl rfl (one_of HT_.out (by kernel_rfl)) (by decide) (fun K hK => ?_)
                    refine value_ (w1 := ?_) (v := ?_) (by rfl) rfl ?_ ?_
                    rotate_left 2
                    · go_simp
                      constructor
                      · rfl
                      · rfl
                    refine hK.out _ _ ⟨(World.cell?_alloc_lt _ _ _ (World.block_lt_of_cell? _ _ (((HB.out.cell (World.block_lt_of_cell? w _ hw534_0)).trans hw534_0)))).trans (((HB.out.cell (World.block_lt_of_cell? w _ hw534_0)).trans hw534_0)), (World.cell?_alloc_lt _ _ _ (World.block_lt_of_cell? _ _ (((HB.out.cell (World.block_lt_of_cell? w _ hw534_1)).trans hw534_1)))).trans (((HB.out.cell (World.block_lt_of_cell? w _ hw534_1)).trans hw534_1)), (World.cell?_alloc_lt _ _ _ (World.block_lt_of_cell? _ _ (((HB.out.cell (World.block_lt_of_cell? w _ hw535_0)).trans hw535_0)))).trans (((HB.out.cell (World.block_lt_of_cell? w _ hw535_0)).trans hw535_0)), (World.cell?_alloc_lt _ _ _ (World.block_lt_of_cell? _ _ (((HB.out.cell (World.block_lt_of_cell? w _ hw535_1)).trans hw535_1)))).trans (((HB.out.cell (World.block_lt_of_cell? w _ hw535_1)).trans hw535_1)), (World.cell?_alloc_lt _ _ _ (World.block_lt_of_cell? _ _ (((HB.out.cell (World.block_lt_of_cell? w _ hw536_0)).trans hw536_0)))).trans (((HB.out.cell (World.block_lt_of_cell? w _ hw536_0)).trans hw536_0)), (World.cell?_alloc_lt _ _ _ (World.block_lt_of_cell? _ _ (((HB.out.cell (World.block_lt_of_cell? w _ hw536_1)).trans hw536_1)))).trans (((HB.out.cell (World.block_lt_of_cell? w _ hw536_1)).trans hw536_1))⟩ (fun hHeld => ?_)
                    clear hK K
                    refine norm_ (a' := ?_) ?_ ?_
                    rotate_left
                    · show Act.put _ (some 50) _ = _
                      simp only [Act.put, List.setIfInBounds_toArray, List.set_cons_zero, List.set_cons_succ, i64_w, i32_w]
                      rfl
                    refine one_ (i := 22) (N := some 51) #[true, true, true, true, true, true, true, true, true, true, true, true, true, true, true, true, true, true, true, true, true, true, true, false] rfl rfl (one_of HT_.out (by kernel_rfl)) (by decide) (fun K hK => ?_)
                    refine Kd.R_append_step k43 (w0 := w) w.heap.size (by rfl) (.tmp 29) (.tmp 50) 22 43 (.agg #[(.int .i64 0), (.int .i64 0)]) 16 rfl Try.underlying22 info43 rfl (by decide) (by omega) u7 x7_1 (⟨(rd_T43 l0 x8_1).f0, t538⟩ : S43) [.int .i64 ((rd_T43 l0 x8_1).f0), .int .i64 t538] (fun _ => True) (fun _ => False) rfl rfl ?aP (fun _ hk => hk.elim) ?aF ?aO ?aB ?aS ?aL ?_
                    (case aP => exact k43_mkM _ _ _ (⟨(rd_T43 l0 x8_1).f0, t538⟩ : S43))
                    (case aB => exact (by repeat (first | (with_reducible first | exact HB.out | apply below_alloc | apply pw_below_drewN | apply below_drew1) | exact HB.out)))
                    (case aF => exact (fun _ _ => trivial))
                    (case aO => exact (by (with_reducible repeat (first | apply Kd.R_alloc | apply Kd.R_drewN | apply Kd.R_drew)); exact HO_7.out))
                    (case aS => exact (below_size (by repeat (first | (with_reducible first | exact HB.out | apply below_alloc | apply pw_below_drewN | apply below_drew1) | exact HB.out))))
                    (case aL => have := LMc13.out; omega)
                    intro v540 w15 ho hb hg hat
                    rw [← Ny539.out] at ho
                    have n0_ := Aside0.mk (hb)
                    have n1_ := Aside0.mk (ho)
                    clear HB
                    clear HO_7
                    have HB := n0_
                    have HO541 := n1_
                    clear n0_ n1_
                    clear ho hb hg hat
                    refine hK.out _ _ ⟨((HB.out.cell (World.block_lt_of_cell? w _ hw534_0)).trans hw534_0), ((HB.out.cell (World.block_lt_of_cell? w _ hw534_1)).trans hw534_1), ((HB.out.cell (World.block_lt_of_cell? w _ hw535_0)).trans hw535_0), ((HB.out.cell (World.block_lt_of_cell? w _ hw535_1)).trans hw535_1), ((HB.out.cell (World.block_lt_of_cell? w _ hw536_0)).trans hw536_0), ((HB.out.cell (World.block_lt_of_cell? w _ hw536_1)).trans hw536_1)⟩ (fun hHeld => ?_)
                    clear hK K
                    refine norm_ (a' := ?_) ?_ ?_
                    rotate_left
                    · show Act.put _ (some 51) _ = _
                      simp only [Act.put, List.setIfInBounds_toArray, List.set_cons_zero, List.set_cons_succ, i64_w, i32_w]
                      rfl
                    refine pure_ (i := 23) (N := some 7) (v := ?_) (a' := ?_) #[true, true, true, true, true, true, true, true, true, true, true, true, true, true, true, true, true, true, true, true, true, true, true, true] rfl rfl (any_of HT_.out (by kernel_rfl)) (fun _ _ _ h => h) (Or.inl ⟨by rfl, ?_⟩) ?_ ?_
                    rotate_left
                    · intro w'
                      go_simp
                      with_reducible rfl
                    rotate_left
                    · simp only [Act.put, List.setIfInBounds_toArray, List.set_cons_zero, List.set_cons_succ, i64_w, i32_w]
                      rfl
                    refine done_ (done_of HT_.out (by kernel_rfl)) ?_
                    try go_wp2
                    go_roundg k1
                    case measure => have := HK1.out; omega
                    case rel => exact ⟨(y539), (wrap64 (x8_1 + 1)), (by first | rfl | (simp; done) | (simp [*]; done)), H', ⟨by have := HK1.out; omega⟩, ⟨by (with_reducible repeat (first | apply Kd.R_alloc | apply Kd.R_drewN | apply Kd.R_drew)); exact HO541.out⟩, ⟨by repeat (first | (with_reducible first | exact HB.out | apply below_alloc | apply pw_below_drewN | apply below_drew1) | exact HB.out)⟩⟩
                  · rw [if_neg c13] at H
                    exact absurd H (by simp)
                · rw [if_neg c10] at H
                  exact absurd H (by simp)
              · rw [if_neg c9] at H
                have c9b0 : decide (x8_1 < (l0.length : Int)) = false := decide_eq_false c9
                clear c9
                simp only [Option.some.injEq, Prod.mk.injEq] at H
                obtain ⟨rfl, rfl⟩ := H
                go_wp2
                go_ret2
                exact ⟨_, by first | rfl | (simp [errW_none, errW_some] <;> rfl) | (simp [*, errW_none, errW_some] <;> rfl), by (with_reducible repeat (first | apply Kd.R_alloc | apply Kd.R_drewN | apply Kd.R_drew)); exact HO_7.out, by repeat (first | (with_reducible first | exact HB.out | apply below_alloc | apply pw_below_drewN | apply below_drew1) | exact HB.out)⟩
        · rw [if_neg c8] at H
          have c8b0 : ((rd l1 0) == 0) = false := beq_eq_false_iff_ne.mpr c8
          have c8b1 : ((rd l1 0) != 0) = true := bne_iff_ne.mpr c8
          simp only [Option.some.injEq, Prod.mk.injEq] at H
          obtain ⟨rfl, rfl⟩ := H
          go_enter Try.func69, Try.ntmps69
          go_wp2_with (first | ((with_reducible refine gate_callee (f := 66) rfl ?_); refine goesL_ (some 10) rfl rfl Try.func66 (by kernel_rfl) rfl #[.slice A0 l0.length c0] rfl (by (try simp only [List.map_toArray, List.map_cons, List.map_nil]); first | done | rfl | (simp only [List.length_drop, List.length_take]; rfl)) ?_; (with_reducible refine (verditerref08_Validate.calls k _ _ l0 t531 _ ?side1 ?side2 A3.out).mono ?_); (case side1 => repeat (first | exact HR0.out | (with_reducible refine Kd.C_alloc ?_ _) | (with_reducible refine Kd.C_drewN ?_ _) | (with_reducible refine Kd.C_drew ?_))); (case side2 => exact HC0.out); rintro e w' ⟨rfl, ⟨nd, rfl⟩⟩; refine ⟨_, rfl, ?_⟩) | ((with_reducible refine gate_callee (f := 81) rfl ?_); refine goesL_ (some 15) rfl rfl Try.func81 (by kernel_rfl) rfl #[.slice A1 l1.length c1] rfl (by (try simp only [List.map_toArray, List.map_cons, List.map_nil]); first | done | rfl | (simp only [List.length_drop, List.length_take]; rfl)) ?_; (with_reducible refine (verditerref08_curved.calls k _ _ l1 t532 _ ?side1 ?side2 A5.out).mono ?_); (case side1 => repeat (first | exact HR1.out | (with_reducible refine Kd.C_alloc ?_ _) | (with_reducible refine Kd.C_drewN ?_ _) | (with_reducible refine Kd.C_drew ?_))); (case side2 => exact HC1.out); rintro e w' ⟨rfl, ⟨nd, rfl⟩⟩; refine ⟨_, rfl, ?_⟩; have p533 : 0 ≤ (0 : Int) := (by omega); have q533 : 0 < (l1.length : Int) := of_decide_eq_true (by first | (with_reducible assumption) | assumption); obtain ⟨ad533, e533, hx533_0⟩ := Kd.at_int HR1.out 0 p533 q533; cases e533; have qi533 : (0 < l1.length) = True := eq_true (by omega); (try rw [show ((0 : Int)).toNat = 0 from rfl] at hx533_0); (try rw [Addr.add_zero'] at hx533_0); replace p533 := eq_true p533; replace q533 := eq_true q533))
          go_ret2
          exact ⟨_, by first | rfl | (simp [errW_none, errW_some] <;> rfl) | (simp [*, errW_none, errW_some] <;> rfl), by first | exact Kd.R_nil _ _ _ _ _ | exact Kd.N_nil _ _ _ _ _ | exact Kd.V_nil _ _ _ _ _ | exact Kd.Q_nil _ _ _ _ _ | exact Kd.S_nil _ _ _ _ _, by repeat (first | (with_reducible first | exact HB.out | apply below_alloc | apply pw_below_drewN | apply below_drew1) | exact HB.out)⟩
      · rw [if_neg c7] at H
        exact absurd H (by simp)
    · rw [if_neg c6] at H
      have c6b0 : (t532 == 0) = false := beq_eq_false_iff_ne.mpr c6
      have c6b1 : (t532 != 0) = true := bne_iff_ne.mpr c6
      simp only [Option.some.injEq, Prod.mk.injEq] at H
      obtain ⟨rfl, rfl⟩ := H
      go_enter Try.func69, Try.ntmps69
      go_wp2_with (first | ((with_reducible refine gate_callee (f := 66) rfl ?_); refine goesL_ (some 10) rfl rfl Try.func66 (by kernel_rfl) rfl #[.slice A0 l0.length c0] rfl (by (try simp only [List.map_toArray, List.map_cons, List.map_nil]); first | done | rfl | (simp only [List.length_drop, List.length_take]; rfl)) ?_; (with_reducible refine (verditerref08_Validate.calls k _ _ l0 t531 _ ?side1 ?side2 A3.out).mono ?_); (case side1 => repeat (first | exact HR0.out | (with_reducible refine Kd.C_alloc ?_ _) | (with_reducible refine Kd.C_drewN ?_ _) | (with_reducible refine Kd.C_drew ?_))); (case side2 => exact HC0.out); rintro e w' ⟨rfl, ⟨nd, rfl⟩⟩; refine ⟨_, rfl, ?_⟩) | ((with_reducible refine gate_callee (f := 81) rfl ?_); refine goesL_ (some 15) rfl rfl Try.func81 (by kernel_rfl) rfl #[.slice A1 l1.length c1] rfl (by (try simp only [List.map_toArray, List.map_cons, List.map_nil]); first | done | rfl | (simp only [List.length_drop, List.length_take]; rfl)) ?_; (with_reducible refine (verditerref08_curved.calls k _ _ l1 t532 _ ?side1 ?side2 A5.out).mono ?_); (case side1 => repeat (first | exact HR1.out | (with_reducible refine Kd.C_alloc ?_ _) | (with_reducible refine Kd.C_drewN ?_ _) | (with_reducible refine Kd.C_drew ?_))); (case side2 => exact HC1.out); rintro e w' ⟨rfl, ⟨nd, rfl⟩⟩; refine ⟨_, rfl, ?_⟩))
      go_ret2
      exact ⟨_, by first | rfl | (simp [errW_none, errW_some] <;> rfl) | (simp [*, errW_none, errW_some] <;> rfl), by first | exact Kd.R_nil _ _ _ _ _ | exact Kd.N_nil _ _ _ _ _ | exact Kd.V_nil _ _ _ _ _ | exact Kd.Q_nil _ _ _ _ _ | exact Kd.S_nil _ _ _ _ _, by repeat (first | (with_reducible first | exact HB.out | apply below_alloc | apply pw_below_drewN | apply below_drew1) | exact HB.out)⟩
  · rw [if_neg c4] at H
    have c4b0 : (t531 == 0) = false := beq_eq_false_iff_ne.mpr c4
    have c4b1 : (t531 != 0) = true := bne_iff_ne.mpr c4
    simp only [Option.some.injEq, Prod.mk.injEq] at H
    obtain ⟨rfl, rfl⟩ := H
    go_enter Try.func69, Try.ntmps69
    go_wp2_with (first | ((with_reducible refine gate_callee (f := 66) rfl ?_); refine goesL_ (some 10) rfl rfl Try.func66 (by kernel_rfl) rfl #[.slice A0 l0.length c0] rfl (by (try simp only [List.map_toArray, List.map_cons, List.map_nil]); first | done | rfl | (simp only [List.length_drop, List.length_take]; rfl)) ?_; (with_reducible refine (verditerref08_Validate.calls k _ _ l0 t531 _ ?side1 ?side2 A3.out).mono ?_); (case side1 => repeat (first | exact HR0.out | (with_reducible refine Kd.C_alloc ?_ _) | (with_reducible refine Kd.C_drewN ?_ _) | (with_reducible refine Kd.C_drew ?_))); (case side2 => exact HC0.out); rintro e w' ⟨rfl, ⟨nd, rfl⟩⟩; refine ⟨_, rfl, ?_⟩))
    go_ret2
    exact ⟨_, by first | rfl | (simp [errW_none, errW_some] <;> rfl) | (simp [*, errW_none, errW_some] <;> rfl), by first | exact Kd.R_nil _ _ _ _ _ | exact Kd.N_nil _ _ _ _ _ | exact Kd.V_nil _ _ _ _ _ | exact Kd.Q_nil _ _ _ _ _ | exact Kd.S_nil _ _ _ _ _, by repeat (first | (with_reducible first | exact HB.out | apply below_alloc | apply pw_below_drewN | apply below_drew1) | exact HB.out)⟩

end Go.Proofs.Ythlbjdiicmojfaa.P

/-! Part Eqs4. -/
namespace Go.Proofs.Ythlbjdiicmojfaa.P
open Go.RowKit Go.Proofs.YthlbjdiicmojfaaW.PrintWords Go.Proofs.YthlbjdiicmojfaaW.PrintLast Go.Proofs.YthlbjdiicmojfaaW.PrintMore
open Ply
set_option linter.unusedVariables false

/-! ### Sums of parts -/
def sums (l m : List S43) : List S43 := List.zipWith (fun p q => ⟨p.f0, (p.f1 + q.f1) % 251⟩) l m
def addR (l m : List S43) : List S43 × Int :=
  if valid l = 0 then (if valid m = 0 then (if l.map S43.f0 = m.map S43.f0 then (sums l m, 0) else ([], 5)) else ([], valid m)) else ([], valid l)
theorem sadd_eq (l m : List S43) : secret_Add.f l m = some (addR l m) := by
  rw [secret_Add.f]
  unfold addR sums
  split
  · split
    · split <;> rfl
    · rfl
  · rfl
theorem sums_length (l m : List S43) : (sums l m).length = min l.length m.length := by simp [sums]
theorem sums_take (l m : List S43) (i : Nat) (hl : i < l.length) (hm : i < m.length) : sums (l.take (i + 1)) (m.take (i + 1)) = sums (l.take i) (m.take i) ++ [⟨l[i].f0, (l[i].f1 + m[i].f1) % 251⟩] := by
  unfold sums
  rw [List.take_succ_eq_append_getElem hl, List.take_succ_eq_append_getElem hm, List.zipWith_append (by simp; omega)]
  rfl
theorem radd_loop (l m : List S43) (hv : valid l = 0) (hv2 : valid m = 0) (hlm : l.length = m.length) : ∀ (d i k : Nat), i + d = l.length → d < k → (l.take i).map S43.f0 = (m.take i).map S43.f0 →
    verditerref08_Add.l0 k l m (sums (l.take i) (m.take i)) (i : Int) = if l.map S43.f0 = m.map S43.f0 then some (sums l m, 0) else some ([], 5) := by
  obtain ⟨hlen, _, _⟩ := valid_iff.1 hv
  intro d
  induction d with
  | zero =>
    intro i k hi hk he
    obtain ⟨k, rfl⟩ : ∃ j, k = j + 1 := ⟨k - 1, by omega⟩
    rw [List.take_of_length_le (by omega), List.take_of_length_le (by omega)] at he
    rw [verditerref08_Add.l0, if_neg (by omega), List.take_of_length_le (by omega), List.take_of_length_le (by omega), if_pos he]
  | succ d ih =>
    intro i k hi hk he
    obtain ⟨k, rfl⟩ : ∃ j, k = j + 1 := ⟨k - 1, by omega⟩
    have hil : i < l.length := by omega
    have him : i < m.length := by omega
    have h1 := num_iff.1 (valid_num hv (List.getElem_mem hil)).2
    have h2 := num_iff.1 (valid_num hv2 (List.getElem_mem him)).2
    rw [verditerref08_Add.l0, if_pos (by omega), if_pos (by omega), if_pos (by omega), rdT_get l i hil, rdT_get m i him]
    by_cases e : l[i].f0 = m[i].f0
    · rw [if_pos e, wrap_id (a := l[i].f1 + m[i].f1) (by omega) (by omega), mod_eq, Option.bind_some, if_pos (by rw [sums_length]; simp; omega), ← sums_take l m i hil him, wrap_succ i (by omega)]
      refine ih (i + 1) k (by omega) (by omega) ?_
      rw [List.take_succ_eq_append_getElem hil, List.take_succ_eq_append_getElem him, List.map_append, List.map_append, he, List.map_cons, List.map_cons, e]
    · rw [if_neg e, if_neg]
      intro h
      apply e
      have h3 : (l.map S43.f0)[i]? = (m.map S43.f0)[i]? := by rw [h]
      rw [List.getElem?_map, List.getElem?_map, List.getElem?_eq_getElem hil, List.getElem?_eq_getElem him] at h3
      exact Option.some.inj h3
theorem radd_eq (l m : List S43) (k : Nat) (hk : 300 ≤ k) : verditerref08_Add.f k l m = some (addR l m) := by
  rw [verditerref08_Add.f, rval_eq l k hk, Option.bind_some]
  unfold addR
  by_cases hv : valid l = 0
  · rw [if_pos hv, if_pos hv, rval_eq m k hk, Option.bind_some]
    by_cases hv2 : valid m = 0
    · have := (valid_iff.1 hv).1
      rw [if_pos hv2, if_pos hv2]
      by_cases hlm : (l.length : Int) = (m.length : Int)
      · have h := radd_loop l m hv hv2 (by omega) l.length 0 k (by omega) (by omega) rfl
        rw [if_pos hlm]
        rw [List.take_zero, List.take_zero] at h
        refine Eq.trans h ?_
        split <;> rfl
      · rw [if_neg hlm, if_neg]
        intro e
        have := congrArg List.length e
        simp at this; omega
    · rw [if_neg hv2, if_neg hv2]
  · rw [if_neg hv, if_neg hv]
theorem sums_places : ∀ (l m : List S43), l.length ≤ m.length → (sums l m).map S43.f0 = l.map S43.f0
  | [], _, _ => by simp [sums]
  | p :: l, [], h => by simp at h
  | p :: l, q :: m, h => by
    have ih := sums_places l m (by simpa using h)
    simp only [sums, List.zipWith_cons_cons, List.map_cons] at ih ⊢
    rw [ih]
theorem mem_sums {l m : List S43} {r : S43} (h : r ∈ sums l m) (he : l.map S43.f0 = m.map S43.f0) : ∃ p q, p ∈ l ∧ q ∈ m ∧ q.f0 = p.f0 ∧ r = ⟨p.f0, (p.f1 + q.f1) % 251⟩ := by
  unfold sums at h
  obtain ⟨i, hi, rfl⟩ := List.mem_iff_getElem.1 h
  rw [List.length_zipWith] at hi
  rw [List.getElem_zipWith]
  refine ⟨l[i], m[i], List.getElem_mem _, List.getElem_mem _, ?_, rfl⟩
  have h3 : (l.map S43.f0)[i]? = (m.map S43.f0)[i]? := by rw [he]
  rw [List.getElem?_map, List.getElem?_map, List.getElem?_eq_getElem (by omega), List.getElem?_eq_getElem (by omega)] at h3
  exact (Option.some.inj h3).symm
theorem valid_sums {l m : List S43} (hv : valid l = 0) (he : l.map S43.f0 = m.map S43.f0) : valid (sums l m) = 0 := by
  have hlen : l.length = m.length := by have := congrArg List.length he; simpa using this
  refine valid_same hv (sums_places l m (by omega)) fun r hr => ?_
  obtain ⟨p, q, _, _, _, rfl⟩ := mem_sums hr he
  exact num_mod _
theorem atI_plus (c d : List Int) (x : Int) (h : c.length = d.length) : atI (plusL c d) x = (atI c x + atI d x) % 251 :=
  (atI_eq (num_mod _) (by rw [cst_mod, cst_add, cst_atI, cst_atI, ev_plusL _ _ _ h])).symm
theorem interp_sums {l m : List S43} (hv : valid l = 0) (hv2 : valid m = 0) (he : l.map S43.f0 = m.map S43.f0) : interp (pts (sums l m)) = plusL (interp (pts l)) (interp (pts m)) := by
  have hlen : l.length = m.length := by have := congrArg List.length he; simpa using this
  symm
  refine interp_uniq (good_pts (valid_sums hv he)) (by rw [plusL_length, interp_len, interp_len, pts_length, pts_length, pts_length, sums_length]) (plusL_num _ _) fun w hw => ?_
  obtain ⟨r, hr, rfl⟩ := List.mem_map.1 hw
  obtain ⟨p, q, hp, hq, e, rfl⟩ := mem_sums hr he
  have h1 := interp_at (good_pts hv) (mem_pts hp)
  have h2 := interp_at (good_pts hv2) (mem_pts hq)
  simp only at h1 h2 ⊢
  rw [atI_plus _ _ _ (by rw [interp_len, interp_len, pts_length, pts_length, hlen]), h1, ← e, h2]

/-! ### Renewed parts -/
def renewed (l : List S43) (c : List Int) : List S43 := l.map fun p => ⟨p.f0, (p.f1 + atI c p.f0) % 251⟩
def renewR (l : List S43) (c : List Int) : List S43 × Int :=
  if valid l = 0 then (if curveErr c = 0 then (if c.getD 0 0 = 0 then (renewed l c, 0) else ([], 8)) else ([], curveErr c)) else ([], valid l)
theorem srenew_eq (l : List S43) (c : List Int) : secret_Renew.f l c = some (renewR l c) := by
  rw [secret_Renew.f]
  unfold renewR renewed
  split
  · split
    · split <;> rfl
    · rfl
  · rfl
theorem rrenew_loop (l : List S43) (c : List Int) (hv : valid l = 0) (hc : curveErr c = 0) : ∀ (d i k : Nat), i + d = l.length → d + 100 < k → verditerref08_Renew.l0 k l c (renewed (l.take i) c) (i : Int) = some (renewed l c, 0) := by
  obtain ⟨hlen, _, _⟩ := valid_iff.1 hv
  obtain ⟨c1, c2, c3⟩ := curveErr_iff.1 hc
  intro d
  induction d with
  | zero =>
    intro i k hi hk
    obtain ⟨k, rfl⟩ : ∃ j, k = j + 1 := ⟨k - 1, by omega⟩
    rw [verditerref08_Renew.l0, if_neg (by omega), List.take_of_length_le (by omega)]
  | succ d ih =>
    intro i k hi hk
    obtain ⟨k, rfl⟩ : ∃ j, k = j + 1 := ⟨k - 1, by omega⟩
    have hil : i < l.length := by omega
    have hp := valid_num hv (List.getElem_mem hil)
    have hy := num_iff.1 hp.2
    have ha := num_iff.1 (num_atI c l[i].f0)
    have hs : renewed (l.take (i + 1)) c = renewed (l.take i) c ++ [⟨l[i].f0, (l[i].f1 + atI c l[i].f0) % 251⟩] := by
      unfold renewed
      rw [List.take_succ_eq_append_getElem hil, List.map_append, List.map_cons, List.map_nil]
    rw [verditerref08_Renew.l0, if_pos (by omega), if_pos (by omega), rdT_get l i hil, rat_eq c _ c3 hp.1 (by omega) k (by omega), Option.bind_some, wrap_id (a := l[i].f1 + atI c l[i].f0) (by omega) (by omega), mod_eq, Option.bind_some, if_pos (by simp [renewed]; omega), ← hs, wrap_succ i (by omega)]
    exact ih (i + 1) k (by omega) (by omega)
theorem rrenew_eq (l : List S43) (c : List Int) (hcl : c.length ≤ 100) (k : Nat) (hk : 300 ≤ k) : verditerref08_Renew.f k l c = some (renewR l c) := by
  rw [verditerref08_Renew.f, rval_eq l k hk, Option.bind_some]
  unfold renewR
  by_cases hv : valid l = 0
  · rw [if_pos hv, if_pos hv, rcurved_eq c (by omega) k (by omega), Option.bind_some]
    by_cases hc : curveErr c = 0
    · obtain ⟨c1, c2, c3⟩ := curveErr_iff.1 hc
      have hl := (valid_iff.1 hv).1
      rw [if_pos hc, if_pos hc, if_pos (by omega)]
      by_cases h0 : c.getD 0 0 = 0
      · rw [if_pos (show rd c 0 = 0 from h0), if_pos h0]
        exact rrenew_loop l c hv hc l.length 0 k (by omega) (by omega)
      · rw [if_neg (show ¬ rd c 0 = 0 from h0), if_neg h0]
    · rw [if_neg hc, if_neg hc]
  · rw [if_neg hv, if_neg hv]
theorem valid_renewed {l : List S43} (hv : valid l = 0) (c : List Int) : valid (renewed l c) = 0 :=
  valid_same hv (by unfold renewed; rw [List.map_map]; rfl) fun p hp => by
    obtain ⟨q, _, rfl⟩ := List.mem_map.1 hp
    exact num_mod _
/-- A curve that is 0 at 0, added, leaves the secret. -/
theorem interp_renewed {l : List S43} {c : List Int} (hv : valid l = 0) (hc : ∀ n ∈ c, num n = true) (hl : c.length ≤ l.length) : interp (pts (renewed l c)) = plusL (interp (pts l)) (c ++ List.replicate (l.length - c.length) 0) := by
  have hlen : (c ++ List.replicate (l.length - c.length) (0 : Int)).length = l.length := by simp; omega
  symm
  refine interp_uniq (good_pts (valid_renewed hv c)) (by rw [plusL_length, interp_len, pts_length, pts_length, hlen]; simp [renewed]) (plusL_num _ _) fun w hw => ?_
  obtain ⟨r, hr, rfl⟩ := List.mem_map.1 hw
  obtain ⟨p, hp, rfl⟩ := List.mem_map.1 hr
  have h1 := interp_at (good_pts hv) (mem_pts hp)
  simp only at h1 ⊢
  rw [atI_plus _ _ _ (by rw [interp_len, pts_length, hlen]), h1, atI_more]
end Go.Proofs.Ythlbjdiicmojfaa.P

/-! Part PureSecretAdds. -/
namespace Go.Proofs.Ythlbjdiicmojfaa.P
open Go.RowKit Go.Proofs.YthlbjdiicmojfaaW.PrintWords Go.Proofs.YthlbjdiicmojfaaW.PrintLast Go.Proofs.YthlbjdiicmojfaaW.PrintMore
set_option linter.unusedVariables false
theorem pureSecretAdds (l0 : List S43) (_h0 : (∀ z ∈ l0, (Lit.int .i64 z.f0).wf = true ∧ (Lit.int .i64 z.f1).wf = true)) (l1 : List S43) (_h1 : (∀ z ∈ l1, (Lit.int .i64 z.f0).wf = true ∧ (Lit.int .i64 z.f1).wf = true)) : ∃ k, verditerlaw08_secretAdds.f k l0 l1 = some true := by
  refine ⟨10000, ?_⟩
  rw [verditerlaw08_secretAdds.f, long_eq, Option.bind_some]
  by_cases hl : (l0.length : Int) > 100
  · rw [if_pos (decide_eq_true hl), verditerlaw08_secretAdds.j0, if_pos rfl, known_eq _ (by omega)]; rfl
  rw [if_neg (by rw [decide_eq_false hl]; simp), long_eq, Option.bind_some]
  by_cases hl2 : (l1.length : Int) > 100
  · rw [verditerlaw08_secretAdds.j0, if_pos (decide_eq_true hl2), known_eq _ (by omega)]; rfl
  have hsl : (addR l0 l1).1.length ≤ 1000 := by
    unfold addR
    split
    · split
      · split
        · simp only [sums_length]; omega
        · simp
      · simp
    · simp
  rw [verditerlaw08_secretAdds.j0, if_neg (by rw [decide_eq_false hl2]; simp), radd_eq l0 l1 _ (by omega), Option.bind_some, sadd_eq, Option.bind_some, if_pos rfl, same_self _ hsl _ (by omega), Option.bind_some, verditerlaw08_secretAdds.j1, if_neg (by simp), secret_eq, Option.bind_some, secret_eq, Option.bind_some, secret_eq, Option.bind_some]
  have quick : ∀ a b c d e : Int, verditerlaw08_secretAdds.j2 9998 a b c d e true = some true := by
    intro a b c d e
    rw [verditerlaw08_secretAdds.j2, if_pos rfl, known_eq _ (by omega)]; rfl
  by_cases he : (addR l0 l1).2 = 0
  · rw [if_pos he]
    by_cases hg : (secretR l0).2 = 0
    · obtain ⟨hv, h1, h6⟩ := secretR_zero hg
      have hv2 : valid l1 = 0 := by
        by_cases hv2 : valid l1 = 0
        · exact hv2
        · unfold addR at he; rw [if_pos hv, if_neg hv2] at he; exact absurd he hv2
      have hf : l0.map S43.f0 = l1.map S43.f0 := by
        by_cases hf : l0.map S43.f0 = l1.map S43.f0
        · exact hf
        · unfold addR at he; rw [if_pos hv, if_pos hv2, if_neg hf] at he; cases he
      have hlen : l0.length = l1.length := by have := congrArg List.length hf; simpa using this
      have e : addR l0 l1 = (sums l0 l1, 0) := by unfold addR; rw [if_pos hv, if_pos hv2, if_pos hf]
      have hs : secretR (sums l0 l1) = (atI (interp (pts (sums l0 l1))) 0, 0) := secretR_ok (valid_sums hv hf) (by rw [sums_length]; omega) (by rw [sums_length]; omega)
      have hx := num_iff.1 (num_atI (interp (pts l0)) 0)
      have hy := num_iff.1 (num_atI (interp (pts l1)) 0)
      rw [e, hs, secretR_ok hv h1 h6, secretR_ok hv2 (by omega) (by omega), interp_sums hv hv2 hf, atI_plus _ _ _ (by rw [interp_len, interp_len, pts_length, pts_length, hlen]), verditerlaw08_secretAdds.j2, if_neg (by simp), if_pos rfl, if_pos rfl]
      simp only
      generalize atI (interp (pts l0)) 0 = s at *
      generalize atI (interp (pts l1)) 0 = t at *
      rw [wrap_id (a := s + t) (by omega) (by omega), Int.tmod_eq_emod_of_nonneg (by omega), if_pos rfl, known_eq _ (by omega)]
      rfl
    · rw [show ((secretR l0).2 != 0) = true from bne_iff_ne.2 hg]
      exact quick _ _ _ _ _
  · rw [if_neg he]
    exact quick _ _ _ _ _
end Go.Proofs.Ythlbjdiicmojfaa.P
