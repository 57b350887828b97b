/- Parts of the proof of the law TopWash: walks of functions that it reaches, and plain facts about numbers, lists and curves; without a condition. -/
import Derived.Test.YtcelibdkicfgkaaTopWashM1
import Derived.Test.YtcelibdkicfgkaaTopWashM2
import Derived.Lib.LazyBuf
/-! Part PF20. -/
-- Written for this claim by wip/print_more.py (a session's program that runs the kit's printer with hand-proved functions beside). Lean checks it.
namespace Go.Proofs.Ytcelibdkicfgkaa.P
open Go.RowKit Go.Proofs.YtcelibdkicfgkaaW.PrintWords Go.Proofs.YtcelibdkicfgkaaW.PrintLast Go.Proofs.YtcelibdkicfgkaaW.PrintMore
attribute [local go_sem] max2_int min2_int max_two min_two max_three min_three max_four min_four   -- for this text's walks alone
set_option linter.unusedVariables false
set_option linter.unusedSimpArgs false

/-! ### wash_CheckFiner: function 20 -/
def wash_CheckFiner.f (k : Nat) (l0 : List (S61)) (l1 : List (S61)) (l2 : List (S56)) : Option (Int) := (wash_pair.f k l0 l1).bind fun t154 => (if t154 = 0 then ((wash_Grind.f l1 l2).bind fun bt155 => (if bt155.2 = 0 then ((api_Grain_32.f k bt155.1 l0).bind fun t159 => (if t159 = true then (some 0) else (some 7))) else (some bt155.2))) else (some t154))
theorem wash_CheckFiner.mono : ∀ a0 a1 a2 k, LeO (wash_CheckFiner.f k a0 a1 a2) (wash_CheckFiner.f (k + 1) a0 a1 a2) := by
  intro a0 a1 a2 k
  unfold wash_CheckFiner.f
  repeat' first
      | (with_reducible exact api_Grain_32.mono _ _ _)
      | (with_reducible exact wash_pair.mono _ _ _)
      | (with_reducible exact LeO.refl _)
      | (with_reducible exact LeO.none _)
      | (with_reducible refine LeO.ite ?_ ?_)
      | (with_reducible refine LeO.bind ?_ (fun _ => ?_))
      | exact api_Grain_32.mono _ _ _
      | exact wash_pair.mono _ _ _
      | exact LeO.none _
      | refine LeO.ite ?_ ?_
      | refine LeO.bind ?_ (fun _ => ?_)
set_option maxHeartbeats 8000000 in
set_option maxRecDepth 100000 in
theorem wash_CheckFiner.calls (k : Nat) (A0 : Option Addr) (c0 : Nat) (l0 : List (S61)) (A1 : Option Addr) (c1 : Nat) (l1 : List (S61)) (A2 : Option Addr) (c2 : Nat) (l2 : List (S56)) (r : Int) (w : World) (hr0 : Kd.C k61 w A0 l0.length l0) (hc0 : l0.length ≤ c0) (hr1 : Kd.C k61 w A1 l1.length l1) (hc1 : l1.length ≤ c1) (hr2 : Kd.C k56 w A2 l2.length l2) (hc2 : l2.length ≤ c2) (h : wash_CheckFiner.f k l0 l1 l2 = some r) :
    Calls Try.prog 20 #[.slice A0 l0.length c0, .slice A1 l1.length c1, .slice A2 l2.length c2] w fun e w' => e = .returned (.int .i64 r) ∧ Below w.heap.size w w' := by
  have HR0 := Aside0.mk hr0
  have HC0 := Aside0.mk hc0
  clear hr0 hc0
  have HR1 := Aside0.mk hr1
  have HC1 := Aside0.mk hc1
  clear hr1 hc1
  have HR2 := Aside0.mk hr2
  have HC2 := Aside0.mk hc2
  clear hr2 hc2
  have HB := Aside0.mk (Below.refl w.heap.size w)
  have H : ((wash_pair.f k l0 l1).bind fun t154 => (if t154 = 0 then ((wash_Grind.f l1 l2).bind fun bt155 => (if bt155.2 = 0 then ((api_Grain_32.f k bt155.1 l0).bind fun t159 => (if t159 = true then (some 0) else (some 7))) else (some bt155.2))) else (some t154))) = some r := h
  clear h
  replace H := Option.bind_eq_some_iff.mp H
  obtain ⟨t154, A40, H⟩ := H
  replace H : (if t154 = 0 then ((wash_Grind.f l1 l2).bind fun bt155 => (if bt155.2 = 0 then ((api_Grain_32.f k bt155.1 l0).bind fun t159 => (if t159 = true then (some 0) else (some 7))) else (some bt155.2))) else (some t154)) = some r := H
  have A4 := Aside0.mk A40
  clear A40
  by_cases c5 : t154 = 0
  · rw [if_pos c5] at H
    have c5b0 : (t154 == 0) = true := beq_iff_eq.mpr c5
    have c5b1 : (t154 != 0) = false := bne_eq_false_iff_eq.mpr c5
    clear c5
    replace H := Option.bind_eq_some_iff.mp H
    obtain ⟨⟨t155, t156⟩, A60, H⟩ := H
    replace H : (if t156 = 0 then ((api_Grain_32.f k t155 l0).bind fun t159 => (if t159 = true then (some 0) else (some 7))) else (some t156)) = some r := H
    have A6 := Aside0.mk A60
    clear A60
    by_cases c7 : t156 = 0
    · rw [if_pos c7] at H
      have c7b0 : (t156 == 0) = true := beq_iff_eq.mpr c7
      have c7b1 : (t156 != 0) = false := bne_eq_false_iff_eq.mpr c7
      clear c7
      replace H := Option.bind_eq_some_iff.mp H
      obtain ⟨t159, A80, H⟩ := H
      replace H : (if t159 = true then (some 0) else (some 7)) = some r := H
      have A8 := Aside0.mk A80
      clear A80
      by_cases c9 : t159 = true
      · subst c9
        have H1 : (some 0) = some r := by rw [if_pos rfl] at H; exact H
        clear H
        have H := H1
        clear H1
        obtain rfl := Option.some.inj H
        go_enter Try.func20, Try.ntmps20
        go_wp2_with (first | ((with_reducible refine gate_callee (f := 29) rfl ?_); refine goesL_ (some 12) rfl rfl Try.func29 (by kernel_rfl) rfl #[.slice A0 l0.length c0, .slice A1 l1.length c1] rfl (by (try simp only [List.map_toArray, List.map_cons, List.map_nil]); first | done | rfl | (simp only [List.length_drop, List.length_take]; rfl)) ?_; (with_reducible refine (wash_pair.calls k _ _ l0 _ _ l1 t154 _ ?side1 ?side2 ?side3 ?side4 A4.out).mono ?_); (case side1 => repeat (first | exact HR0.out | (with_reducible refine Kd.C_alloc ?_ _) | (with_reducible refine Kd.C_drewN ?_ _) | (with_reducible refine Kd.C_drew ?_))); (case side2 => exact HC0.out); (case side3 => repeat (first | exact HR1.out | (with_reducible refine Kd.C_alloc ?_ _) | (with_reducible refine Kd.C_drewN ?_ _) | (with_reducible refine Kd.C_drew ?_))); (case side4 => exact HC1.out); rintro e w10 ⟨rfl, hb⟩; refine ⟨_, rfl, ?_⟩; have n0_ := Aside0.mk (below_step (by repeat (first | (with_reducible first | exact HB.out | apply below_alloc | apply pw_below_drewN | apply below_drew1) | exact HB.out)) hb); clear HB; have HB := n0_; clear n0_; (try clear hb); (try clear hb2); (try clear hk); (try clear hi)) | ((with_reducible refine gate_callee (f := 21) rfl ?_); refine goesL_ (some 19) rfl rfl Try.func21 (by kernel_rfl) rfl #[.slice A1 l1.length c1, .slice A2 l2.length c2] rfl (by (try simp only [List.map_toArray, List.map_cons, List.map_nil]); first | done | rfl | (simp only [List.length_drop, List.length_take]; rfl)) ?_; (with_reducible refine (wash_Grind.calls _ _ l1 _ _ l2 t155 t156 _ ?side1 ?side2 ?side3 ?side4 A6.out).mono ?_); (case side1 => repeat (first | exact (Kd.C_below HR1.out HB.out) | (with_reducible refine Kd.C_alloc ?_ _) | (with_reducible refine Kd.C_drewN ?_ _) | (with_reducible refine Kd.C_drew ?_))); (case side2 => exact HC1.out); (case side3 => repeat (first | exact (Kd.C_below HR2.out HB.out) | (with_reducible refine Kd.C_alloc ?_ _) | (with_reducible refine Kd.C_drewN ?_ _) | (with_reducible refine Kd.C_drew ?_))); (case side4 => exact HC2.out); rintro e w11 ⟨v157, rfl, ho0, hb⟩; refine ⟨_, rfl, ?_⟩; have n0_ := Aside0.mk (Kd.R_lower ho0 (below_size (by repeat (first | (with_reducible first | exact HB.out | apply below_alloc | apply pw_below_drewN | apply below_drew1) | exact HB.out)))); have n1_ := Aside0.mk (below_step (by repeat (first | (with_reducible first | exact HB.out | apply below_alloc | apply pw_below_drewN | apply below_drew1) | exact HB.out)) hb); clear HB; have HO158 := n0_; have HB := n1_; clear n0_ n1_; (try clear hb); (try clear hb2); (try clear hk); (try clear hi); (try clear ho0); obtain ⟨Ao12, co12, eo12⟩ := Kd.R_slice HO158.out; subst eo12) | ((with_reducible refine gate_callee (f := 32) rfl ?_); refine goesL_ (some 27) rfl rfl Try.func32 (by kernel_rfl) rfl #[.slice Ao12 t155.length co12, .slice A0 l0.length c0] rfl (by (try simp only [List.map_toArray, List.map_cons, List.map_nil]); first | done | rfl | (simp only [List.length_drop, List.length_take]; rfl)) ?_; (with_reducible refine (api_Grain_32.calls k _ _ t155 _ _ l0 true _ ?side1 ?side2 ?side3 ?side4 A8.out).mono ?_); (case side1 => repeat (first | exact (Kd.R_reads' HO158.out).2.2 | (with_reducible refine Kd.C_alloc ?_ _) | (with_reducible refine Kd.C_drewN ?_ _) | (with_reducible refine Kd.C_drew ?_))); (case side2 => exact (Kd.R_reads' HO158.out).2.1); (case side3 => repeat (first | exact (Kd.C_below HR0.out HB.out) | (with_reducible refine Kd.C_alloc ?_ _) | (with_reducible refine Kd.C_drewN ?_ _) | (with_reducible refine Kd.C_drew ?_))); (case side4 => exact HC0.out); rintro e w' ⟨rfl, ⟨nd, rfl⟩⟩; refine ⟨_, rfl, ?_⟩))
        go_ret
        exact ⟨by first | rfl | (simp [errW_none, errW_some] <;> rfl) | (simp [*, errW_none, errW_some] <;> rfl), by repeat (first | (with_reducible first | exact HB.out | apply below_alloc | apply pw_below_drewN | apply below_drew1) | exact HB.out)⟩
      · replace c9 := Bool.eq_false_iff.mpr c9
        subst c9
        have H1 : (some 7) = some r := by rw [if_neg (show ¬ (false = true) by decide)] at H; exact H
        clear H
        have H := H1
        clear H1
        obtain rfl := Option.some.inj H
        go_enter Try.func20, Try.ntmps20
        go_wp2_with (first | ((with_reducible refine gate_callee (f := 29) rfl ?_); refine goesL_ (some 12) rfl rfl Try.func29 (by kernel_rfl) rfl #[.slice A0 l0.length c0, .slice A1 l1.length c1] rfl (by (try simp only [List.map_toArray, List.map_cons, List.map_nil]); first | done | rfl | (simp only [List.length_drop, List.length_take]; rfl)) ?_; (with_reducible refine (wash_pair.calls k _ _ l0 _ _ l1 t154 _ ?side1 ?side2 ?side3 ?side4 A4.out).mono ?_); (case side1 => repeat (first | exact HR0.out | (with_reducible refine Kd.C_alloc ?_ _) | (with_reducible refine Kd.C_drewN ?_ _) | (with_reducible refine Kd.C_drew ?_))); (case side2 => exact HC0.out); (case side3 => repeat (first | exact HR1.out | (with_reducible refine Kd.C_alloc ?_ _) | (with_reducible refine Kd.C_drewN ?_ _) | (with_reducible refine Kd.C_drew ?_))); (case side4 => exact HC1.out); rintro e w13 ⟨rfl, hb⟩; refine ⟨_, rfl, ?_⟩; have n0_ := Aside0.mk (below_step (by repeat (first | (with_reducible first | exact HB.out | apply below_alloc | apply pw_below_drewN | apply below_drew1) | exact HB.out)) hb); clear HB; have HB := n0_; clear n0_; (try clear hb); (try clear hb2); (try clear hk); (try clear hi)) | ((with_reducible refine gate_callee (f := 21) rfl ?_); refine goesL_ (some 19) rfl rfl Try.func21 (by kernel_rfl) rfl #[.slice A1 l1.length c1, .slice A2 l2.length c2] rfl (by (try simp only [List.map_toArray, List.map_cons, List.map_nil]); first | done | rfl | (simp only [List.length_drop, List.length_take]; rfl)) ?_; (with_reducible refine (wash_Grind.calls _ _ l1 _ _ l2 t155 t156 _ ?side1 ?side2 ?side3 ?side4 A6.out).mono ?_); (case side1 => repeat (first | exact (Kd.C_below HR1.out HB.out) | (with_reducible refine Kd.C_alloc ?_ _) | (with_reducible refine Kd.C_drewN ?_ _) | (with_reducible refine Kd.C_drew ?_))); (case side2 => exact HC1.out); (case side3 => repeat (first | exact (Kd.C_below HR2.out HB.out) | (with_reducible refine Kd.C_alloc ?_ _) | (with_reducible refine Kd.C_drewN ?_ _) | (with_reducible refine Kd.C_drew ?_))); (case side4 => exact HC2.out); rintro e w14 ⟨v157, rfl, ho0, hb⟩; refine ⟨_, rfl, ?_⟩; have n0_ := Aside0.mk (Kd.R_lower ho0 (below_size (by repeat (first | (with_reducible first | exact HB.out | apply below_alloc | apply pw_below_drewN | apply below_drew1) | exact HB.out)))); have n1_ := Aside0.mk (below_step (by repeat (first | (with_reducible first | exact HB.out | apply below_alloc | apply pw_below_drewN | apply below_drew1) | exact HB.out)) hb); clear HB; have HO158 := n0_; have HB := n1_; clear n0_ n1_; (try clear hb); (try clear hb2); (try clear hk); (try clear hi); (try clear ho0); obtain ⟨Ao15, co15, eo15⟩ := Kd.R_slice HO158.out; subst eo15) | ((with_reducible refine gate_callee (f := 32) rfl ?_); refine goesL_ (some 27) rfl rfl Try.func32 (by kernel_rfl) rfl #[.slice Ao15 t155.length co15, .slice A0 l0.length c0] rfl (by (try simp only [List.map_toArray, List.map_cons, List.map_nil]); first | done | rfl | (simp only [List.length_drop, List.length_take]; rfl)) ?_; (with_reducible refine (api_Grain_32.calls k _ _ t155 _ _ l0 false _ ?side1 ?side2 ?side3 ?side4 A8.out).mono ?_); (case side1 => repeat (first | exact (Kd.R_reads' HO158.out).2.2 | (with_reducible refine Kd.C_alloc ?_ _) | (with_reducible refine Kd.C_drewN ?_ _) | (with_reducible refine Kd.C_drew ?_))); (case side2 => exact (Kd.R_reads' HO158.out).2.1); (case side3 => repeat (first | exact (Kd.C_below HR0.out HB.out) | (with_reducible refine Kd.C_alloc ?_ _) | (with_reducible refine Kd.C_drewN ?_ _) | (with_reducible refine Kd.C_drew ?_))); (case side4 => exact HC0.out); rintro e w' ⟨rfl, ⟨nd, rfl⟩⟩; refine ⟨_, rfl, ?_⟩))
        go_ret
        exact ⟨by first | rfl | (simp [errW_none, errW_some] <;> rfl) | (simp [*, errW_none, errW_some] <;> rfl), by repeat (first | (with_reducible first | exact HB.out | apply below_alloc | apply pw_below_drewN | apply below_drew1) | exact HB.out)⟩
    · rw [if_neg c7] at H
      have c7b0 : (t156 == 0) = false := beq_eq_false_iff_ne.mpr c7
      have c7b1 : (t156 != 0) = true := bne_iff_ne.mpr c7
      obtain rfl := Option.some.inj H
      go_enter Try.func20, Try.ntmps20
      go_wp2_with (first | ((with_reducible refine gate_callee (f := 29) rfl ?_); refine goesL_ (some 12) rfl rfl Try.func29 (by kernel_rfl) rfl #[.slice A0 l0.length c0, .slice A1 l1.length c1] rfl (by (try simp only [List.map_toArray, List.map_cons, List.map_nil]); first | done | rfl | (simp only [List.length_drop, List.length_take]; rfl)) ?_; (with_reducible refine (wash_pair.calls k _ _ l0 _ _ l1 t154 _ ?side1 ?side2 ?side3 ?side4 A4.out).mono ?_); (case side1 => repeat (first | exact HR0.out | (with_reducible refine Kd.C_alloc ?_ _) | (with_reducible refine Kd.C_drewN ?_ _) | (with_reducible refine Kd.C_drew ?_))); (case side2 => exact HC0.out); (case side3 => repeat (first | exact HR1.out | (with_reducible refine Kd.C_alloc ?_ _) | (with_reducible refine Kd.C_drewN ?_ _) | (with_reducible refine Kd.C_drew ?_))); (case side4 => exact HC1.out); rintro e w16 ⟨rfl, hb⟩; refine ⟨_, rfl, ?_⟩; have n0_ := Aside0.mk (below_step (by repeat (first | (with_reducible first | exact HB.out | apply below_alloc | apply pw_below_drewN | apply below_drew1) | exact HB.out)) hb); clear HB; have HB := n0_; clear n0_; (try clear hb); (try clear hb2); (try clear hk); (try clear hi)) | ((with_reducible refine gate_callee (f := 21) rfl ?_); refine goesL_ (some 19) rfl rfl Try.func21 (by kernel_rfl) rfl #[.slice A1 l1.length c1, .slice A2 l2.length c2] rfl (by (try simp only [List.map_toArray, List.map_cons, List.map_nil]); first | done | rfl | (simp only [List.length_drop, List.length_take]; rfl)) ?_; (with_reducible refine (wash_Grind.calls _ _ l1 _ _ l2 t155 t156 _ ?side1 ?side2 ?side3 ?side4 A6.out).mono ?_); (case side1 => repeat (first | exact (Kd.C_below HR1.out HB.out) | (with_reducible refine Kd.C_alloc ?_ _) | (with_reducible refine Kd.C_drewN ?_ _) | (with_reducible refine Kd.C_drew ?_))); (case side2 => exact HC1.out); (case side3 => repeat (first | exact (Kd.C_below HR2.out HB.out) | (with_reducible refine Kd.C_alloc ?_ _) | (with_reducible refine Kd.C_drewN ?_ _) | (with_reducible refine Kd.C_drew ?_))); (case side4 => exact HC2.out); rintro e w17 ⟨v157, rfl, ho0, hb⟩; refine ⟨_, rfl, ?_⟩; have n0_ := Aside0.mk (Kd.R_lower ho0 (below_size (by repeat (first | (with_reducible first | exact HB.out | apply below_alloc | apply pw_below_drewN | apply below_drew1) | exact HB.out)))); have n1_ := Aside0.mk (below_step (by repeat (first | (with_reducible first | exact HB.out | apply below_alloc | apply pw_below_drewN | apply below_drew1) | exact HB.out)) hb); clear HB; have HO158 := n0_; have HB := n1_; clear n0_ n1_; (try clear hb); (try clear hb2); (try clear hk); (try clear hi); (try clear ho0)))
      go_ret
      exact ⟨by first | rfl | (simp [errW_none, errW_some] <;> rfl) | (simp [*, errW_none, errW_some] <;> rfl), by repeat (first | (with_reducible first | exact HB.out | apply below_alloc | apply pw_below_drewN | apply below_drew1) | exact HB.out)⟩
  · rw [if_neg c5] at H
    have c5b0 : (t154 == 0) = false := beq_eq_false_iff_ne.mpr c5
    have c5b1 : (t154 != 0) = true := bne_iff_ne.mpr c5
    obtain rfl := Option.some.inj H
    go_enter Try.func20, Try.ntmps20
    go_wp2_with (first | ((with_reducible refine gate_callee (f := 29) rfl ?_); refine goesL_ (some 12) rfl rfl Try.func29 (by kernel_rfl) rfl #[.slice A0 l0.length c0, .slice A1 l1.length c1] rfl (by (try simp only [List.map_toArray, List.map_cons, List.map_nil]); first | done | rfl | (simp only [List.length_drop, List.length_take]; rfl)) ?_; (with_reducible refine (wash_pair.calls k _ _ l0 _ _ l1 t154 _ ?side1 ?side2 ?side3 ?side4 A4.out).mono ?_); (case side1 => repeat (first | exact HR0.out | (with_reducible refine Kd.C_alloc ?_ _) | (with_reducible refine Kd.C_drewN ?_ _) | (with_reducible refine Kd.C_drew ?_))); (case side2 => exact HC0.out); (case side3 => repeat (first | exact HR1.out | (with_reducible refine Kd.C_alloc ?_ _) | (with_reducible refine Kd.C_drewN ?_ _) | (with_reducible refine Kd.C_drew ?_))); (case side4 => exact HC1.out); rintro e w18 ⟨rfl, hb⟩; refine ⟨_, rfl, ?_⟩; have n0_ := Aside0.mk (below_step (by repeat (first | (with_reducible first | exact HB.out | apply below_alloc | apply pw_below_drewN | apply below_drew1) | exact HB.out)) hb); clear HB; have HB := n0_; clear n0_; (try clear hb); (try clear hb2); (try clear hk); (try clear hi)))
    go_ret
    exact ⟨by first | rfl | (simp [errW_none, errW_some] <;> rfl) | (simp [*, errW_none, errW_some] <;> rfl), by repeat (first | (with_reducible first | exact HB.out | apply below_alloc | apply pw_below_drewN | apply below_drew1) | exact HB.out)⟩

end Go.Proofs.Ytcelibdkicfgkaa.P

/-! Part PF22. -/
namespace Go.Proofs.Ytcelibdkicfgkaa.P
open Go.RowKit Go.Proofs.YtcelibdkicfgkaaW.PrintWords Go.Proofs.YtcelibdkicfgkaaW.PrintLast Go.Proofs.YtcelibdkicfgkaaW.PrintMore
attribute [local go_sem] max2_int min2_int max_two min_two max_three min_three max_four min_four   -- for this text's walks alone
set_option linter.unusedVariables false
set_option linter.unusedSimpArgs false

/-! ### wash_isTime: function 22 -/
def wash_isTime.f (a0 : Int) (a1 : Int) : Option (Bool) := if a0 ≥ 0 then (if a0 ≤ 100 then (if a1 ≥ 1 then (some (decide (a1 ≤ 20))) else (some false)) else (some false)) else (some false)
set_option maxHeartbeats 8000000 in
set_option maxRecDepth 100000 in
theorem wash_isTime.calls (a0 : Int) (a1 : Int) (r : Bool) (w : World) (h : wash_isTime.f a0 a1 = some r) :
    Calls Try.prog 22 #[.int .i64 a0, .int .i64 a1] w fun e w' => e = .returned (.bool r) ∧ Drawn0 w w' := by
  have H : (if a0 ≥ 0 then (if a0 ≤ 100 then (if a1 ≥ 1 then (some (decide (a1 ≤ 20))) else (some false)) else (some false)) else (some false)) = some r := h
  clear h
  by_cases c3 : a0 ≥ 0
  · rw [if_pos c3] at H
    have c3b0 : decide (0 ≤ a0) = true := decide_eq_true c3
    clear c3
    by_cases c4 : a0 ≤ 100
    · rw [if_pos c4] at H
      have c4b0 : decide (a0 ≤ 100) = true := decide_eq_true c4
      clear c4
      by_cases c5 : a1 ≥ 1
      · rw [if_pos c5] at H
        have c5b0 : decide (1 ≤ a1) = true := decide_eq_true c5
        clear c5
        obtain rfl := Option.some.inj H
        go_enter Try.func22, Try.ntmps22
        go_wp2
        go_ret
        exact ⟨by first | rfl | (simp; done) | (simp [*]; done), by repeat (first | exact Drawn0.refl _ | apply Drawn0.step)⟩
      · rw [if_neg c5] at H
        have c5b0 : decide (1 ≤ a1) = false := decide_eq_false c5
        clear c5
        obtain rfl := Option.some.inj H
        go_enter Try.func22, Try.ntmps22
        go_wp2
        go_ret
        exact ⟨by first | rfl | (simp; done) | (simp [*]; done), by repeat (first | exact Drawn0.refl _ | apply Drawn0.step)⟩
    · rw [if_neg c4] at H
      have c4b0 : decide (a0 ≤ 100) = false := decide_eq_false c4
      clear c4
      obtain rfl := Option.some.inj H
      go_enter Try.func22, Try.ntmps22
      go_wp2
      go_ret
      exact ⟨by first | rfl | (simp; done) | (simp [*]; done), by repeat (first | exact Drawn0.refl _ | apply Drawn0.step)⟩
  · rw [if_neg c3] at H
    have c3b0 : decide (0 ≤ a0) = false := decide_eq_false c3
    clear c3
    obtain rfl := Option.some.inj H
    go_enter Try.func22, Try.ntmps22
    go_wp2
    go_ret
    exact ⟨by first | rfl | (simp; done) | (simp [*]; done), by repeat (first | exact Drawn0.refl _ | apply Drawn0.step)⟩

end Go.Proofs.Ytcelibdkicfgkaa.P

/-! Part PF23. -/
namespace Go.Proofs.Ytcelibdkicfgkaa.P
open Go.RowKit Go.Proofs.YtcelibdkicfgkaaW.PrintWords Go.Proofs.YtcelibdkicfgkaaW.PrintLast Go.Proofs.YtcelibdkicfgkaaW.PrintMore
attribute [local go_sem] max2_int min2_int max_two min_two max_three min_three max_four min_four   -- for this text's walks alone
set_option linter.unusedVariables false
set_option linter.unusedSimpArgs false

/-! ### wash_ratio: function 23 -/
def wash_ratio.l0 : Nat → Int → Int → Int → Int → Option (Int × Int)
  | 0, _, _, _, _ => none
  | k + 1, x0, x1, x5, x6 => if x6 = 0 then (if x5 = 0 then (none) else (some (wrap64 (Int.tdiv x0 x5), wrap64 (Int.tdiv x1 x5)))) else (wash_ratio.l0 k x0 x1 x6 (Int.tmod x5 x6))
def wash_ratio.f (k : Nat) (a0 : Int) (a1 : Int) : Option (Int × Int) := wash_ratio.l0 k a0 a1 a0 a1
theorem wash_ratio.mono_l : ∀ k, (∀ y0 y1 y2 y3, LeO (wash_ratio.l0 k y0 y1 y2 y3) (wash_ratio.l0 (k + 1) y0 y1 y2 y3))
  | 0 => fun _ _ _ _ r h => by simp [wash_ratio.l0] at h
  | k + 1 => by
    have ih0 := wash_ratio.mono_l k
    · intro y0 y1 y2 y3
      unfold wash_ratio.l0
      repeat' first
      | (with_reducible exact ih0 _ _ _ _)
      | (with_reducible exact LeO.refl _)
      | (with_reducible exact LeO.none _)
      | (with_reducible refine LeO.ite ?_ ?_)
      | (with_reducible refine LeO.bind ?_ (fun _ => ?_))
      | exact ih0 _ _ _ _
      | exact LeO.none _
      | refine LeO.ite ?_ ?_
      | refine LeO.bind ?_ (fun _ => ?_)
theorem wash_ratio.mono : ∀ a0 a1 k, LeO (wash_ratio.f k a0 a1) (wash_ratio.f (k + 1) a0 a1) := by
  intro a0 a1 k
  have ih0 := wash_ratio.mono_l k
  unfold wash_ratio.f
  repeat' first
      | (with_reducible exact ih0 _ _ _ _)
      | (with_reducible exact LeO.refl _)
      | (with_reducible exact LeO.none _)
      | (with_reducible refine LeO.ite ?_ ?_)
      | (with_reducible refine LeO.bind ?_ (fun _ => ?_))
      | exact ih0 _ _ _ _
      | exact LeO.none _
      | refine LeO.ite ?_ ?_
      | refine LeO.bind ?_ (fun _ => ?_)
def wash_ratio.T4 : Bool × List (List Nat × List Nat) := (true, [([], []), ([], []), ([0, 1], [0, 1]), ([], []), ([], []), ([3, 4], [3, 4]), ([2, 5], [2, 5]), ([6, 0, 1, 2, 3, 4, 5, 6], [6])])
def wash_ratio.B4 : List Nat := [0, 0, 3, 0, 0, 24, 63, 127]
theorem wash_ratio.tab4 : rtab .any (opsOf Try.f23 4) = wash_ratio.T4 := by kernel_rfl
theorem wash_ratio.bits4 : waitsOk wash_ratio.T4.2 wash_ratio.B4 = true := by kernel_rfl
set_option maxHeartbeats 8000000 in
set_option maxRecDepth 100000 in
theorem wash_ratio.calls (k : Nat) (a0 : Int) (a1 : Int) (r1 : Int) (r2 : Int) (w : World) (h : wash_ratio.f k a0 a1 = some (r1, r2)) :
    Calls Try.prog 23 #[.int .i64 a0, .int .i64 a1] w fun e w' => e = .returned (.agg #[.int .i64 r1, .int .i64 r2]) ∧ Below w.heap.size w w' := by
  have hu34 := Try.underlying34
  have HB := Aside0.mk (Below.refl w.heap.size w)
  have H : (wash_ratio.l0 k a0 a1 a0 a1) = some (r1, r2) := h
  clear h
  have H' := Aside0.mk H
  clear H
  go_enter Try.func23, Try.ntmps23
  go_wp2_with (first | ((with_reducible refine gate_dst (N := 4) rfl ?_); refine box_event ?hg (N := 4) ?hd (cs := #[.int .i64 0, .int .i64 0]) (t := 34) ?hr ?_; (case hd => rfl); (case hg => rfl); (case hr => first | (go_simp; done) | (go_simp; rfl)); intro gb101 hg w3 hbox hb; have n0_ := Aside0.mk (below_step (by repeat (first | (with_reducible first | exact HB.out | apply below_alloc | apply pw_below_drewN | apply below_drew1) | exact HB.out)) hb); have n1_ := Aside0.mk (hbox); have n2_ := Aside0.mk ((by rw [hg]; exact (below_size (by repeat (first | (with_reducible first | exact HB.out | apply below_alloc | apply pw_below_drewN | apply below_drew1) | exact HB.out))) : w.heap.size ≤ gb101)); have n3_ := Aside0.mk ((by rw [hg]; exact (below_size (by repeat (first | (with_reducible first | exact HB.out | apply below_alloc | apply pw_below_drewN | apply below_drew1) | exact HB.out))) : w.heap.size ≤ gb101)); clear HB; have HB := n0_; have BK101 := n1_; have GW101 := n2_; have GE101 := n3_; clear n0_ n1_ n2_ n3_; clear hb hbox hg))
  go_loopg [5, 6] k (fun kq v5 v6 w' => ∃ (x5_1 : Int) (x6_1 : Int), v5 = .int .i64 x5_1 ∧ v6 = .int .i64 x6_1 ∧ Aside0 (wash_ratio.l0 kq a0 a1 x5_1 x6_1 = some (r1, r2)) ∧ Aside0 (kq ≤ k) ∧ Aside0 (w'.heap[gb101]? = some (.cells #[.int .i64 0, .int .i64 0] 34 (0, 0))) ∧ Aside0 (Below w.heap.size w w'))
  case atStart => exact ⟨(a0), (a1), (by first | rfl | (simp; done) | (simp [*]; done)), (by first | rfl | (simp; done) | (simp [*]; done)), H', ⟨Nat.le_refl _⟩, ⟨by (with_reducible repeat (first | refine blk_drewN ?_ _ | refine blk_drew ?_ | refine blk_alloc ?_ _)); exact BK101.out⟩, ⟨by repeat (first | (with_reducible first | exact HB.out | apply below_alloc | apply pw_below_drewN | apply below_drew1 | refine below_set ?_ GE101.out) | exact HB.out)⟩⟩
  case round =>
    clear H'
    try clear c2
    try clear p2
    obtain ⟨x5_1, x6_1, rfl, rfl, HA, HK1, BK101, HB⟩ := hrel
    cases gk with
    | zero => exact absurd HA.out (by simp [wash_ratio.l0])
    | succ k1 =>
      have H := HA.out
      clear HA
      simp only [wash_ratio.l0] at H
      by_cases c4 : x6_1 = 0
      · rw [if_pos c4] at H
        have c4b0 : (x6_1 == 0) = true := beq_iff_eq.mpr c4
        have c4b1 : (x6_1 != 0) = false := bne_eq_false_iff_eq.mpr c4
        clear c4
        by_cases c5 : x5_1 = 0
        · rw [if_pos c5] at H
          exact absurd H (by simp)
        · rw [if_neg c5] at H
          have c5b0 : (x5_1 == 0) = false := beq_eq_false_iff_ne.mpr c5
          have c5b1 : (x5_1 != 0) = true := bne_iff_ne.mpr c5
          simp only [Option.some.injEq, Prod.mk.injEq] at H
          obtain ⟨rfl, rfl⟩ := H
          try go_wp2
          have n0_ := Aside0.mk (blk_drew BK101.out)
          have n1_ := Aside0.mk (below_drew1 HB.out)
          clear BK101
          clear HB
          have BK101 := n0_
          have HB := n1_
          clear n0_ n1_
          refine start_ (n := 8) (S := fun w' => True) (ds := []) #[false, false, false, false, false, false, false, false] (by kernel_rfl) rfl rfl trivial (fun hHeld => ?_); refine with_tabW wash_ratio.tab4 wash_ratio.bits4 (fun HT_ HW_ => ?_)
          generalize wr.drew = w6 at BK101 HB hHeld ⊢
          refine pure_ (i := 0) (N := some 15) (v := ?_) (a' := ?_) #[true, false, false, false, false, false, false, false] rfl rfl (any_of HT_.out (by kernel_rfl)) (fun _ _ _ h => h) (Or.inl ⟨by rfl, ?_⟩) ?_ ?_
          rotate_left
          · intro w'
            go_simp
            with_reducible rfl
          rotate_left
          · simp only [Act.put, List.setIfInBounds_toArray, List.set_cons_zero, List.set_cons_succ, i64_w, i32_w]
            rfl
          refine pure_ (i := 1) (N := some 16) (v := ?_) (a' := ?_) #[true, true, false, false, false, false, false, false] rfl rfl (any_of HT_.out (by kernel_rfl)) (fun _ _ _ h => h) (Or.inl ⟨by rfl, ?_⟩) ?_ ?_
          rotate_left
          · intro w'
            go_simp
            with_reducible rfl
          rotate_left
          · simp only [Act.put, List.setIfInBounds_toArray, List.set_cons_zero, List.set_cons_succ, i64_w, i32_w]
            rfl
          refine pure_ (i := 2) (N := some 17) (v := ?_) (a' := ?_) #[true, true, true, false, false, false, false, false] rfl rfl (any_of HT_.out (by kernel_rfl)) (fun _ _ _ h => h) (Or.inl ⟨by rfl, ?_⟩) ?_ ?_
          rotate_left
          · intro w'
            go_simp
            with_reducible rfl
          rotate_left
          · simp only [Act.put, List.setIfInBounds_toArray, List.set_cons_zero, List.set_cons_succ, i64_w, i32_w]
            rfl
          refine pure_ (i := 3) (N := some 18) (v := ?_) (a' := ?_) #[true, true, true, true, false, false, false, false] rfl rfl (any_of HT_.out (by kernel_rfl)) (fun _ _ _ h => h) (Or.inl ⟨by rfl, ?_⟩) ?_ ?_
          rotate_left
          · intro w'
            go_simp
            with_reducible rfl
          rotate_left
          · simp only [Act.put, List.setIfInBounds_toArray, List.set_cons_zero, List.set_cons_succ, i64_w, i32_w]
            rfl
          refine pure_ (i := 4) (N := some 19) (v := ?_) (a' := ?_) #[true, true, true, true, true, false, false, false] rfl rfl (any_of HT_.out (by kernel_rfl)) (fun _ _ _ h => h) (Or.inl ⟨by rfl, ?_⟩) ?_ ?_
          rotate_left
          · intro w'
            go_simp
            with_reducible rfl
          rotate_left
          · simp only [Act.put, List.setIfInBounds_toArray, List.set_cons_zero, List.set_cons_succ, i64_w, i32_w]
            rfl
          refine pure_ (i := 5) (N := some 20) (v := ?_) (a' := ?_) #[true, true, true, true, true, true, false, false] rfl rfl (any_of HT_.out (by kernel_rfl)) (fun _ _ _ h => h) (Or.inl ⟨by rfl, ?_⟩) ?_ ?_
          rotate_left
          · intro w'
            go_simp
            with_reducible rfl
          rotate_left
          · simp only [Act.put, List.setIfInBounds_toArray, List.set_cons_zero, List.set_cons_succ, i64_w, i32_w]
            rfl
          refine pure_ (i := 6) (N := some 21) (v := ?_) (a' := ?_) #[true, true, true, true, true, true, true, false] rfl rfl (any_of HT_.out (by kernel_rfl)) (fun _ _ _ h => h) (Or.inl ⟨by rfl, ?_⟩) ?_ ?_
          rotate_left
          · intro w'
            go_simp
            with_reducible rfl
          rotate_left
          · simp only [Act.put, List.setIfInBounds_toArray, List.set_cons_zero, List.set_cons_succ, i64_w, i32_w]
            rfl
          refine one_ (i := 7) (N := none) #[true, true, true, true, true, true, true, true] rfl rfl (one_of HT_.out (by kernel_rfl)) (by decide) (fun K hK => ?_)
          have hs7 : w6.cell? ⟨gb101, 0, none⟩ = some (.int .i64 0) := (blk_cell BK101.out 0).trans rfl
          have hfs7 := blk_frozen BK101.out 0
          have hs8 : w6.cell? ⟨gb101, 1, none⟩ = some (.int .i64 0) := (blk_cell BK101.out 1).trans rfl
          have hfs8 := blk_frozen BK101.out 1
          refine skip_ (w1 := ?_) (by rfl) rfl ?_ ?_
          rotate_left
          · go_simp
            rfl
          refine hK.out _ _ trivial (fun hHeld => ?_)
          clear hK K
          refine done_ (done_of HT_.out (by kernel_rfl)) ?_
          try go_wp2
          refine bodyPost_ret (results_cell_row rfl _ _ gb101 34 #[.int .i64 (wrap64 (Int.tdiv a0 x5_1)), .int .i64 (wrap64 (Int.tdiv a1 x5_1))] (0, 0) _ rfl (by (with_reducible repeat (first | refine blk_drewN ?_ _ | refine blk_drew ?_ | refine blk_alloc ?_ _)); refine blk_put (cs := #[.int .i64 (wrap64 (Int.tdiv a0 x5_1)), .int .i64 0]) ?_ 1 _ rfl; (with_reducible repeat (first | refine blk_drewN ?_ _ | refine blk_drew ?_ | refine blk_alloc ?_ _)); refine blk_put (cs := #[.int .i64 0, .int .i64 0]) ?_ 0 _ rfl; (with_reducible repeat (first | refine blk_drewN ?_ _ | refine blk_drew ?_ | refine blk_alloc ?_ _)); exact BK101.out) Try.underlying34 rfl (by kernel_rfl)) rfl ?_
          exact ⟨by first | rfl | (simp [errW_none, errW_some] <;> rfl) | (simp [*, errW_none, errW_some] <;> rfl), by repeat (first | (with_reducible first | exact HB.out | apply below_alloc | apply pw_below_drewN | apply below_drew1 | refine below_set ?_ GE101.out) | exact HB.out)⟩
      · rw [if_neg c4] at H
        have c4b0 : (x6_1 == 0) = false := beq_eq_false_iff_ne.mpr c4
        have c4b1 : (x6_1 != 0) = true := bne_iff_ne.mpr c4
        have H' := Aside0.mk H
        clear H
        try go_wp2
        have n0_ := Aside0.mk (blk_drew BK101.out)
        have n1_ := Aside0.mk (below_drew1 HB.out)
        clear BK101
        clear HB
        have BK101 := n0_
        have HB := n1_
        clear n0_ n1_
        refine start_ (n := 6) (S := fun w' => True) (ds := []) #[false, false, false, false, false, false] (by kernel_rfl) rfl rfl trivial (fun hHeld => ?_)
        generalize wr.drew = w9 at BK101 HB hHeld ⊢
        refine pure_ (i := 0) (N := some 11) (v := ?_) (a' := ?_) #[true, false, false, false, false, false] rfl rfl (by kernel_rfl) (fun _ _ _ h => h) (Or.inl ⟨by rfl, ?_⟩) ?_ ?_
        rotate_left
        · intro w'
          go_simp
          with_reducible rfl
        rotate_left
        · simp only [Act.put, List.setIfInBounds_toArray, List.set_cons_zero, List.set_cons_succ, i64_w, i32_w]
          rfl
        refine pure_ (i := 1) (N := some 12) (v := ?_) (a' := ?_) #[true, true, false, false, false, false] rfl rfl (by kernel_rfl) (fun _ _ _ h => h) (Or.inl ⟨by rfl, ?_⟩) ?_ ?_
        rotate_left
        · intro w'
          go_simp
          with_reducible rfl
        rotate_left
        · simp only [Act.put, List.setIfInBounds_toArray, List.set_cons_zero, List.set_cons_succ, i64_w, i32_w]
          rfl
        refine pure_ (i := 2) (N := some 13) (v := ?_) (a' := ?_) #[true, true, true, false, false, false] rfl rfl (by kernel_rfl) (fun _ _ _ h => h) (Or.inl ⟨by rfl, ?_⟩) ?_ ?_
        rotate_left
        · intro w'
          go_simp
          with_reducible rfl
        rotate_left
        · simp only [Act.put, List.setIfInBounds_toArray, List.set_cons_zero, List.set_cons_succ, i64_w, i32_w]
          rfl
        refine pure_ (i := 3) (N := some 14) (v := ?_) (a' := ?_) #[true, true, true, true, false, false] rfl rfl (by kernel_rfl) (fun _ _ _ h => h) (Or.inl ⟨by rfl, ?_⟩) ?_ ?_
        rotate_left
        · intro w'
          go_simp
          with_reducible rfl
        rotate_left
        · simp only [Act.put, List.setIfInBounds_toArray, List.set_cons_zero, List.set_cons_succ, i64_w, i32_w]
          rfl
        refine pure_ (i := 4) (N := some 5) (v := ?_) (a' := ?_) #[true, true, true, true, true, false] rfl rfl (by kernel_rfl) (fun _ _ _ h => h) (Or.inl ⟨by rfl, ?_⟩) ?_ ?_
        rotate_left
        · intro w'
          go_simp
          with_reducible rfl
        rotate_left
        · simp only [Act.put, List.setIfInBounds_toArray, List.set_cons_zero, List.set_cons_succ, i64_w, i32_w]
          rfl
        refine pure_ (i := 5) (N := some 6) (v := ?_) (a' := ?_) #[true, true, true, true, true, true] rfl rfl (by kernel_rfl) (fun _ _ _ h => h) (Or.inl ⟨by rfl, ?_⟩) ?_ ?_
        rotate_left
        · intro w'
          go_simp
          with_reducible rfl
        rotate_left
        · simp only [Act.put, List.setIfInBounds_toArray, List.set_cons_zero, List.set_cons_succ, i64_w, i32_w]
          rfl
        refine done_ (by kernel_rfl) ?_
        try go_wp2
        go_roundg k1
        case measure => have := HK1.out; omega
        case rel => exact ⟨(x6_1), (Int.tmod x5_1 x6_1), (by first | rfl | (simp; done) | (simp [*]; done)), (by first | rfl | (simp; done) | (simp [*]; done)), H', ⟨by have := HK1.out; omega⟩, ⟨by (with_reducible repeat (first | refine blk_drewN ?_ _ | refine blk_drew ?_ | refine blk_alloc ?_ _)); exact BK101.out⟩, ⟨by repeat (first | (with_reducible first | exact HB.out | apply below_alloc | apply pw_below_drewN | apply below_drew1 | refine below_set ?_ GE101.out) | exact HB.out)⟩⟩

end Go.Proofs.Ytcelibdkicfgkaa.P

/-! Part PF9. -/
namespace Go.Proofs.Ytcelibdkicfgkaa.P
open Go.RowKit Go.Proofs.YtcelibdkicfgkaaW.PrintWords Go.Proofs.YtcelibdkicfgkaaW.PrintLast Go.Proofs.YtcelibdkicfgkaaW.PrintMore
attribute [local go_sem] max2_int min2_int max_two min_two max_three min_three max_four min_four   -- for this text's walks alone
set_option linter.unusedVariables false
set_option linter.unusedSimpArgs false

/-! ### wash_Part: function 9 -/
def wash_Part.f (k : Nat) (a0 : Int) (a1 : Int) (a2 : Int) : Option (Int × Int × Int) := (wash_isTime.f a1 a2).bind fun t103 => (if t103 = true then (if a0 < 1 then (some (0, 0, 1)) else (if a0 > 20 then (some (0, 0, 1)) else ((wash_ratio.f k (mn (wrap64 (a0 * a1)) a2) a2).bind fun bt104 => (some (bt104.1, bt104.2, 0))))) else (some (0, 0, 1)))
theorem wash_Part.mono : ∀ a0 a1 a2 k, LeO (wash_Part.f k a0 a1 a2) (wash_Part.f (k + 1) a0 a1 a2) := by
  intro a0 a1 a2 k
  unfold wash_Part.f
  repeat' first
      | (with_reducible exact wash_ratio.mono _ _ _)
      | (with_reducible exact LeO.refl _)
      | (with_reducible exact LeO.none _)
      | (with_reducible refine LeO.ite ?_ ?_)
      | (with_reducible refine LeO.bind ?_ (fun _ => ?_))
      | exact wash_ratio.mono _ _ _
      | exact LeO.none _
      | refine LeO.ite ?_ ?_
      | refine LeO.bind ?_ (fun _ => ?_)
set_option maxHeartbeats 8000000 in
set_option maxRecDepth 100000 in
theorem wash_Part.calls (k : Nat) (a0 : Int) (a1 : Int) (a2 : Int) (r1 : Int) (r2 : Int) (r3 : Int) (w : World) (h : wash_Part.f k a0 a1 a2 = some (r1, r2, r3)) :
    Calls Try.prog 9 #[.int .i64 a0, .int .i64 a1, .int .i64 a2] w fun e w' => e = .returned (.tuple #[.agg #[.int .i64 r1, .int .i64 r2], .int .i64 r3]) ∧ Below w.heap.size w w' := by
  have hu34 := Try.underlying34
  have HB := Aside0.mk (Below.refl w.heap.size w)
  have H : ((wash_isTime.f a1 a2).bind fun t103 => (if t103 = true then (if a0 < 1 then (some (0, 0, 1)) else (if a0 > 20 then (some (0, 0, 1)) else ((wash_ratio.f k (mn (wrap64 (a0 * a1)) a2) a2).bind fun bt104 => (some (bt104.1, bt104.2, 0))))) else (some (0, 0, 1)))) = some (r1, r2, r3) := h
  clear h
  replace H := Option.bind_eq_some_iff.mp H
  obtain ⟨t103, A40, H⟩ := H
  replace H : (if t103 = true then (if a0 < 1 then (some (0, 0, 1)) else (if a0 > 20 then (some (0, 0, 1)) else ((wash_ratio.f k (mn (wrap64 (a0 * a1)) a2) a2).bind fun bt104 => (some (bt104.1, bt104.2, 0))))) else (some (0, 0, 1))) = some (r1, r2, r3) := H
  have A4 := Aside0.mk A40
  clear A40
  by_cases c5 : t103 = true
  · subst c5
    have H1 : (if a0 < 1 then (some (0, 0, 1)) else (if a0 > 20 then (some (0, 0, 1)) else ((wash_ratio.f k (mn (wrap64 (a0 * a1)) a2) a2).bind fun bt104 => (some (bt104.1, bt104.2, 0))))) = some (r1, r2, r3) := by rw [if_pos rfl] at H; exact H
    clear H
    have H := H1
    clear H1
    by_cases c6 : a0 < 1
    · rw [if_pos c6] at H
      have c6b0 : decide (a0 < 1) = true := decide_eq_true c6
      clear c6
      simp only [Option.some.injEq, Prod.mk.injEq] at H
      obtain ⟨rfl, rfl, rfl⟩ := H
      go_enter Try.func9, Try.ntmps9
      go_wp2_with (first | ((with_reducible refine gate_dst (N := 6) rfl ?_); refine box_event ?hg (N := 6) ?hd (cs := #[.int .i64 0, .int .i64 0]) (t := 34) ?hr ?_; (case hd => rfl); (case hg => rfl); (case hr => first | (go_simp; done) | (go_simp; rfl)); intro gb102 hg w7 hbox hb; have n0_ := Aside0.mk (below_step (by repeat (first | (with_reducible first | exact HB.out | apply below_alloc | apply pw_below_drewN | apply below_drew1) | exact HB.out)) hb); have n1_ := Aside0.mk (hbox); have n2_ := Aside0.mk ((by rw [hg]; exact (below_size (by repeat (first | (with_reducible first | exact HB.out | apply below_alloc | apply pw_below_drewN | apply below_drew1) | exact HB.out))) : w.heap.size ≤ gb102)); have n3_ := Aside0.mk ((by rw [hg]; exact (below_size (by repeat (first | (with_reducible first | exact HB.out | apply below_alloc | apply pw_below_drewN | apply below_drew1) | exact HB.out))) : w.heap.size ≤ gb102)); clear HB; have HB := n0_; have BK102 := n1_; have GW102 := n2_; have GE102 := n3_; clear n0_ n1_ n2_ n3_; clear hb hbox hg) | ((with_reducible refine gate_callee (f := 22) rfl ?_); refine goesL_ (some 10) rfl rfl Try.func22 (by kernel_rfl) rfl #[.int .i64 a1, .int .i64 a2] rfl (by (try simp only [List.map_toArray, List.map_cons, List.map_nil]); first | done | rfl | (simp only [List.length_drop, List.length_take]; rfl)) ?_; (with_reducible refine (wash_isTime.calls a1 a2 true _ A4.out).mono ?_); rintro e w' ⟨rfl, ⟨nd, rfl⟩⟩; refine ⟨_, rfl, ?_⟩; (try (rw [drewN_self w7]; generalize hq_ : World.drewN w7 _ = w7; have n0_ : Aside0 (w7.heap[gb102]? = some (.cells #[.int .i64 0, .int .i64 0] 34 (0, 0))) := ⟨by rw [← hq_]; exact (by (with_reducible repeat (first | refine blk_drewN ?_ _ | refine blk_drew ?_ | refine blk_alloc ?_ _)); exact BK102.out)⟩; have n1_ : Aside0 (Below w.heap.size w w7) := ⟨by rw [← hq_]; exact (by repeat (first | (with_reducible first | exact HB.out | apply below_alloc | apply pw_below_drewN | apply below_drew1 | refine below_set ?_ GE102.out) | exact HB.out))⟩; clear BK102 HB hq_; have BK102 := n0_; have HB := n1_; clear n0_ n1_)); have hcz8_0 : w7.cell? ⟨gb102, 0, none⟩ = some (.int .i64 0) := (blk_cell BK102.out 0).trans rfl; have hcz8_1 : w7.cell? ⟨gb102, 1, none⟩ = some (.int .i64 0) := (blk_cell BK102.out 1).trans rfl; have hfz8_0 := blk_frozen BK102.out 0; have hfz8_1 := blk_frozen BK102.out 1))
      refine bodyPost_ret (results_ct rfl _ _ gb102 34 #[.int .i64 0, .int .i64 0] (0, 0) _ rfl (by (with_reducible repeat (first | refine blk_drewN ?_ _ | refine blk_drew ?_ | refine blk_alloc ?_ _)); refine blk_put (cs := #[.int .i64 0, .int .i64 0]) ?_ 1 _ rfl; (with_reducible repeat (first | refine blk_drewN ?_ _ | refine blk_drew ?_ | refine blk_alloc ?_ _)); refine blk_put (cs := #[.int .i64 0, .int .i64 0]) ?_ 0 _ rfl; (with_reducible repeat (first | refine blk_drewN ?_ _ | refine blk_drew ?_ | refine blk_alloc ?_ _)); exact BK102.out) Try.underlying34 rfl (by kernel_rfl)) rfl ?_
      exact ⟨by first | rfl | (simp [errW_none, errW_some] <;> rfl) | (simp [*, errW_none, errW_some] <;> rfl), by repeat (first | (with_reducible first | exact HB.out | apply below_alloc | apply pw_below_drewN | apply below_drew1 | refine below_set ?_ GE102.out) | exact HB.out)⟩
    · rw [if_neg c6] at H
      have c6b0 : decide (a0 < 1) = false := decide_eq_false c6
      clear c6
      by_cases c9 : a0 > 20
      · rw [if_pos c9] at H
        have c9b0 : decide (20 < a0) = true := decide_eq_true c9
        clear c9
        simp only [Option.some.injEq, Prod.mk.injEq] at H
        obtain ⟨rfl, rfl, rfl⟩ := H
        go_enter Try.func9, Try.ntmps9
        go_wp2_with (first | ((with_reducible refine gate_dst (N := 6) rfl ?_); refine box_event ?hg (N := 6) ?hd (cs := #[.int .i64 0, .int .i64 0]) (t := 34) ?hr ?_; (case hd => rfl); (case hg => rfl); (case hr => first | (go_simp; done) | (go_simp; rfl)); intro gb102 hg w10 hbox hb; have n0_ := Aside0.mk (below_step (by repeat (first | (with_reducible first | exact HB.out | apply below_alloc | apply pw_below_drewN | apply below_drew1) | exact HB.out)) hb); have n1_ := Aside0.mk (hbox); have n2_ := Aside0.mk ((by rw [hg]; exact (below_size (by repeat (first | (with_reducible first | exact HB.out | apply below_alloc | apply pw_below_drewN | apply below_drew1) | exact HB.out))) : w.heap.size ≤ gb102)); have n3_ := Aside0.mk ((by rw [hg]; exact (below_size (by repeat (first | (with_reducible first | exact HB.out | apply below_alloc | apply pw_below_drewN | apply below_drew1) | exact HB.out))) : w.heap.size ≤ gb102)); clear HB; have HB := n0_; have BK102 := n1_; have GW102 := n2_; have GE102 := n3_; clear n0_ n1_ n2_ n3_; clear hb hbox hg) | ((with_reducible refine gate_callee (f := 22) rfl ?_); refine goesL_ (some 10) rfl rfl Try.func22 (by kernel_rfl) rfl #[.int .i64 a1, .int .i64 a2] rfl (by (try simp only [List.map_toArray, List.map_cons, List.map_nil]); first | done | rfl | (simp only [List.length_drop, List.length_take]; rfl)) ?_; (with_reducible refine (wash_isTime.calls a1 a2 true _ A4.out).mono ?_); rintro e w' ⟨rfl, ⟨nd, rfl⟩⟩; refine ⟨_, rfl, ?_⟩; (try (rw [drewN_self w10]; generalize hq_ : World.drewN w10 _ = w10; have n0_ : Aside0 (w10.heap[gb102]? = some (.cells #[.int .i64 0, .int .i64 0] 34 (0, 0))) := ⟨by rw [← hq_]; exact (by (with_reducible repeat (first | refine blk_drewN ?_ _ | refine blk_drew ?_ | refine blk_alloc ?_ _)); exact BK102.out)⟩; have n1_ : Aside0 (Below w.heap.size w w10) := ⟨by rw [← hq_]; exact (by repeat (first | (with_reducible first | exact HB.out | apply below_alloc | apply pw_below_drewN | apply below_drew1 | refine below_set ?_ GE102.out) | exact HB.out))⟩; clear BK102 HB hq_; have BK102 := n0_; have HB := n1_; clear n0_ n1_)); have hcz11_0 : w10.cell? ⟨gb102, 0, none⟩ = some (.int .i64 0) := (blk_cell BK102.out 0).trans rfl; have hcz11_1 : w10.cell? ⟨gb102, 1, none⟩ = some (.int .i64 0) := (blk_cell BK102.out 1).trans rfl; have hfz11_0 := blk_frozen BK102.out 0; have hfz11_1 := blk_frozen BK102.out 1))
        refine bodyPost_ret (results_ct rfl _ _ gb102 34 #[.int .i64 0, .int .i64 0] (0, 0) _ rfl (by (with_reducible repeat (first | refine blk_drewN ?_ _ | refine blk_drew ?_ | refine blk_alloc ?_ _)); refine blk_put (cs := #[.int .i64 0, .int .i64 0]) ?_ 1 _ rfl; (with_reducible repeat (first | refine blk_drewN ?_ _ | refine blk_drew ?_ | refine blk_alloc ?_ _)); refine blk_put (cs := #[.int .i64 0, .int .i64 0]) ?_ 0 _ rfl; (with_reducible repeat (first | refine blk_drewN ?_ _ | refine blk_drew ?_ | refine blk_alloc ?_ _)); exact BK102.out) Try.underlying34 rfl (by kernel_rfl)) rfl ?_
        exact ⟨by first | rfl | (simp [errW_none, errW_some] <;> rfl) | (simp [*, errW_none, errW_some] <;> rfl), by repeat (first | (with_reducible first | exact HB.out | apply below_alloc | apply pw_below_drewN | apply below_drew1 | refine below_set ?_ GE102.out) | exact HB.out)⟩
      · rw [if_neg c9] at H
        have c9b0 : decide (20 < a0) = false := decide_eq_false c9
        clear c9
        obtain ⟨ji12, hji12⟩ : ∃ j_ : Int, (mn (wrap64 (a0 * a1)) a2) = j_ := ⟨_, rfl⟩
        replace H : ((wash_ratio.f k (ji12) a2).bind fun bt104 => (some (bt104.1, bt104.2, 0))) = some (r1, r2, r3) := by first | (rw [hji12] at H; exact H) | (simp only [hji12] at H ⊢; exact H)
        (try rw [hji12] at A4)
        have hji12_ : (if a2 < (wrap64 (a0 * a1)) then a2 else (wrap64 (a0 * a1))) = ji12 := hji12
        replace H := Option.bind_eq_some_iff.mp H
        obtain ⟨⟨t104, t105⟩, A130, H⟩ := H
        replace H : (some (t104, t105, 0)) = some (r1, r2, r3) := H
        have A13 := Aside0.mk A130
        clear A130
        simp only [Option.some.injEq, Prod.mk.injEq] at H
        obtain ⟨rfl, rfl, rfl⟩ := H
        go_enter Try.func9, Try.ntmps9
        go_wp2_with (first | ((with_reducible refine gate_dst (N := 6) rfl ?_); refine box_event ?hg (N := 6) ?hd (cs := #[.int .i64 0, .int .i64 0]) (t := 34) ?hr ?_; (case hd => rfl); (case hg => rfl); (case hr => first | (go_simp; done) | (go_simp; rfl)); intro gb102 hg w14 hbox hb; have n0_ := Aside0.mk (below_step (by repeat (first | (with_reducible first | exact HB.out | apply below_alloc | apply pw_below_drewN | apply below_drew1) | exact HB.out)) hb); have n1_ := Aside0.mk (hbox); have n2_ := Aside0.mk ((by rw [hg]; exact (below_size (by repeat (first | (with_reducible first | exact HB.out | apply below_alloc | apply pw_below_drewN | apply below_drew1) | exact HB.out))) : w.heap.size ≤ gb102)); have n3_ := Aside0.mk ((by rw [hg]; exact (below_size (by repeat (first | (with_reducible first | exact HB.out | apply below_alloc | apply pw_below_drewN | apply below_drew1) | exact HB.out))) : w.heap.size ≤ gb102)); clear HB; have HB := n0_; have BK102 := n1_; have GW102 := n2_; have GE102 := n3_; clear n0_ n1_ n2_ n3_; clear hb hbox hg) | ((with_reducible refine gate_callee (f := 22) rfl ?_); refine goesL_ (some 10) rfl rfl Try.func22 (by kernel_rfl) rfl #[.int .i64 a1, .int .i64 a2] rfl (by (try simp only [List.map_toArray, List.map_cons, List.map_nil]); first | done | rfl | (simp only [List.length_drop, List.length_take]; rfl)) ?_; (with_reducible refine (wash_isTime.calls a1 a2 true _ A4.out).mono ?_); rintro e w' ⟨rfl, ⟨nd, rfl⟩⟩; refine ⟨_, rfl, ?_⟩; (try (rw [drewN_self w14]; generalize hq_ : World.drewN w14 _ = w14; have n0_ : Aside0 (w14.heap[gb102]? = some (.cells #[.int .i64 0, .int .i64 0] 34 (0, 0))) := ⟨by rw [← hq_]; exact (by (with_reducible repeat (first | refine blk_drewN ?_ _ | refine blk_drew ?_ | refine blk_alloc ?_ _)); exact BK102.out)⟩; have n1_ : Aside0 (Below w.heap.size w w14) := ⟨by rw [← hq_]; exact (by repeat (first | (with_reducible first | exact HB.out | apply below_alloc | apply pw_below_drewN | apply below_drew1 | refine below_set ?_ GE102.out) | exact HB.out))⟩; clear BK102 HB hq_; have BK102 := n0_; have HB := n1_; clear n0_ n1_))) | ((with_reducible refine gate_callee (f := 23) rfl ?_); refine goesL_ (some 27) rfl rfl Try.func23 (by kernel_rfl) rfl #[.int .i64 ji12, .int .i64 a2] rfl (by (try simp only [List.map_toArray, List.map_cons, List.map_nil]); first | done | (simp only [hji12]; rfl) | rfl | (simp only [List.length_drop, List.length_take]; rfl)) ?_; (with_reducible refine (wash_ratio.calls k ji12 a2 t104 t105 _ A13.out).mono ?_); rintro e w15 ⟨rfl, hb⟩; refine ⟨_, rfl, ?_⟩; have n0_ := Aside0.mk (blk_below (g := gb102) (o := .cells #[.int .i64 0, .int .i64 0] 34 (0, 0)) (by (with_reducible repeat (first | refine blk_drewN ?_ _ | refine blk_drew ?_ | refine blk_alloc ?_ _)); exact BK102.out) hb); have n1_ := Aside0.mk (below_step (by repeat (first | (with_reducible first | exact HB.out | apply below_alloc | apply pw_below_drewN | apply below_drew1 | refine below_set ?_ GE102.out) | exact HB.out)) hb); clear BK102; clear HB; have BK102 := n0_; have HB := n1_; clear n0_ n1_; (try clear hb); (try clear hb2); (try clear hk); (try clear hi); have hcz16_0 : w15.cell? ⟨gb102, 0, none⟩ = some (.int .i64 0) := (blk_cell BK102.out 0).trans rfl; have hcz16_1 : w15.cell? ⟨gb102, 1, none⟩ = some (.int .i64 0) := (blk_cell BK102.out 1).trans rfl; have hfz16_0 := blk_frozen BK102.out 0; have hfz16_1 := blk_frozen BK102.out 1))
        refine bodyPost_ret (results_ct rfl _ _ gb102 34 #[.int .i64 t104, .int .i64 t105] (0, 0) _ rfl (by (with_reducible repeat (first | refine blk_drewN ?_ _ | refine blk_drew ?_ | refine blk_alloc ?_ _)); refine blk_put (cs := #[.int .i64 t104, .int .i64 0]) ?_ 1 _ rfl; (with_reducible repeat (first | refine blk_drewN ?_ _ | refine blk_drew ?_ | refine blk_alloc ?_ _)); refine blk_put (cs := #[.int .i64 0, .int .i64 0]) ?_ 0 _ rfl; (with_reducible repeat (first | refine blk_drewN ?_ _ | refine blk_drew ?_ | refine blk_alloc ?_ _)); exact BK102.out) Try.underlying34 rfl (by kernel_rfl)) rfl ?_
        exact ⟨by first | rfl | (simp [errW_none, errW_some] <;> rfl) | (simp only [← hji12]; first | rfl | (simp [errW_none, errW_some] <;> rfl)) | (simp [*, errW_none, errW_some] <;> rfl), by repeat (first | (with_reducible first | exact HB.out | apply below_alloc | apply pw_below_drewN | apply below_drew1 | refine below_set ?_ GE102.out) | exact HB.out)⟩
  · replace c5 := Bool.eq_false_iff.mpr c5
    subst c5
    have H1 : (some (0, 0, 1)) = some (r1, r2, r3) := by rw [if_neg (show ¬ (false = true) by decide)] at H; exact H
    clear H
    have H := H1
    clear H1
    simp only [Option.some.injEq, Prod.mk.injEq] at H
    obtain ⟨rfl, rfl, rfl⟩ := H
    go_enter Try.func9, Try.ntmps9
    go_wp2_with (first | ((with_reducible refine gate_dst (N := 6) rfl ?_); refine box_event ?hg (N := 6) ?hd (cs := #[.int .i64 0, .int .i64 0]) (t := 34) ?hr ?_; (case hd => rfl); (case hg => rfl); (case hr => first | (go_simp; done) | (go_simp; rfl)); intro gb102 hg w17 hbox hb; have n0_ := Aside0.mk (below_step (by repeat (first | (with_reducible first | exact HB.out | apply below_alloc | apply pw_below_drewN | apply below_drew1) | exact HB.out)) hb); have n1_ := Aside0.mk (hbox); have n2_ := Aside0.mk ((by rw [hg]; exact (below_size (by repeat (first | (with_reducible first | exact HB.out | apply below_alloc | apply pw_below_drewN | apply below_drew1) | exact HB.out))) : w.heap.size ≤ gb102)); have n3_ := Aside0.mk ((by rw [hg]; exact (below_size (by repeat (first | (with_reducible first | exact HB.out | apply below_alloc | apply pw_below_drewN | apply below_drew1) | exact HB.out))) : w.heap.size ≤ gb102)); clear HB; have HB := n0_; have BK102 := n1_; have GW102 := n2_; have GE102 := n3_; clear n0_ n1_ n2_ n3_; clear hb hbox hg) | ((with_reducible refine gate_callee (f := 22) rfl ?_); refine goesL_ (some 10) rfl rfl Try.func22 (by kernel_rfl) rfl #[.int .i64 a1, .int .i64 a2] rfl (by (try simp only [List.map_toArray, List.map_cons, List.map_nil]); first | done | rfl | (simp only [List.length_drop, List.length_take]; rfl)) ?_; (with_reducible refine (wash_isTime.calls a1 a2 false _ A4.out).mono ?_); rintro e w' ⟨rfl, ⟨nd, rfl⟩⟩; refine ⟨_, rfl, ?_⟩; (try (rw [drewN_self w17]; generalize hq_ : World.drewN w17 _ = w17; have n0_ : Aside0 (w17.heap[gb102]? = some (.cells #[.int .i64 0, .int .i64 0] 34 (0, 0))) := ⟨by rw [← hq_]; exact (by (with_reducible repeat (first | refine blk_drewN ?_ _ | refine blk_drew ?_ | refine blk_alloc ?_ _)); exact BK102.out)⟩; have n1_ : Aside0 (Below w.heap.size w w17) := ⟨by rw [← hq_]; exact (by repeat (first | (with_reducible first | exact HB.out | apply below_alloc | apply pw_below_drewN | apply below_drew1 | refine below_set ?_ GE102.out) | exact HB.out))⟩; clear BK102 HB hq_; have BK102 := n0_; have HB := n1_; clear n0_ n1_)); have hcz18_0 : w17.cell? ⟨gb102, 0, none⟩ = some (.int .i64 0) := (blk_cell BK102.out 0).trans rfl; have hcz18_1 : w17.cell? ⟨gb102, 1, none⟩ = some (.int .i64 0) := (blk_cell BK102.out 1).trans rfl; have hfz18_0 := blk_frozen BK102.out 0; have hfz18_1 := blk_frozen BK102.out 1))
    refine bodyPost_ret (results_ct rfl _ _ gb102 34 #[.int .i64 0, .int .i64 0] (0, 0) _ rfl (by (with_reducible repeat (first | refine blk_drewN ?_ _ | refine blk_drew ?_ | refine blk_alloc ?_ _)); refine blk_put (cs := #[.int .i64 0, .int .i64 0]) ?_ 1 _ rfl; (with_reducible repeat (first | refine blk_drewN ?_ _ | refine blk_drew ?_ | refine blk_alloc ?_ _)); refine blk_put (cs := #[.int .i64 0, .int .i64 0]) ?_ 0 _ rfl; (with_reducible repeat (first | refine blk_drewN ?_ _ | refine blk_drew ?_ | refine blk_alloc ?_ _)); exact BK102.out) Try.underlying34 rfl (by kernel_rfl)) rfl ?_
    exact ⟨by first | rfl | (simp [errW_none, errW_some] <;> rfl) | (simp [*, errW_none, errW_some] <;> rfl), by repeat (first | (with_reducible first | exact HB.out | apply below_alloc | apply pw_below_drewN | apply below_drew1 | refine below_set ?_ GE102.out) | exact HB.out)⟩

end Go.Proofs.Ytcelibdkicfgkaa.P

/-! Part Ratio. -/
namespace Go.Proofs.Ytcelibdkicfgkaa.P
open Go.RowKit Go.Proofs.YtcelibdkicfgkaaW.PrintWords Go.Proofs.YtcelibdkicfgkaaW.PrintLast Go.Proofs.YtcelibdkicfgkaaW.PrintMore
set_option linter.unusedVariables false

theorem ratio_loop (x0 x1 : Int) : ∀ (b a k : Nat), b < k → 0 < Nat.gcd a b →
    wash_ratio.l0 k x0 x1 (a : Int) (b : Int) = some (wrap64 (Int.tdiv x0 (Nat.gcd a b : Nat)), wrap64 (Int.tdiv x1 (Nat.gcd a b : Nat))) := by
  intro b
  induction b using Nat.strongRecOn with
  | ind b ih =>
    intro a k hk hg
    obtain ⟨k, rfl⟩ : ∃ m, k = m + 1 := ⟨k - 1, by omega⟩
    simp only [wash_ratio.l0]
    by_cases hb : b = 0
    · subst hb
      rw [Nat.gcd_zero_right] at hg ⊢
      rw [if_pos (show ((0 : Nat) : Int) = 0 from rfl), if_neg (by omega)]
    · rw [if_neg (by omega)]
      have hm : Int.tmod (a : Int) (b : Int) = ((a % b : Nat) : Int) := by rw [Int.tmod_eq_emod_of_nonneg (by omega)]; rfl
      have hlt : a % b < b := Nat.mod_lt _ (by omega)
      have e : Nat.gcd b (a % b) = Nat.gcd a b := by rw [Nat.gcd_comm a b, Nat.gcd_rec b a, Nat.gcd_comm]
      rw [hm, ih (a % b) hlt b k (by omega) (by rw [e]; exact hg), e]
theorem ratio_eq {n d : Int} (hn : 0 ≤ n) (hn2 : n ≤ 1000000000000) (hd : 1 ≤ d) (hd2 : d ≤ 10000000) (k : Nat) (hk : 10000001 ≤ k) : wash_ratio.f k n d = some ((rat n d).f0, (rat n d).f1) := by
  unfold wash_ratio.f
  obtain ⟨a, rfl⟩ : ∃ a : Nat, n = a := ⟨n.toNat, by omega⟩
  obtain ⟨b, rfl⟩ : ∃ b : Nat, d = b := ⟨d.toNat, by omega⟩
  have hg : 0 < Nat.gcd a b := Nat.gcd_pos_of_pos_right _ (by omega)
  rw [ratio_loop _ _ b a k (by omega) hg]
  have h := rat_spec hn hd
  have e1 : Int.tdiv (a : Int) (Nat.gcd a b : Nat) = (rat (a : Int) (b : Int)).f0 := rfl
  have e2 : Int.tdiv (b : Int) (Nat.gcd a b : Nat) = (rat (a : Int) (b : Int)).f1 := rfl
  rw [e1, e2, wr_id (by omega) (by omega), wr_id (by omega) (by omega)]
end Go.Proofs.Ytcelibdkicfgkaa.P

/-! Part H26. -/
/- wash.settle: what sinks of each grain, and what is left of it, in place. -/
namespace Go.Proofs.Ytcelibdkicfgkaa.P
open Go.RowKit Go.Proofs.YtcelibdkicfgkaaW.PrintWords Go.Proofs.YtcelibdkicfgkaaW.PrintLast Go.Proofs.YtcelibdkicfgkaaW.PrintMore
attribute [local go_sem] max2_int min2_int max_two min_two max_three min_three max_four min_four   -- for this text's walks alone
set_option linter.unusedVariables false

/-- A grain whose numbers stay small. -/
def okW (x : S76) : Prop := 1 ≤ x.f0.f0 ∧ x.f0.f0 ≤ 20 ∧ 0 ≤ x.f1.f0 ∧ x.f1.f0 ≤ 1000000000 ∧ 1 ≤ x.f1.f1 ∧ x.f1.f1 ≤ 200000
def leftTo (t d : Int) (l : List S76) (i : Nat) : List S76 := (l.take i).map (leftW t d) ++ l.drop i
theorem leftTo_length (t d : Int) (l : List S76) (i : Nat) (hi : i ≤ l.length) : (leftTo t d l i).length = l.length := by
  unfold leftTo; simp; omega
theorem leftTo_get (t d : Int) (l : List S76) (i : Nat) (hi : i < l.length) : rd_T76 (leftTo t d l i) (i : Int) = l[i] := by
  unfold rd_T76 leftTo
  simp only [Int.toNat_natCast, List.getD_eq_getElem?_getD]
  rw [List.getElem?_append_right (by simp; omega)]
  simp only [List.length_map, List.length_take]
  rw [show i - min i l.length = 0 by omega, List.getElem?_drop]
  simp [hi]
theorem leftTo_succ (t d : Int) (l : List S76) (i : Nat) (hi : i < l.length) : (leftTo t d l i).set i (leftW t d l[i]) = leftTo t d l (i + 1) := by
  unfold leftTo
  have hz : ((l.take i).map (leftW t d)).length = i := by simp; omega
  rw [List.set_append_right _ _ (by omega), hz, Nat.sub_self, List.drop_eq_getElem_cons hi, List.set_cons_zero, List.take_succ_eq_append_getElem hi, List.map_append, List.append_assoc]
  rfl
theorem R_ptr {α : Type} {dk : Kd α} {e : Nat} {w : World} {B : Nat} {ok : Nat → Prop} {A : Option Addr} {n c : Nat} {xs : List α} (h : dk.R e w B ok (.slice A n c) xs) (hn : 0 < n) : ∃ g, A = some ⟨g, 0, none⟩ := by
  obtain ⟨_, inner, ho, _⟩ := h
  rcases ho.2 with ⟨he, h0⟩ | ⟨g, cap, _, he, _⟩
  · cases he; omega
  · cases he; exact ⟨g, rfl⟩
theorem mul_bound {a b A B : Int} (ha0 : 0 ≤ a) (ha : a ≤ A) (hb0 : 0 ≤ b) (hb : b ≤ B) : 0 ≤ a * b ∧ a * b ≤ A * B :=
  ⟨Int.mul_nonneg ha0 hb0, Int.mul_le_mul ha hb hb0 (by omega)⟩

set_option maxHeartbeats 8000000 in
set_option maxRecDepth 100000 in
theorem wash_settle.calls (A0 : Option Addr) (n0 c0 B : Nat) (l0 : List (S76)) (t d : Int) (w wb : World) (ho : Kd.R k76 76 w B (fun _ => True) (.slice A0 n0 c0) l0) (hB : Below B wb w) (hBw : B ≤ w.heap.size) (hok : ∀ x ∈ l0, okW x) (ht0 : 0 ≤ t) (ht1 : t ≤ 100) (hd0 : 1 ≤ d) (hd1 : d ≤ 20) (hlen : l0.length ≤ 6) :
    Calls Try.prog 26 #[.slice A0 n0 c0, .int .i64 t, .int .i64 d] w fun e w' => ∃ v0_ : Value, e = .returned (v0_) ∧ Kd.R k34 34 w' w.heap.size (fun _ => True) v0_ (l0.map (sunkW t d)) ∧ Kd.R k76 76 w' B (fun _ => True) (.slice A0 n0 c0) (l0.map (leftW t d)) ∧ Below B wb w' := by
  obtain ⟨hn, hnc, -⟩ := Kd.R_reads' ho
  have hu61 := Try.underlying61
  have hu34 := Try.underlying34
  have hu76 := Try.underlying76
  have HO := Aside0.mk ho
  have HBB := Aside0.mk hB
  have HOK := Aside0.mk hok
  have HBz := Aside0.mk hBw
  clear ho hB hBw hok
  subst hn
  go_enter Try.func26, Try.ntmps26
  go_wp2_with fail
  go_loopg [7, 13] l0.length (fun gg v7 v13 wr => ∃ i : Nat, i ≤ l0.length ∧ l0.length - i ≤ gg ∧ v13 = .int .i64 i ∧ Aside0 (Kd.R k34 34 wr w.heap.size (fun _ => True) v7 ((l0.take i).map (sunkW t d))) ∧ Aside0 (Kd.R k76 76 wr B (fun _ => True) (.slice A0 l0.length c0) (leftTo t d l0 i)) ∧ Aside0 (Below B wb wr) ∧ Aside0 (w.heap.size ≤ wr.heap.size))
  case atStart => exact ⟨0, Nat.zero_le _, by omega, rfl, ⟨Kd.R_nil k34 34 w w.heap.size _⟩, HO, HBB, ⟨Nat.le_refl _⟩⟩
  case round =>
    clear HO HBB
    obtain ⟨i, hi, hg, rfl, HS, HO, HB, HSZ⟩ := hrel
    by_cases hlt : i < l0.length
    · have hltz : (i : Int) < (l0.length : Int) := by omega
      have hq0 : (0 : Int) ≤ (i : Int) := by omega
      obtain ⟨g, hAg⟩ := R_ptr HO.out (by omega)
      subst hAg
      obtain ⟨c, hcl, hM, hcc, hfr⟩ := Kd.R_elem HO.out z76 (i : Int) hq0 hltz
      have hgx := leftTo_get t d l0 i hlt
      have hM2 : k76.M wr B (fun k => True ∧ k ≠ g) l0[i] c := by rw [← hgx]; exact hM
      have hx := HOK.out l0[i] (List.getElem_mem hlt)
      have hsn : (l0.take (i + 1)).map (sunkW t d) = (l0.take i).map (sunkW t d) ++ [sunkW t d l0[i]] := by rw [List.take_succ_eq_append_getElem hlt, List.map_append]; rfl
      have hst := leftTo_succ t d l0 i hlt
      have hsl : ((l0.take i).map (sunkW t d)).length ≤ 6 := by simp; omega
      have hln := leftTo_length t d l0 i hi
      obtain ⟨x, hxe⟩ : ∃ z, l0[i] = z := ⟨_, rfl⟩
      rw [hxe] at hM2 hx hsn hst hgx
      have HGX := Aside0.mk hgx
      clear hM hgx hxe
      obtain rfl := k76_openM hM2
      obtain ⟨⟨gs, gm⟩, ⟨nu, de⟩⟩ := x
      obtain ⟨g0, g1, n0, n1, d0, d1⟩ : 1 ≤ gs ∧ gs ≤ 20 ∧ 0 ≤ nu ∧ nu ≤ 1000000000 ∧ 1 ≤ de ∧ de ≤ 200000 := hx
      have hx0 : wr.cell? ⟨g, i * 4, none⟩ = some (.int .i64 gs) := hcc 0 _ rfl
      have hx1 : wr.cell? ⟨g, i * 4 + 1, none⟩ = some (.int .i64 gm) := hcc 1 _ rfl
      have hx2 : wr.cell? ⟨g, i * 4 + 2, none⟩ = some (.int .i64 nu) := hcc 2 _ rfl
      have hx3 : wr.cell? ⟨g, i * 4 + 3, none⟩ = some (.int .i64 de) := hcc 3 _ rfl
      have HC := Aside0.mk hM2
      have HCC := Aside0.mk hcc
      have b1 := mul_bound (show 0 ≤ gs by omega) g1 ht0 ht1
      obtain ⟨p1, hp1⟩ : ∃ z, gs * t = z := ⟨_, rfl⟩
      rw [hp1] at b1
      have w1 : IntKind.i64.wrap (gs * t) = p1 := by rw [hp1]; exact IntWalk.i64_in _ (by omega)
      obtain ⟨nn, hnn⟩ : ∃ z, (if d < p1 then d else p1) = z := ⟨_, rfl⟩
      have hnb : 0 ≤ nn ∧ nn ≤ d ∧ partI t d ⟨gs, gm⟩ = nn := by
        unfold partI; simp only [hp1]
        by_cases c : d < p1
        · rw [if_pos c] at hnn; rw [if_neg (by omega)]; omega
        · rw [if_neg c] at hnn; rw [if_pos (by omega)]; omega
      obtain ⟨nn0, nn1, hpart⟩ := hnb
      have b2 := mul_bound n0 n1 nn0 (show nn ≤ 20 by omega)
      have b3 := mul_bound (show 0 ≤ de by omega) d1 (show 0 ≤ d by omega) hd1
      have b4 := mul_bound n0 n1 (show 0 ≤ d - nn by omega) (show d - nn ≤ 20 by omega)
      have b5 : 1 ≤ de * d := by have := Int.mul_le_mul d0 hd0 (by omega) (by omega : (0 : Int) ≤ de); omega
      have hsw : sunkW t d ⟨⟨gs, gm⟩, ⟨nu, de⟩⟩ = rat (nu * nn) (de * d) := by unfold sunkW; rw [hpart]
      have hlw : leftW t d ⟨⟨gs, gm⟩, ⟨nu, de⟩⟩ = ⟨⟨gs, gm⟩, rat (nu * (d - nn)) (de * d)⟩ := by unfold leftW; rw [hpart]
      rw [hsw] at hsn
      rw [hlw] at hst
      have HSN := Aside0.mk hsn
      have HST := Aside0.mk hst
      clear hcl hM2 hcc hsw hlw hsn hst hpart
      obtain ⟨q1, hq1⟩ : ∃ z, nu * nn = z := ⟨_, rfl⟩
      obtain ⟨q2, hq2⟩ : ∃ z, de * d = z := ⟨_, rfl⟩
      obtain ⟨q4, hq4⟩ : ∃ z, nu * (d - nn) = z := ⟨_, rfl⟩
      have w2 : IntKind.i64.wrap (nu * nn) = q1 := by rw [hq1] at b2 ⊢; exact IntWalk.i64_in _ (by omega)
      have w3 : IntKind.i64.wrap (de * d) = q2 := by rw [hq2] at b3 ⊢; exact IntWalk.i64_in _ (by omega)
      have w4 : IntKind.i64.wrap (nu * (d - nn)) = q4 := by rw [hq4] at b4 ⊢; exact IntWalk.i64_in _ (by omega)
      rw [hq1] at b2 HSN
      rw [hq2] at b3 b5 HSN HST
      rw [hq4] at b4 HST
      have HR1 : Aside0 (∀ W, Calls Try.prog 23 #[.int .i64 q1, .int .i64 q2] W fun e w' => e = .returned (.agg #[.int .i64 (rat q1 q2).f0, .int .i64 (rat q1 q2).f1]) ∧ Below W.heap.size W w') := ⟨fun W => wash_ratio.calls 10000001 q1 q2 _ _ W (ratio_eq (by omega) (by omega) (by omega) (by omega) _ (Nat.le_refl _))⟩
      have HR2 : Aside0 (∀ W, Calls Try.prog 23 #[.int .i64 q4, .int .i64 q2] W fun e w' => e = .returned (.agg #[.int .i64 (rat q4 q2).f0, .int .i64 (rat q4 q2).f1]) ∧ Below W.heap.size W w') := ⟨fun W => wash_ratio.calls 10000001 q4 q2 _ _ W (ratio_eq (by omega) (by omega) (by omega) (by omega) _ (Nat.le_refl _))⟩
      generalize rat q1 q2 = s1 at HR1 HSN
      generalize rat q4 q2 = s2 at HR2 HST
      clear hq1 hq2 hq4 b2 b3 b4 b5
      go_upto_region 6 with fail
      clear w1 hx0 hx1 hx2 hx3 hp1
      have X5 := blk_new wr (.cells #[.int .i64 gs, .int .i64 gm, .int .i64 nu, .int .i64 de] 76)
      have HS5 := Aside0.mk (Kd.R_alloc HS.out (.cells #[.int .i64 gs, .int .i64 gm, .int .i64 nu, .int .i64 de] 76))
      have HO5 := Aside0.mk (Kd.R_alloc HO.out (.cells #[.int .i64 gs, .int .i64 gm, .int .i64 nu, .int .i64 de] 76))
      have HB5 := Aside0.mk (Below.alloc HB.out (Nat.le_trans HBz.out HSZ.out) (.cells #[.int .i64 gs, .int .i64 gm, .int .i64 nu, .int .i64 de] 76))
      have HZ5 : Aside0 (w.heap.size ≤ (wr.alloc (.cells #[.int .i64 gs, .int .i64 gm, .int .i64 nu, .int .i64 de] 76)).heap.size) := ⟨by rw [World.size_alloc]; have := HSZ.out; omega⟩
      obtain ⟨g5, hg5⟩ : ∃ z, z = wr.heap.size := ⟨_, rfl⟩
      rw [← hg5] at X5 ⊢
      generalize hw5 : wr.alloc (.cells #[.int .i64 gs, .int .i64 gm, .int .i64 nu, .int .i64 de] 76) = w5 at X5 HS5 HO5 HB5 HZ5 ⊢
      clear hw5 hg5 HS HO HB HSZ
      have hy2 : w5.cell? ⟨g5, 2, none⟩ = some (.int .i64 nu) := (blk_cell X5 2).trans rfl
      have hy3 : w5.cell? ⟨g5, 3, none⟩ = some (.int .i64 de) := (blk_cell X5 3).trans rfl
      have X5 := Aside0.mk X5
      go_upto_region 7 with (first | (go_at_call 23; (with_reducible refine (HR1.out _).mono ?_); rintro e w6 ⟨rfl, hb⟩; have HS6 := Aside0.mk (Kd.R_below HS5.out hb); have HO6 := Aside0.mk (Kd.R_below HO5.out hb); have HB6 := Aside0.mk (below_then HB5.out (Nat.le_trans HBz.out HZ5.out) hb); have HZ6 := Aside0.mk (Nat.le_trans HZ5.out hb.size); have X6 := Aside0.mk (blk_below X5.out hb); clear hb hy2 hy3 HS5 HO5 HB5 HZ5 X5) | ((with_reducible refine gate_builtin (b := .append) (xs := #[.tmp 25, .tmp 37]) rfl ?_); at_builtin; refine Kd.R_append k34 (w0 := w6) w.heap.size rfl (.tmp 25) (.tmp 37) 42 34 (.agg #[(.int .i64 0), (.int .i64 0)]) 16 rfl Try.underlying42 info34 rfl (by decide) (by omega) u7 ((l0.take i).map (sunkW t d)) s1 [.int .i64 s1.f0, .int .i64 s1.f1] (fun _ => True) (fun _ => False) rfl (by first | (go_simp; done) | (go_simp; rfl)) ?aP (fun _ hk => hk.elim) ?aF ?aO ?aB ?aS ?aL ?_; (case aP => exact k34_mkM _ _ _ s1); (case aB => exact Below.refl _ _); (case aF => exact fun _ _ => trivial); (case aO => exact HS6.out); (case aS => exact HZ6.out); (case aL => omega); intro v7 w7 ho hb hg hat; have HS7 := Aside0.mk ho; have HO7 := Aside0.mk (Kd.R_over' HO6.out (Kd.R_typed HS6.out) (by decide) hg); have HB7 := Aside0.mk (pw_below_grown HB6.out _ (Nat.le_trans HBz.out HZ6.out) hg (fun k hk => Nat.le_trans HBz.out (Kd.R_base HS6.out k hk))); have X7 := Aside0.mk (blk_grown X6.out hg (Kd.R_ne HS6.out X6.out (by decide))); have HZ7 := Aside0.mk (Nat.le_trans HZ6.out hg.size); clear ho hb hg hat HS6 HO6 HB6 HZ6 X6))
      have hy2 : w7.cell? ⟨g5, 2, none⟩ = some (.int .i64 nu) := (blk_cell X7.out 2).trans rfl
      have hy3 : w7.cell? ⟨g5, 3, none⟩ = some (.int .i64 de) := (blk_cell X7.out 3).trans rfl
      have hw5 : IntKind.i64.wrap (d - nn) = d - nn := IntWalk.i64_in _ (by omega)
      have hHN := Aside0.mk hnn
      clear hnn
      go_wp2_with (first | (go_at_call 23; (with_reducible refine (HR2.out _).mono ?_); rintro e w8 ⟨rfl, hb⟩; have HS8 := Aside0.mk (Kd.R_below HS7.out hb); have HO8 := Aside0.mk (Kd.R_below HO7.out hb); have HB8 := Aside0.mk (below_then HB7.out (Nat.le_trans HBz.out HZ7.out) hb); have HZ8 := Aside0.mk (Nat.le_trans HZ7.out hb.size); clear hb hy2 hy3 HS7 HO7 HB7 HZ7 X7; obtain ⟨c8, hcl8, hM8, hcc8, hfr8⟩ := Kd.R_elem HO8.out z76 (i : Int) hq0 hltz; have HC8 := Aside0.mk hcc8; have HK8 := Aside0.mk hcl8; have HM8 := Aside0.mk hM8; clear hcc8 hcl8 hM8 hfr8) | ((with_reducible refine gate_store (t := 34) (p := 55) rfl ?_); refine Kd.R_store k76 (w0 := wb) B rfl rfl 34 (.tmp 55) (.tmp 53) rfl 76 (g := g) (n := l0.length) (cap := c0) (o' := i * 4 + 2) (i : Int) 2 (leftTo t d l0 i) ⟨⟨gs, gm⟩, s2⟩ (.agg #[.int .i64 s2.f0, .int .i64 s2.f1]) [.int .i64 s2.f0, .int .i64 s2.f1] c8 (fun _ => True) (fun _ => False) rfl rfl rfl rfl (by kernel_rfl) (by simp [Value.oneCell']) HO8.out hq0 hltz HK8.out HC8.out (show 2 + 2 ≤ 4 by decide) ?sM (fun _ hk => hk.elim) HB8.out ?_; (case sM => exact (by have h := k76_openM HM8.out; rw [show (leftTo t d l0 i).getD (i : Int).toNat z76 = rd_T76 (leftTo t d l0 i) (i : Int) from rfl, HGX.out] at h; subst h; exact k76_mkM _ _ _ ⟨⟨gs, gm⟩, s2⟩)); intro w9 ho hb hg; have HO9 := Aside0.mk ho; have HS9 := Aside0.mk (Kd.R_over' HS8.out (Kd.R_typed HO8.out) (by decide) hg); have HB9 := Aside0.mk hb; have HZ9 := Aside0.mk (Nat.le_trans HZ8.out hg.size); clear ho hb hg))
      go_roundg (l0.length - (i + 1))
      case measure => omega
      case rel => exact ⟨i + 1, by omega, by omega, by go_num, ⟨by rw [HSN.out]; exact HS9.out⟩, ⟨by rw [← HST.out]; exact HO9.out⟩, HB9, HZ9⟩
    · have hiz : ¬ (i : Int) < (l0.length : Int) := by omega
      have HE : Aside0 (leftTo t d l0 i = l0.map (leftW t d)) := ⟨by unfold leftTo; rw [List.take_of_length_le (by omega), List.drop_of_length_le (by omega), List.append_nil]⟩
      have HE2 : Aside0 (l0.take i = l0) := ⟨List.take_of_length_le (by omega)⟩
      go_wp2_with fail
      go_ret
      refine ⟨_, rfl, ?_, ?_, HB.out⟩
      · have h := HS.out; rw [HE2.out] at h; exact h
      · have h := HO.out; rw [HE.out] at h; exact h
end Go.Proofs.Ytcelibdkicfgkaa.P

/-! Part PF25. -/
namespace Go.Proofs.Ytcelibdkicfgkaa.P
open Go.RowKit Go.Proofs.YtcelibdkicfgkaaW.PrintWords Go.Proofs.YtcelibdkicfgkaaW.PrintLast Go.Proofs.YtcelibdkicfgkaaW.PrintMore
attribute [local go_sem] max2_int min2_int max_two min_two max_three min_three max_four min_four   -- for this text's walks alone
set_option linter.unusedVariables false
set_option linter.unusedSimpArgs false

/-! ### wash_pour: function 25 -/
def wash_pour.l0 : Nat → List (S76) → List (S61) → Int → Int → Option ((List (S76)))
  | 0, _, _, _, _ => none
  | k + 1, x3, x6, x7, x8 => if x8 < x7 then (if 0 ≤ x8 then (if x8 < (x6.length : Int) then ((wash_ratio.f k ((rd_T61 x6 x8).f1) 1).bind fun bt115 => (if x3.length < 4398046511104 then (wash_pour.l0 k (x3 ++ [(⟨(⟨(rd_T61 x6 x8).f0, (rd_T61 x6 x8).f1⟩ : S61), (⟨bt115.1, bt115.2⟩ : S34)⟩ : S76)]) x6 x7 (wrap64 (x8 + 1))) else (none))) else (none)) else (none)) else (some x3)
def wash_pour.f (k : Nat) (l0 : List (S61)) : Option ((List (S76))) := wash_pour.l0 k ([] : List (S76)) l0 (l0.length : Int) 0
theorem wash_pour.mono_l : ∀ k, (∀ y0 y1 y2 y3, LeO (wash_pour.l0 k y0 y1 y2 y3) (wash_pour.l0 (k + 1) y0 y1 y2 y3))
  | 0 => fun _ _ _ _ r h => by simp [wash_pour.l0] at h
  | k + 1 => by
    have ih0 := wash_pour.mono_l k
    · intro y0 y1 y2 y3
      unfold wash_pour.l0
      repeat' first
      | (with_reducible exact ih0 _ _ _ _)
      | (with_reducible exact wash_ratio.mono _ _ _)
      | (with_reducible exact LeO.refl _)
      | (with_reducible exact LeO.none _)
      | (with_reducible refine LeO.ite ?_ ?_)
      | (with_reducible refine LeO.bind ?_ (fun _ => ?_))
      | exact ih0 _ _ _ _
      | exact wash_ratio.mono _ _ _
      | exact LeO.none _
      | refine LeO.ite ?_ ?_
      | refine LeO.bind ?_ (fun _ => ?_)
theorem wash_pour.mono : ∀ a0 k, LeO (wash_pour.f k a0) (wash_pour.f (k + 1) a0) := by
  intro a0 k
  have ih0 := wash_pour.mono_l k
  unfold wash_pour.f
  repeat' first
      | (with_reducible exact ih0 _ _ _ _)
      | (with_reducible exact wash_ratio.mono _ _ _)
      | (with_reducible exact LeO.refl _)
      | (with_reducible exact LeO.none _)
      | (with_reducible refine LeO.ite ?_ ?_)
      | (with_reducible refine LeO.bind ?_ (fun _ => ?_))
      | exact ih0 _ _ _ _
      | exact wash_ratio.mono _ _ _
      | exact LeO.none _
      | refine LeO.ite ?_ ?_
      | refine LeO.bind ?_ (fun _ => ?_)
def wash_pour.T5 : Bool × List (List Nat × List Nat) := (true, [([], []), ([], []), ([], []), ([2], [2]), ([3], [3]), ([1, 4], [1, 4]), ([5], [5]), ([0, 6, 4], [0, 6]), ([7, 7, 0, 1, 2, 3, 4, 5, 6, 7], [0, 7])])
def wash_pour.B5 : List Nat := [0, 0, 0, 4, 12, 30, 62, 127, 255]
theorem wash_pour.tab5 : rtab .any (opsOf Try.f25 5) = wash_pour.T5 := by kernel_rfl
theorem wash_pour.bits5 : waitsOk wash_pour.T5.2 wash_pour.B5 = true := by kernel_rfl
set_option maxHeartbeats 8000000 in
set_option maxRecDepth 100000 in
theorem wash_pour.calls (k : Nat) (A0 : Option Addr) (c0 : Nat) (l0 : List (S61)) (r : List (S76)) (w : World) (hr0 : Kd.C k61 w A0 l0.length l0) (hc0 : l0.length ≤ c0) (h : wash_pour.f k l0 = some r) :
    Calls Try.prog 25 #[.slice A0 l0.length c0] w fun e w' => ∃ v0_ : Value, e = .returned (v0_) ∧ Kd.R k76 76 w' w.heap.size (fun _ => True) v0_ r ∧ Below w.heap.size w w' := by
  have hu61 := Try.underlying61
  have hu76 := Try.underlying76
  have HR0 := Aside0.mk hr0
  have HC0 := Aside0.mk hc0
  clear hr0 hc0
  have HB := Aside0.mk (Below.refl w.heap.size w)
  have H : (wash_pour.l0 k ([] : List (S76)) l0 (l0.length : Int) 0) = some r := h
  clear h
  have H' := Aside0.mk H
  clear H
  go_enter Try.func25, Try.ntmps25
  go_wp2
  go_loopg [3, 8] k (fun kq v3 v8 w' => ∃ (x3_1 : List (S76)) (x8_1 : Int), v8 = .int .i64 x8_1 ∧ Aside0 (wash_pour.l0 kq x3_1 l0 (l0.length : Int) x8_1 = some r) ∧ Aside0 (kq ≤ k) ∧ Aside0 (Kd.R k76 76 w' w.heap.size (fun _ => True) v3 x3_1) ∧ Aside0 (Below w.heap.size w w'))
  case atStart => exact ⟨(([] : List (S76))), (0), (by first | rfl | (simp; done) | (simp [*]; done)), H', ⟨Nat.le_refl _⟩, ⟨by first | exact Kd.R_nil _ _ _ _ _ | exact Kd.N_nil _ _ _ _ _ | exact Kd.V_nil _ _ _ _ _ | exact Kd.Q_nil _ _ _ _ _ | exact Kd.S_nil _ _ _ _ _⟩, ⟨by repeat (first | (with_reducible first | exact HB.out | apply below_alloc | apply pw_below_drewN | apply below_drew1) | exact HB.out)⟩⟩
  case round =>
    clear H'
    obtain ⟨x3_1, x8_1, rfl, HA, HK1, HO_3, HB⟩ := hrel
    cases gk with
    | zero => exact absurd HA.out (by simp [wash_pour.l0])
    | succ k1 =>
      have H := HA.out
      clear HA
      simp only [wash_pour.l0] at H
      by_cases c2 : x8_1 < (l0.length : Int)
      · rw [if_pos c2] at H
        have c2b0 : decide (x8_1 < (l0.length : Int)) = true := decide_eq_true c2
        clear c2
        by_cases c3 : 0 ≤ x8_1
        · rw [if_pos c3] at H
          have c3b0 : decide (0 ≤ x8_1) = true := decide_eq_true c3
          clear c3
          by_cases c4 : x8_1 < (l0.length : Int)
          · rw [if_pos c4] at H
            have c4b0 : decide (x8_1 < (l0.length : Int)) = true := decide_eq_true c4
            clear c4
            replace H := Option.bind_eq_some_iff.mp H
            obtain ⟨⟨t115, t116⟩, A50, H⟩ := H
            replace H : (if x3_1.length < 4398046511104 then (wash_pour.l0 k1 (x3_1 ++ [(⟨(⟨(rd_T61 l0 x8_1).f0, (rd_T61 l0 x8_1).f1⟩ : S61), (⟨t115, t116⟩ : S34)⟩ : S76)]) l0 (l0.length : Int) (wrap64 (x8_1 + 1))) else (none)) = some r := H
            have A5 := Aside0.mk A50
            clear A50
            by_cases c6 : x3_1.length < 4398046511104
            · rw [if_pos c6] at H
              have LMc6 := Aside0.mk c6
              clear c6
              obtain ⟨y117, hy117⟩ : ∃ y_ : List (S76), y_ = (x3_1 ++ [(⟨(⟨(rd_T61 l0 x8_1).f0, (rd_T61 l0 x8_1).f1⟩ : S61), (⟨t115, t116⟩ : S34)⟩ : S76)]) := ⟨_, rfl⟩
              replace H : (wash_pour.l0 k1 y117 l0 (l0.length : Int) (wrap64 (x8_1 + 1))) = some r := by first | (rw [hy117]; with_reducible exact H) | (have H2_ := (Option.bind_some _ _).symm.trans H; rw [hy117]; with_reducible exact H2_) | (have H2_ := (Option.bind_some _ _).symm.trans H; with_reducible exact H2_) | with_reducible exact H | (rw [hy117]; exact H) | exact H
              have Ny117 := Aside0.mk hy117
              clear hy117
              have H' := Aside0.mk H
              clear H
              have p113 : 0 ≤ (x8_1 : Int) := of_decide_eq_true (by first | (with_reducible assumption) | assumption)
              have q113 : x8_1 < (l0.length : Int) := of_decide_eq_true (by first | (with_reducible assumption) | assumption)
              obtain ⟨ad113, e113, hx113_0, hx113_1⟩ := at_T61 HR0.out x8_1 p113 q113
              cases e113
              replace hx113_0 := (HB.out.cell (World.block_lt_of_cell? w _ hx113_0)).trans hx113_0
              replace hx113_1 := (HB.out.cell (World.block_lt_of_cell? w _ hx113_1)).trans hx113_1
              replace p113 := eq_true p113
              replace q113 := eq_true q113
              try go_wp2_with (first | ((with_reducible refine gate_dst (N := 5) rfl ?_); refine box_event ?hg (N := 5) ?hd (cs := #[.int .i64 0, .int .i64 0]) (t := 61) ?hr ?_; (case hd => rfl); (case hg => rfl); (case hr => first | (go_simp; done) | (go_simp; rfl)); intro gb114 hg w7 hbox hb; have n0_ := Aside0.mk (Kd.R_below (by (with_reducible repeat (first | apply Kd.R_alloc | apply Kd.R_drewN | apply Kd.R_drew)); exact HO_3.out) hb); have n1_ := Aside0.mk (below_step (by repeat (first | (with_reducible first | exact HB.out | apply below_alloc | apply pw_below_drewN | apply below_drew1) | exact HB.out)) hb); have n2_ := Aside0.mk (hbox); have n3_ := Aside0.mk ((by rw [hg]; exact (below_size (by repeat (first | (with_reducible first | exact HB.out | apply below_alloc | apply pw_below_drewN | apply below_drew1) | exact HB.out))) : w.heap.size ≤ gb114)); have n4_ := Aside0.mk ((by rw [hg]; exact (below_size (by repeat (first | (with_reducible first | exact HB.out | apply below_alloc | apply pw_below_drewN | apply below_drew1) | exact HB.out))) : w.heap.size ≤ gb114)); clear HO_3; clear HB; have HO_3 := n0_; have HB := n1_; have BK114 := n2_; have GW114 := n3_; have GE114 := n4_; clear n0_ n1_ n2_ n3_ n4_; clear hb hbox hg; have hcz8_0 : w7.cell? ⟨gb114, 0, none⟩ = some (.int .i64 0) := (blk_cell BK114.out 0).trans rfl; have hcz8_1 : w7.cell? ⟨gb114, 1, none⟩ = some (.int .i64 0) := (blk_cell BK114.out 1).trans rfl; have hfz8_0 := blk_frozen BK114.out 0; have hfz8_1 := blk_frozen BK114.out 1))
              have n0_ : Aside0 (Kd.R k76 76 ((w7.setCell ⟨gb114, 0, none⟩ (.int .i64 ((rd_T61 l0 x8_1).f0))).setCell ⟨gb114, 1, none⟩ (.int .i64 ((rd_T61 l0 x8_1).f1))) w.heap.size (fun _ => True) u3 x3_1) := ⟨by (with_reducible repeat (first | apply Kd.R_alloc | apply Kd.R_drewN | apply Kd.R_drew)); exact Kd.R_mono (Kd.R_far (p := ⟨gb114, 1, none⟩) (Kd.R_far (p := ⟨gb114, 0, none⟩) (Kd.R_types HO_3.out BK114.out (by decide)) (fun _ hk => hk.2) (.int .i64 ((rd_T61 l0 x8_1).f0))) (fun _ hk => hk.2) (.int .i64 ((rd_T61 l0 x8_1).f1))) (fun _ hk => trivial)⟩
              have n1_ : Aside0 (((w7.setCell ⟨gb114, 0, none⟩ (.int .i64 ((rd_T61 l0 x8_1).f0))).setCell ⟨gb114, 1, none⟩ (.int .i64 ((rd_T61 l0 x8_1).f1))).heap[gb114]? = some (.cells #[.int .i64 ((rd_T61 l0 x8_1).f0), .int .i64 ((rd_T61 l0 x8_1).f1)] 61 (0, 0))) := ⟨by (with_reducible repeat (first | refine blk_drewN ?_ _ | refine blk_drew ?_ | refine blk_alloc ?_ _)); refine blk_put (cs := #[.int .i64 ((rd_T61 l0 x8_1).f0), .int .i64 0]) ?_ 1 _ rfl; (with_reducible repeat (first | refine blk_drewN ?_ _ | refine blk_drew ?_ | refine blk_alloc ?_ _)); refine blk_put (cs := #[.int .i64 0, .int .i64 0]) ?_ 0 _ rfl; (with_reducible repeat (first | refine blk_drewN ?_ _ | refine blk_drew ?_ | refine blk_alloc ?_ _)); exact BK114.out⟩
              have n2_ : Aside0 (Below w.heap.size w ((w7.setCell ⟨gb114, 0, none⟩ (.int .i64 ((rd_T61 l0 x8_1).f0))).setCell ⟨gb114, 1, none⟩ (.int .i64 ((rd_T61 l0 x8_1).f1)))) := ⟨by repeat (first | (with_reducible first | exact HB.out | apply below_alloc | apply pw_below_drewN | apply below_drew1 | refine below_set ?_ GE114.out) | exact HB.out)⟩
              (try clear HO_3)
              (try clear BK114)
              (try clear HB)
              generalize ((w7.setCell ⟨gb114, 0, none⟩ (.int .i64 ((rd_T61 l0 x8_1).f0))).setCell ⟨gb114, 1, none⟩ (.int .i64 ((rd_T61 l0 x8_1).f1))) = w9 at n0_ n1_ n2_ ⊢
              have HO_3 := n0_
              have BK114 := n1_
              have HB := n2_
              clear n0_ n1_ n2_
              have n0_ := Aside0.mk (Kd.R_drew HO_3.out)
              have n1_ := Aside0.mk (blk_drew BK114.out)
              have n2_ := Aside0.mk (below_drew1 HB.out)
              clear HO_3
              clear BK114
              clear HB
              have HO_3 := n0_
              have BK114 := n1_
              have HB := n2_
              clear n0_ n1_ n2_
              refine start_ (n := 9) (S := fun w' => w'.cell? ⟨gb114, 0, none⟩ = some (.int .i64 ((rd_T61 l0 x8_1).f0)) ∧ w'.cell? ⟨gb114, 1, none⟩ = some (.int .i64 ((rd_T61 l0 x8_1).f1))) (ds := []) #[false, false, false, false, false, false, false, false, false] (by kernel_rfl) rfl rfl ⟨(blk_cell BK114.out 0).trans rfl, (blk_cell BK114.out 1).trans rfl⟩ (fun hHeld => ?_); refine with_tabW wash_pour.tab5 wash_pour.bits5 (fun HT_ HW_ => ?_)
              generalize w9.drew = w10 at HO_3 BK114 HB hHeld ⊢
              refine pure_ (i := 0) (N := some 12) (v := ?_) (a' := ?_) #[true, false, false, false, false, false, false, false, false] rfl rfl (any_of HT_.out (by kernel_rfl)) (fun _ _ _ h => h) (Or.inl ⟨by rfl, ?_⟩) ?_ ?_
              rotate_left
              · intro w'
                go_simp
                with_reducible rfl
              rotate_left
              · simp only [Act.put, List.setIfInBounds_toArray, List.set_cons_zero, List.set_cons_succ, i64_w, i32_w]
                rfl
              refine pure_ (i := 2) (N := some 14) (v := ?_) (a' := ?_) #[true, false, true, false, false, false, false, false, false] rfl rfl (any_of HT_.out (by kernel_rfl)) (fun _ _ _ h => h) (Or.inl ⟨by rfl, ?_⟩) ?_ ?_
              rotate_left
              · intro w'
                go_simp
                with_reducible rfl
              rotate_left
              · simp only [Act.put, List.setIfInBounds_toArray, List.set_cons_zero, List.set_cons_succ, i64_w, i32_w]
                rfl
              refine take_ (i := 1) (N := some 13) (v := ?_) (a' := ?_) #[true, true, true, false, false, false, false, false, false] rfl rfl (take_ofW HT_.out HW_.out (by kernel_rfl)) (fun _ _ _ h => h) (Or.inl ⟨by rfl, ?_⟩) hHeld ?_ ?_
              rotate_left
              · rintro w' ⟨s0, s1⟩
                go_simp
                with_reducible rfl
              rotate_left
              · simp only [Act.put, List.setIfInBounds_toArray, List.set_cons_zero, List.set_cons_succ, i64_w, i32_w]
                rfl
              refine take_ (i := 3) (N := some 15) (v := ?_) (a' := ?_) #[true, true, true, true, false, false, false, false, false] rfl rfl (take_ofW HT_.out HW_.out (by kernel_rfl)) (fun _ _ _ h => h) (Or.inl ⟨by rfl, ?_⟩) hHeld ?_ ?_
              rotate_left
              · rintro w' ⟨s0, s1⟩
                go_simp
                with_reducible rfl
              rotate_left
              · simp only [Act.put, List.setIfInBounds_toArray, List.set_cons_zero, List.set_cons_succ, i64_w, i32_w]
                rfl
              refine one_ (i := 4) (N := some 16) #[true, true, true, true, true, false, false, false, false] rfl rfl (one_of HT_.out (by kernel_rfl)) (by decide) (fun K hK => ?_)
              refine goes_ Try.func23 (by kernel_rfl) rfl #[.int .i64 ((rd_T61 l0 x8_1).f1), .int .i64 1] (by rfl) rfl rfl (by (try simp only [List.map_toArray, List.map_cons, List.map_nil]); first | done | rfl | (simp only [List.length_drop, List.length_take]; rfl)) ?_
              with_reducible refine (wash_ratio.calls k1 ((rd_T61 l0 x8_1).f1) 1 t115 t116 _ A5.out).mono ?_
              rintro e w11 ⟨rfl, hb⟩
              refine ⟨_, rfl, ?_⟩
              have n0_ := Aside0.mk (Kd.R_below (by (with_reducible repeat (first | apply Kd.R_alloc | apply Kd.R_drewN | apply Kd.R_drew)); exact HO_3.out) hb)
              have n1_ := Aside0.mk (blk_below (g := gb114) (o := .cells #[.int .i64 ((rd_T61 l0 x8_1).f0), .int .i64 ((rd_T61 l0 x8_1).f1)] 61 (0, 0)) (by (with_reducible repeat (first | refine blk_drewN ?_ _ | refine blk_drew ?_ | refine blk_alloc ?_ _)); exact BK114.out) hb)
              have n2_ := Aside0.mk (below_step (by repeat (first | (with_reducible first | exact HB.out | apply below_alloc | apply pw_below_drewN | apply below_drew1 | refine below_set ?_ GE114.out) | exact HB.out)) hb)
              clear HO_3
              clear BK114
              clear HB
              have HO_3 := n0_
              have BK114 := n1_
              have HB := n2_
              clear n0_ n1_ n2_
              (try clear hb)
              (try clear hb2)
              (try clear hk)
              (try clear hi)
              refine hK.out _ _ ⟨(blk_cell BK114.out 0).trans rfl, (blk_cell BK114.out 1).trans rfl⟩ (fun hHeld => ?_)
              clear hK K
              refine norm_ (a' := ?_) ?_ ?_
              rotate_left
              · show Act.put _ (some 16) _ = _
                simp only [Act.put, List.setIfInBounds_toArray, List.set_cons_zero, List.set_cons_succ, i64_w, i32_w]
                rfl
              refine pure_ (i := 5) (N := some 17) (v := ?_) (a' := ?_) #[true, true, true, true, true, true, false, false, false] rfl rfl (any_of HT_.out (by kernel_rfl)) (fun _ _ _ h => h) (Or.inl ⟨by rfl, ?_⟩) ?_ ?_
              rotate_left
              · intro w'
                go_simp
                with_reducible rfl
              rotate_left
              · simp only [Act.put, List.setIfInBounds_toArray, List.set_cons_zero, List.set_cons_succ, i64_w, i32_w]
                rfl
              refine one_ (i := 6) (N := some 18) #[true, true, true, true, true, true, true, false, false] rfl rfl (one_of HT_.out (by kernel_rfl)) (by decide) (fun K hK => ?_)
              refine value_ (w1 := ?_) (v := ?_) (by rfl) rfl ?_ ?_
              rotate_left 2
              · go_simp
                constructor
                · rfl
                · rfl
              refine hK.out _ _ ⟨(blk_cell (blk_alloc BK114.out _) 0).trans rfl, (blk_cell (blk_alloc BK114.out _) 1).trans rfl⟩ (fun hHeld => ?_)
              clear hK K
              refine norm_ (a' := ?_) ?_ ?_
              rotate_left
              · show Act.put _ (some 18) _ = _
                simp only [Act.put, List.setIfInBounds_toArray, List.set_cons_zero, List.set_cons_succ, i64_w, i32_w]
                rfl
              refine one_ (i := 7) (N := some 19) #[true, true, true, true, true, true, true, true, false] rfl rfl (one_of HT_.out (by kernel_rfl)) (by decide) (fun K hK => ?_)
              refine Kd.R_append_step k76 (w0 := w) w.heap.size (by rfl) (.tmp 12) (.tmp 18) 64 76 (.agg #[(.int .i64 0), (.int .i64 0), (.int .i64 0), (.int .i64 0)]) 32 rfl Try.underlying64 info76 rfl (by decide) (by omega) u3 x3_1 (⟨(⟨(rd_T61 l0 x8_1).f0, (rd_T61 l0 x8_1).f1⟩ : S61), (⟨t115, t116⟩ : S34)⟩ : S76) [.int .i64 ((rd_T61 l0 x8_1).f0), .int .i64 ((rd_T61 l0 x8_1).f1), .int .i64 t115, .int .i64 t116] (fun _ => True) (fun _ => False) rfl rfl ?aP (fun _ hk => hk.elim) ?aF ?aO ?aB ?aS ?aL ?_
              (case aP => exact k76_mkM _ _ _ (⟨(⟨(rd_T61 l0 x8_1).f0, (rd_T61 l0 x8_1).f1⟩ : S61), (⟨t115, t116⟩ : S34)⟩ : S76))
              (case aB => exact (by repeat (first | (with_reducible first | exact HB.out | apply below_alloc | apply pw_below_drewN | apply below_drew1 | refine below_set ?_ GE114.out) | exact HB.out)))
              (case aF => exact (fun _ _ => trivial))
              (case aO => exact (by (with_reducible repeat (first | apply Kd.R_alloc | apply Kd.R_drewN | apply Kd.R_drew)); exact HO_3.out))
              (case aS => exact (below_size (by repeat (first | (with_reducible first | exact HB.out | apply below_alloc | apply pw_below_drewN | apply below_drew1 | refine below_set ?_ GE114.out) | exact HB.out))))
              (case aL => have := LMc6.out; omega)
              intro v118 w12 ho hb hg hat
              rw [← Ny117.out] at ho
              have n0_ := Aside0.mk (blk_grown (g := gb114) (o := .cells #[.int .i64 ((rd_T61 l0 x8_1).f0), .int .i64 ((rd_T61 l0 x8_1).f1)] 61 (0, 0)) (by (with_reducible repeat (first | refine blk_drewN ?_ _ | refine blk_drew ?_ | refine blk_alloc ?_ _)); exact BK114.out) hg (Kd.R_ne HO_3.out BK114.out (by decide)))
              have n1_ := Aside0.mk (hb)
              have n2_ := Aside0.mk (ho)
              clear BK114
              clear HB
              clear HO_3
              have BK114 := n0_
              have HB := n1_
              have HO119 := n2_
              clear n0_ n1_ n2_
              clear ho hb hg hat
              refine hK.out _ _ ⟨(blk_cell BK114.out 0).trans rfl, (blk_cell BK114.out 1).trans rfl⟩ (fun hHeld => ?_)
              clear hK K
              refine norm_ (a' := ?_) ?_ ?_
              rotate_left
              · show Act.put _ (some 19) _ = _
                simp only [Act.put, List.setIfInBounds_toArray, List.set_cons_zero, List.set_cons_succ, i64_w, i32_w]
                rfl
              refine pure_ (i := 8) (N := some 3) (v := ?_) (a' := ?_) #[true, true, true, true, true, true, true, true, true] rfl rfl (any_of HT_.out (by kernel_rfl)) (fun _ _ _ h => h) (Or.inl ⟨by rfl, ?_⟩) ?_ ?_
              rotate_left
              · intro w'
                go_simp
                with_reducible rfl
              rotate_left
              · simp only [Act.put, List.setIfInBounds_toArray, List.set_cons_zero, List.set_cons_succ, i64_w, i32_w]
                rfl
              refine done_ (done_of HT_.out (by kernel_rfl)) ?_
              try go_wp2
              go_roundg k1
              case measure => have := HK1.out; omega
              case rel => exact ⟨(y117), (wrap64 (x8_1 + 1)), (by first | rfl | (simp; done) | (simp [*]; done)), H', ⟨by have := HK1.out; omega⟩, ⟨by (with_reducible repeat (first | apply Kd.R_alloc | apply Kd.R_drewN | apply Kd.R_drew)); exact HO119.out⟩, ⟨by repeat (first | (with_reducible first | exact HB.out | apply below_alloc | apply pw_below_drewN | apply below_drew1 | refine below_set ?_ GE114.out) | exact HB.out)⟩⟩
            · rw [if_neg c6] at H
              exact absurd H (by simp)
          · rw [if_neg c4] at H
            exact absurd H (by simp)
        · rw [if_neg c3] at H
          exact absurd H (by simp)
      · rw [if_neg c2] at H
        have c2b0 : decide (x8_1 < (l0.length : Int)) = false := decide_eq_false c2
        clear c2
        obtain rfl := Option.some.inj H
        go_wp2
        go_ret
        exact ⟨_, by first | rfl | (simp [errW_none, errW_some] <;> rfl) | (simp [*, errW_none, errW_some] <;> rfl), by (with_reducible repeat (first | apply Kd.R_alloc | apply Kd.R_drewN | apply Kd.R_drew)); exact HO_3.out, by repeat (first | (with_reducible first | exact HB.out | apply below_alloc | apply pw_below_drewN | apply below_drew1) | exact HB.out)⟩

end Go.Proofs.Ytcelibdkicfgkaa.P

/-! Part PF27. -/
namespace Go.Proofs.Ytcelibdkicfgkaa.P
open Go.RowKit Go.Proofs.YtcelibdkicfgkaaW.PrintWords Go.Proofs.YtcelibdkicfgkaaW.PrintLast Go.Proofs.YtcelibdkicfgkaaW.PrintMore
attribute [local go_sem] max2_int min2_int max_two min_two max_three min_three max_four min_four   -- for this text's walks alone
set_option linter.unusedVariables false
set_option linter.unusedSimpArgs false

/-! ### wash_lefts: function 27 -/
def wash_lefts.l0 : Nat → List (S34) → List (S76) → Int → Int → Option ((List (S34)))
  | 0, _, _, _, _ => none
  | k + 1, x3, x6, x7, x8 => if x8 < x7 then (if 0 ≤ x8 then (if x8 < (x6.length : Int) then (if x3.length < 8796093022208 then (wash_lefts.l0 k (x3 ++ [(⟨(rd_T76 x6 x8).f1.f0, (rd_T76 x6 x8).f1.f1⟩ : S34)]) x6 x7 (wrap64 (x8 + 1))) else (none)) else (none)) else (none)) else (some x3)
def wash_lefts.f (k : Nat) (l0 : List (S76)) : Option ((List (S34))) := wash_lefts.l0 k ([] : List (S34)) l0 (l0.length : Int) 0
theorem wash_lefts.mono_l : ∀ k, (∀ y0 y1 y2 y3, LeO (wash_lefts.l0 k y0 y1 y2 y3) (wash_lefts.l0 (k + 1) y0 y1 y2 y3))
  | 0 => fun _ _ _ _ r h => by simp [wash_lefts.l0] at h
  | k + 1 => by
    have ih0 := wash_lefts.mono_l k
    · intro y0 y1 y2 y3
      unfold wash_lefts.l0
      repeat' first
      | (with_reducible exact ih0 _ _ _ _)
      | (with_reducible exact LeO.refl _)
      | (with_reducible exact LeO.none _)
      | (with_reducible refine LeO.ite ?_ ?_)
      | (with_reducible refine LeO.bind ?_ (fun _ => ?_))
      | exact ih0 _ _ _ _
      | exact LeO.none _
      | refine LeO.ite ?_ ?_
      | refine LeO.bind ?_ (fun _ => ?_)
theorem wash_lefts.mono : ∀ a0 k, LeO (wash_lefts.f k a0) (wash_lefts.f (k + 1) a0) := by
  intro a0 k
  have ih0 := wash_lefts.mono_l k
  unfold wash_lefts.f
  repeat' first
      | (with_reducible exact ih0 _ _ _ _)
      | (with_reducible exact LeO.refl _)
      | (with_reducible exact LeO.none _)
      | (with_reducible refine LeO.ite ?_ ?_)
      | (with_reducible refine LeO.bind ?_ (fun _ => ?_))
      | exact ih0 _ _ _ _
      | exact LeO.none _
      | refine LeO.ite ?_ ?_
      | refine LeO.bind ?_ (fun _ => ?_)
set_option maxHeartbeats 8000000 in
set_option maxRecDepth 100000 in
theorem wash_lefts.calls (k : Nat) (A0 : Option Addr) (c0 : Nat) (l0 : List (S76)) (r : List (S34)) (w : World) (hr0 : Kd.C k76 w A0 l0.length l0) (hc0 : l0.length ≤ c0) (h : wash_lefts.f k l0 = some r) :
    Calls Try.prog 27 #[.slice A0 l0.length c0] w fun e w' => ∃ v0_ : Value, e = .returned (v0_) ∧ Kd.R k34 34 w' w.heap.size (fun _ => True) v0_ r ∧ Below w.heap.size w w' := by
  have hu76 := Try.underlying76
  have hu34 := Try.underlying34
  have HR0 := Aside0.mk hr0
  have HC0 := Aside0.mk hc0
  clear hr0 hc0
  have HB := Aside0.mk (Below.refl w.heap.size w)
  have H : (wash_lefts.l0 k ([] : List (S34)) l0 (l0.length : Int) 0) = some r := h
  clear h
  have H' := Aside0.mk H
  clear H
  go_enter Try.func27, Try.ntmps27
  go_wp2
  go_loopg [3, 8] k (fun kq v3 v8 w' => ∃ (x3_1 : List (S34)) (x8_1 : Int), v8 = .int .i64 x8_1 ∧ Aside0 (wash_lefts.l0 kq x3_1 l0 (l0.length : Int) x8_1 = some r) ∧ Aside0 (kq ≤ k) ∧ Aside0 (Kd.R k34 34 w' w.heap.size (fun _ => True) v3 x3_1) ∧ Aside0 (Below w.heap.size w w'))
  case atStart => exact ⟨(([] : List (S34))), (0), (by first | rfl | (simp; done) | (simp [*]; done)), H', ⟨Nat.le_refl _⟩, ⟨by first | exact Kd.R_nil _ _ _ _ _ | exact Kd.N_nil _ _ _ _ _ | exact Kd.V_nil _ _ _ _ _ | exact Kd.Q_nil _ _ _ _ _ | exact Kd.S_nil _ _ _ _ _⟩, ⟨by repeat (first | (with_reducible first | exact HB.out | apply below_alloc | apply pw_below_drewN | apply below_drew1) | exact HB.out)⟩⟩
  case round =>
    clear H'
    obtain ⟨x3_1, x8_1, rfl, HA, HK1, HO_3, HB⟩ := hrel
    cases gk with
    | zero => exact absurd HA.out (by simp [wash_lefts.l0])
    | succ k1 =>
      have H := HA.out
      clear HA
      simp only [wash_lefts.l0] at H
      by_cases c2 : x8_1 < (l0.length : Int)
      · rw [if_pos c2] at H
        have c2b0 : decide (x8_1 < (l0.length : Int)) = true := decide_eq_true c2
        clear c2
        by_cases c3 : 0 ≤ x8_1
        · rw [if_pos c3] at H
          have c3b0 : decide (0 ≤ x8_1) = true := decide_eq_true c3
          clear c3
          by_cases c4 : x8_1 < (l0.length : Int)
          · rw [if_pos c4] at H
            have c4b0 : decide (x8_1 < (l0.length : Int)) = true := decide_eq_true c4
            clear c4
            by_cases c5 : x3_1.length < 8796093022208
            · rw [if_pos c5] at H
              have LMc5 := Aside0.mk c5
              clear c5
              obtain ⟨y132, hy132⟩ : ∃ y_ : List (S34), y_ = (x3_1 ++ [(⟨(rd_T76 l0 x8_1).f1.f0, (rd_T76 l0 x8_1).f1.f1⟩ : S34)]) := ⟨_, rfl⟩
              replace H : (wash_lefts.l0 k1 y132 l0 (l0.length : Int) (wrap64 (x8_1 + 1))) = some r := by first | (rw [hy132]; with_reducible exact H) | (have H2_ := (Option.bind_some _ _).symm.trans H; rw [hy132]; with_reducible exact H2_) | (have H2_ := (Option.bind_some _ _).symm.trans H; with_reducible exact H2_) | with_reducible exact H | (rw [hy132]; exact H) | exact H
              have Ny132 := Aside0.mk hy132
              clear hy132
              have H' := Aside0.mk H
              clear H
              have p130 : 0 ≤ (x8_1 : Int) := of_decide_eq_true (by first | (with_reducible assumption) | assumption)
              have q130 : x8_1 < (l0.length : Int) := of_decide_eq_true (by first | (with_reducible assumption) | assumption)
              obtain ⟨ad130, e130, hx130_0, hx130_1, hx130_2, hx130_3⟩ := at_T76 HR0.out x8_1 p130 q130
              cases e130
              replace hx130_0 := (HB.out.cell (World.block_lt_of_cell? w _ hx130_0)).trans hx130_0
              replace hx130_1 := (HB.out.cell (World.block_lt_of_cell? w _ hx130_1)).trans hx130_1
              replace hx130_2 := (HB.out.cell (World.block_lt_of_cell? w _ hx130_2)).trans hx130_2
              replace hx130_3 := (HB.out.cell (World.block_lt_of_cell? w _ hx130_3)).trans hx130_3
              replace p130 := eq_true p130
              replace q130 := eq_true q130
              go_wp2_with (first | ((with_reducible refine gate_dst (N := 5) rfl ?_); refine box_event ?hg (N := 5) ?hd (cs := #[.int .i64 0, .int .i64 0, .int .i64 0, .int .i64 0]) (t := 76) ?hr ?_; (case hd => rfl); (case hg => rfl); (case hr => first | (go_simp; done) | (go_simp; rfl)); intro gb131 hg w6 hbox hb; have n0_ := Aside0.mk (Kd.R_below (by (with_reducible repeat (first | apply Kd.R_alloc | apply Kd.R_drewN | apply Kd.R_drew)); exact HO_3.out) hb); have n1_ := Aside0.mk (below_step (by repeat (first | (with_reducible first | exact HB.out | apply below_alloc | apply pw_below_drewN | apply below_drew1) | exact HB.out)) hb); have n2_ := Aside0.mk (hbox); have n3_ := Aside0.mk ((by rw [hg]; exact (below_size (by repeat (first | (with_reducible first | exact HB.out | apply below_alloc | apply pw_below_drewN | apply below_drew1) | exact HB.out))) : w.heap.size ≤ gb131)); have n4_ := Aside0.mk ((by rw [hg]; exact (below_size (by repeat (first | (with_reducible first | exact HB.out | apply below_alloc | apply pw_below_drewN | apply below_drew1) | exact HB.out))) : w.heap.size ≤ gb131)); clear HO_3; clear HB; have HO_3 := n0_; have HB := n1_; have BK131 := n2_; have GW131 := n3_; have GE131 := n4_; clear n0_ n1_ n2_ n3_ n4_; clear hb hbox hg; have hcz7_0 : w6.cell? ⟨gb131, 0, none⟩ = some (.int .i64 0) := (blk_cell BK131.out 0).trans rfl; have hcz7_1 : w6.cell? ⟨gb131, 1, none⟩ = some (.int .i64 0) := (blk_cell BK131.out 1).trans rfl; have hcz7_2 : w6.cell? ⟨gb131, 2, none⟩ = some (.int .i64 0) := (blk_cell BK131.out 2).trans rfl; have hcz7_3 : w6.cell? ⟨gb131, 3, none⟩ = some (.int .i64 0) := (blk_cell BK131.out 3).trans rfl; have hfz7_0 := blk_frozen BK131.out 0; have hfz7_1 := blk_frozen BK131.out 1; have hfz7_2 := blk_frozen BK131.out 2; have hfz7_3 := blk_frozen BK131.out 3) | ((with_reducible refine gate_builtin (b := .append) (xs := #[.tmp 12, .tmp 15]) rfl ?_); at_builtin; refine Kd.R_append k34 (w0 := w) w.heap.size rfl (.tmp 12) (.tmp 15) 42 34 (.agg #[(.int .i64 0), (.int .i64 0)]) 16 rfl Try.underlying42 info34 rfl (by decide) (by omega) u3 x3_1 (⟨(rd_T76 l0 x8_1).f1.f0, (rd_T76 l0 x8_1).f1.f1⟩ : S34) [.int .i64 ((rd_T76 l0 x8_1).f1.f0), .int .i64 ((rd_T76 l0 x8_1).f1.f1)] (fun _ => True) (fun _ => False) rfl (by first | (go_simp; done) | (go_simp; rfl)) ?aP (fun _ hk => hk.elim) ?aF ?aO ?aB ?aS ?aL ?_; (case aP => exact k34_mkM _ _ _ (⟨(rd_T76 l0 x8_1).f1.f0, (rd_T76 l0 x8_1).f1.f1⟩ : S34)); (case aB => exact (by repeat (first | (with_reducible first | exact HB.out | apply below_alloc | apply pw_below_drewN | apply below_drew1 | refine below_set ?_ GE131.out) | exact HB.out))); (case aF => exact (fun _ _ => trivial)); (case aO => exact (by (with_reducible repeat (first | apply Kd.R_alloc | apply Kd.R_drewN | apply Kd.R_drew)); exact Kd.R_mono (Kd.R_far (p := ⟨gb131, 3, none⟩) (Kd.R_far (p := ⟨gb131, 2, none⟩) (Kd.R_far (p := ⟨gb131, 1, none⟩) (Kd.R_far (p := ⟨gb131, 0, none⟩) (Kd.R_types HO_3.out BK131.out (by decide)) (fun _ hk => hk.2) (.int .i64 ((rd_T76 l0 x8_1).f0.f0))) (fun _ hk => hk.2) (.int .i64 ((rd_T76 l0 x8_1).f0.f1))) (fun _ hk => hk.2) (.int .i64 ((rd_T76 l0 x8_1).f1.f0))) (fun _ hk => hk.2) (.int .i64 ((rd_T76 l0 x8_1).f1.f1))) (fun _ hk => trivial))); (case aS => exact (below_size (by repeat (first | (with_reducible first | exact HB.out | apply below_alloc | apply pw_below_drewN | apply below_drew1 | refine below_set ?_ GE131.out) | exact HB.out)))); (case aL => have := LMc5.out; omega); intro v133 w8 ho hb hg hat; rw [← Ny132.out] at ho; have n0_ := Aside0.mk (blk_grown (g := gb131) (o := .cells #[.int .i64 ((rd_T76 l0 x8_1).f0.f0), .int .i64 ((rd_T76 l0 x8_1).f0.f1), .int .i64 ((rd_T76 l0 x8_1).f1.f0), .int .i64 ((rd_T76 l0 x8_1).f1.f1)] 76 (0, 0)) (by (with_reducible repeat (first | refine blk_drewN ?_ _ | refine blk_drew ?_ | refine blk_alloc ?_ _)); refine blk_put (cs := #[.int .i64 ((rd_T76 l0 x8_1).f0.f0), .int .i64 ((rd_T76 l0 x8_1).f0.f1), .int .i64 ((rd_T76 l0 x8_1).f1.f0), .int .i64 0]) ?_ 3 _ rfl; (with_reducible repeat (first | refine blk_drewN ?_ _ | refine blk_drew ?_ | refine blk_alloc ?_ _)); refine blk_put (cs := #[.int .i64 ((rd_T76 l0 x8_1).f0.f0), .int .i64 ((rd_T76 l0 x8_1).f0.f1), .int .i64 0, .int .i64 0]) ?_ 2 _ rfl; (with_reducible repeat (first | refine blk_drewN ?_ _ | refine blk_drew ?_ | refine blk_alloc ?_ _)); refine blk_put (cs := #[.int .i64 ((rd_T76 l0 x8_1).f0.f0), .int .i64 0, .int .i64 0, .int .i64 0]) ?_ 1 _ rfl; (with_reducible repeat (first | refine blk_drewN ?_ _ | refine blk_drew ?_ | refine blk_alloc ?_ _)); refine blk_put (cs := #[.int .i64 0, .int .i64 0, .int .i64 0, .int .i64 0]) ?_ 0 _ rfl; (with_reducible repeat (first | refine blk_drewN ?_ _ | refine blk_drew ?_ | refine blk_alloc ?_ _)); exact BK131.out) hg (Kd.R_ne HO_3.out BK131.out (by decide))); have n1_ := Aside0.mk (hb); have n2_ := Aside0.mk (ho); clear BK131; clear HB; clear HO_3; have BK131 := n0_; have HB := n1_; have HO134 := n2_; clear n0_ n1_ n2_; clear ho hb hg hat))
              go_roundg k1
              case measure => have := HK1.out; omega
              case rel => exact ⟨(y132), (wrap64 (x8_1 + 1)), (by first | rfl | (simp; done) | (simp [*]; done)), H', ⟨by have := HK1.out; omega⟩, ⟨by (with_reducible repeat (first | apply Kd.R_alloc | apply Kd.R_drewN | apply Kd.R_drew)); exact HO134.out⟩, ⟨by repeat (first | (with_reducible first | exact HB.out | apply below_alloc | apply pw_below_drewN | apply below_drew1 | refine below_set ?_ GE131.out) | exact HB.out)⟩⟩
            · rw [if_neg c5] at H
              exact absurd H (by simp)
          · rw [if_neg c4] at H
            exact absurd H (by simp)
        · rw [if_neg c3] at H
          exact absurd H (by simp)
      · rw [if_neg c2] at H
        have c2b0 : decide (x8_1 < (l0.length : Int)) = false := decide_eq_false c2
        clear c2
        obtain rfl := Option.some.inj H
        go_wp2
        go_ret
        exact ⟨_, by first | rfl | (simp [errW_none, errW_some] <;> rfl) | (simp [*, errW_none, errW_some] <;> rfl), by (with_reducible repeat (first | apply Kd.R_alloc | apply Kd.R_drewN | apply Kd.R_drew)); exact HO_3.out, by repeat (first | (with_reducible first | exact HB.out | apply below_alloc | apply pw_below_drewN | apply below_drew1) | exact HB.out)⟩

end Go.Proofs.Ytcelibdkicfgkaa.P

/-! Part Eqs. -/
namespace Go.Proofs.Ytcelibdkicfgkaa.P
open Go.RowKit Go.Proofs.YtcelibdkicfgkaaW.PrintWords Go.Proofs.YtcelibdkicfgkaaW.PrintLast Go.Proofs.YtcelibdkicfgkaaW.PrintMore
set_option linter.unusedVariables false

theorem isTime_eq (t d : Int) : wash_isTime.f t d = some (isTime t d) := by
  unfold wash_isTime.f isTime
  by_cases c1 : t ≥ 0
  · rw [if_pos c1]
    by_cases c2 : t ≤ 100
    · rw [if_pos c2]
      by_cases c3 : d ≥ 1
      · rw [if_pos c3]; simp [c2, show 0 ≤ t from c1, show 1 ≤ d from c3]
      · rw [if_neg c3]; simp; omega
    · rw [if_neg c2]; simp; omega
  · rw [if_neg c1]; simp; omega
theorem wr_succ {i n : Nat} (h : i < n) (hn : n ≤ 100) : wrap64 ((i : Int) + 1) = ((i + 1 : Nat) : Int) := by rw [wr_id (by omega) (by omega)]; rfl
theorem rat_one {n : Int} (hn : 0 ≤ n) : rat n 1 = ⟨n, 1⟩ := by
  have h := rat_whole (k := n) (d := 1) hn (by omega)
  rwa [Int.mul_one] at h
theorem pour_loop (l : List S61) (hl : l.length ≤ 6) (hv : ∀ g ∈ l, 0 ≤ g.f1 ∧ g.f1 ≤ 100) : ∀ (n i k : Nat) (acc : List S76), i + n = l.length → acc.length ≤ i → n + 10000001 < k →
    wash_pour.l0 k acc l (l.length : Int) (i : Int) = some (acc ++ pourL (l.drop i)) := by
  intro n
  induction n with
  | zero =>
    intro i k acc hi ha hk
    obtain ⟨k, rfl⟩ : ∃ m, k = m + 1 := ⟨k - 1, by omega⟩
    simp only [wash_pour.l0]
    rw [if_neg (by omega), List.drop_of_length_le (by omega)]; simp [pourL]
  | succ n ih =>
    intro i k acc hi ha hk
    obtain ⟨k, rfl⟩ : ∃ m, k = m + 1 := ⟨k - 1, by omega⟩
    have hlt : i < l.length := by omega
    have hg := hv l[i] (List.getElem_mem hlt)
    simp only [wash_pour.l0]
    rw [if_pos (by omega), if_pos (by omega), if_pos (by omega), rd61_at l i hlt, ratio_eq hg.1 (by omega) (by omega) (by omega) k (by omega), Option.bind_some, rat_one hg.1, if_pos (by omega), wr_succ hlt (by omega), ih (i + 1) k _ (by omega) (by simp; omega) (by omega), List.drop_eq_getElem_cons hlt, List.append_assoc]
    rfl
theorem pour_eq (l : List S61) (hl : l.length ≤ 6) (hv : ∀ g ∈ l, 0 ≤ g.f1 ∧ g.f1 ≤ 100) (k : Nat) (hk : 10000010 ≤ k) : wash_pour.f k l = some (pourL l) := by
  unfold wash_pour.f
  have h := pour_loop l hl hv l.length 0 k [] (by omega) (by simp) (by omega)
  rw [List.drop_zero, List.nil_append] at h
  exact h
theorem lefts_loop (l : List S76) (hl : l.length ≤ 6) : ∀ (n i k : Nat) (acc : List S34), i + n = l.length → acc.length ≤ i → n < k →
    wash_lefts.l0 k acc l (l.length : Int) (i : Int) = some (acc ++ (l.drop i).map S76.f1) := by
  intro n
  induction n with
  | zero =>
    intro i k acc hi ha hk
    obtain ⟨k, rfl⟩ : ∃ m, k = m + 1 := ⟨k - 1, by omega⟩
    simp only [wash_lefts.l0]
    rw [if_neg (by omega), List.drop_of_length_le (by omega)]; simp
  | succ n ih =>
    intro i k acc hi ha hk
    obtain ⟨k, rfl⟩ : ∃ m, k = m + 1 := ⟨k - 1, by omega⟩
    have hlt : i < l.length := by omega
    have hr : rd_T76 l (i : Int) = l[i] := by unfold rd_T76; simp [List.getD, hlt]
    simp only [wash_lefts.l0]
    rw [if_pos (by omega), if_pos (by omega), if_pos (by omega), hr, if_pos (by omega), wr_succ hlt (by omega), ih (i + 1) k _ (by omega) (by simp; omega) (by omega), List.drop_eq_getElem_cons hlt, List.append_assoc]
    rfl
theorem lefts_eq (l : List S76) (hl : l.length ≤ 6) (k : Nat) (hk : 10 ≤ k) : wash_lefts.f k l = some (l.map S76.f1) := by
  unfold wash_lefts.f
  have h := lefts_loop l hl l.length 0 k [] (by omega) (by simp) (by omega)
  rw [List.drop_zero, List.nil_append] at h
  exact h
theorem mass_loop (l : List S61) (hl : l.length ≤ 6) (hv : ∀ g ∈ l, 0 ≤ g.f1 ∧ g.f1 ≤ 100) : ∀ (n i k : Nat) (acc : Int), i + n = l.length → 0 ≤ acc → acc ≤ 100 * (i : Int) → n < k →
    wash_mass.l0 k acc l (l.length : Int) (i : Int) = some (acc + tot (l.drop i)) := by
  intro n
  induction n with
  | zero =>
    intro i k acc hi h0 h1 hk
    obtain ⟨k, rfl⟩ : ∃ m, k = m + 1 := ⟨k - 1, by omega⟩
    simp only [wash_mass.l0]
    rw [if_neg (by omega), List.drop_of_length_le (by omega)]; simp [tot]
  | succ n ih =>
    intro i k acc hi h0 h1 hk
    obtain ⟨k, rfl⟩ : ∃ m, k = m + 1 := ⟨k - 1, by omega⟩
    have hlt : i < l.length := by omega
    have hg := hv l[i] (List.getElem_mem hlt)
    simp only [wash_mass.l0]
    rw [if_pos (by omega), if_pos (by omega), if_pos (by omega), rd61_at l i hlt, wr_succ hlt (by omega), wr_id (by omega) (by omega), ih (i + 1) k _ (by omega) (by omega) (by omega) (by omega), List.drop_eq_getElem_cons hlt]
    simp only [tot]; congr 1; omega
theorem mass_eq (l : List S61) (hl : l.length ≤ 6) (hv : ∀ g ∈ l, 0 ≤ g.f1 ∧ g.f1 ≤ 100) (k : Nat) (hk : 10 ≤ k) : wash_mass.f k l = some (tot l) := by
  unfold wash_mass.f
  have h := mass_loop l hl hv l.length 0 k 0 (by omega) (by omega) (by omega) (by omega)
  rw [List.drop_zero, Int.zero_add] at h
  exact h
theorem vErr_mass {l : List S61} (h : vErr l = 0) : ∀ g ∈ l, 0 ≤ g.f1 ∧ g.f1 ≤ 100 := by
  obtain ⟨h1, h2, h3⟩ := vErr_zero h
  exact fun g hg => ⟨by have := asc_pos h2 g hg; omega, (h3 g hg).2⟩
end Go.Proofs.Ytcelibdkicfgkaa.P

/-! Part H13. -/
/- wash.Settle: what it returns for every lot, time and depth. -/
namespace Go.Proofs.Ytcelibdkicfgkaa.P
open Go.RowKit Go.Proofs.YtcelibdkicfgkaaW.PrintWords Go.Proofs.YtcelibdkicfgkaaW.PrintLast Go.Proofs.YtcelibdkicfgkaaW.PrintMore
set_option linter.unusedVariables false

theorem pour_ok {l : List S61} (h : vErr l = 0) : ∀ x ∈ pourL l, okW x := by
  intro x hx
  simp only [pourL, List.mem_map] at hx
  obtain ⟨g, hg, rfl⟩ := hx
  obtain ⟨h1, h2, h3⟩ := vErr_zero h
  have a := asc_gt h2 g hg
  have b := asc_pos h2 g hg
  have c := h3 g hg
  exact ⟨by show 1 ≤ g.f0; omega, c.1, by show 0 ≤ g.f1; omega, by show g.f1 ≤ 1000000000; omega, by show (1 : Int) ≤ 1; omega, by show (1 : Int) ≤ 200000; omega⟩
theorem pour_len (l : List S61) : (pourL l).length = l.length := by simp [pourL]

set_option maxHeartbeats 8000000 in
set_option maxRecDepth 100000 in
theorem wash_Settle.calls (A0 : Option Addr) (c0 : Nat) (l0 : List (S61)) (a1 : Int) (a2 : Int) (r1 : List S34) (r2 : List S34) (r3 : Int) (w : World) (hr0 : Kd.C k61 w A0 l0.length l0) (hc0 : l0.length ≤ c0) (h : wash_Settle.f l0 a1 a2 = some (r1, r2, r3)) :
    Calls Try.prog 13 #[.slice A0 l0.length c0, .int .i64 a1, .int .i64 a2] w fun e w' => ∃ v0_ v1_ : Value, e = .returned (.tuple #[v0_, v1_, .int .i64 r3]) ∧ Kd.R k34 34 w' w.heap.size (fun k_ => some k_ ≠ (v1_ : Value).ownBlock) v0_ r1 ∧ Kd.R k34 34 w' w.heap.size (fun k_ => some k_ ≠ (v0_ : Value).ownBlock) v1_ r2 ∧ Below w.heap.size w w' := by
  have hR := Option.some.inj h
  have HV0 := Aside0.mk (wash_Validate.calls 10 A0 c0 l0 (vErr l0) w hr0 hc0 (validate_eq l0 10 (Nat.le_refl _)))
  have HT : Aside0 (∀ W, Calls Try.prog 22 #[.int .i64 a1, .int .i64 a2] W fun e w' => e = .returned (.bool (isTime a1 a2)) ∧ Drawn0 W w') := ⟨fun W => wash_isTime.calls a1 a2 _ W (isTime_eq a1 a2)⟩
  have HR0 := Aside0.mk hr0
  have HC0 := Aside0.mk hc0
  clear h hr0 hc0
  by_cases hv : vErr l0 = 0
  · rw [if_pos hv] at hR
    rw [hv] at HV0
    by_cases ht : isTime a1 a2 = true
    · rw [if_pos ht] at hR
      rw [ht] at HT
      have hti : 0 ≤ a1 ∧ a1 ≤ 100 ∧ 1 ≤ a2 ∧ a2 ≤ 20 := by simp [isTime] at ht; omega
      have HP : Aside0 (∀ W, Below w.heap.size w W → Calls Try.prog 25 #[.slice A0 l0.length c0] W fun e w' => ∃ v0_ : Value, e = .returned (v0_) ∧ Kd.R k76 76 w' W.heap.size (fun _ => True) v0_ (pourL l0) ∧ Below W.heap.size W w') := ⟨fun W hW => wash_pour.calls 10000010 A0 c0 l0 _ W (Kd.C_below HR0.out hW) HC0.out (pour_eq l0 (vErr_zero hv).1 (vErr_mass hv) _ (Nat.le_refl _))⟩
      have HOK := Aside0.mk (pour_ok hv)
      have hpl := pour_len l0
      have hl6 := (vErr_zero hv).1
      obtain ⟨q1, q2⟩ := Prod.mk.inj hR
      obtain ⟨q2, q3⟩ := Prod.mk.inj q2
      have Q1 := Aside0.mk q1
      have Q2 := Aside0.mk q2
      subst q3
      clear hR hv ht q1 q2
      generalize pourL l0 = pl at HP HOK hpl Q1 Q2
      have HPL : Aside0 (pl.length ≤ 6) := ⟨by omega⟩
      clear hpl hl6
      obtain ⟨t0, t1, t2, t3⟩ := hti
      go_enter Try.func13, Try.ntmps13
      go_upto_region 7 with (first | ((with_reducible refine gate_callee (f := 12) rfl ?_); refine goesL_ (some 13) rfl rfl Try.func12 (by kernel_rfl) rfl #[.slice A0 l0.length c0] rfl (by (try simp only [List.map_toArray, List.map_cons, List.map_nil]); first | done | rfl) ?_; (with_reducible refine HV0.out.mono ?_); rintro e w1 ⟨rfl, hb⟩; refine ⟨_, rfl, ?_⟩; have HB1 := Aside0.mk hb; clear hb) | (go_at_call 22; (with_reducible refine (HT.out _).mono ?_); rintro e w' ⟨rfl, ⟨nd, rfl⟩⟩) | (go_at_call 25; (with_reducible refine (HP.out _ (pw_below_drewN HB1.out _)).mono ?_); rintro e w3 ⟨v3, rfl, ho, hb⟩; have HO3 := Aside0.mk ho; have HB3 := Aside0.mk (below_step (pw_below_drewN HB1.out _) hb); clear ho hb))
      have HO3 := Aside0.mk (Kd.R_lower HO3.out (show w.heap.size ≤ (w1.drewN nd).heap.size from HB1.out.size))
      obtain ⟨A3, c3, e3⟩ := Kd.R_slice HO3.out
      subst e3
      have HSt := Aside0.mk (wash_settle.calls A3 pl.length c3 w.heap.size pl a1 a2 w3 w HO3.out HB3.out HB3.out.size HOK.out t0 t1 t2 t3 HPL.out)
      go_upto_region 8 with (first | (go_at_call 26; (with_reducible refine HSt.out.mono ?_); rintro e w4 ⟨v4, rfl, ho, ho2, hb⟩; have HO4 := Aside0.mk ho; have HL4 := Aside0.mk ho2; have HB4 := Aside0.mk hb; clear ho ho2 hb))
      have HZ4 : Aside0 (w.heap.size ≤ w3.heap.size) := ⟨HB3.out.size⟩
      have HLe : Aside0 (Calls Try.prog 27 #[.slice A3 pl.length c3] w4 fun e w' => ∃ v0_ : Value, e = .returned (v0_) ∧ Kd.R k34 34 w' w4.heap.size (fun _ => True) v0_ ((pl.map (leftW a1 a2)).map S76.f1) ∧ Below w4.heap.size w4 w') := ⟨by
        have hrd := Kd.R_reads' HL4.out
        have h := wash_lefts.calls 10 A3 c3 (pl.map (leftW a1 a2)) _ w4 hrd.2.2 (by have := hrd.2.1; simpa using this) (lefts_eq _ (by have := HPL.out; simp; omega) 10 (Nat.le_refl _))
        rw [List.length_map] at h
        exact h⟩
      go_wp2_with (first | (go_at_call 27; (with_reducible refine HLe.out.mono ?_); rintro e w5 ⟨v5, rfl, ho, hb⟩; have HO5 := Aside0.mk ho; have HB5 := Aside0.mk hb; clear ho hb))
      go_ret3
      refine ⟨_, _, rfl, ?_, ?_, below_step HB4.out HB5.out⟩
      · have h := Kd.R_lower (Kd.R_elder' HO4.out (Kd.R_base HO5.out) HB5.out) HZ4.out
        rw [Q1.out] at h
        exact Kd.R_mono h (fun _ hk => hk.2)
      · have h := Kd.R_lower (Kd.R_new' HO5.out (Kd.R_lt HO4.out)) HB4.out.size
        have q : (pl.map (leftW a1 a2)).map S76.f1 = r2 := Q2.out
        rw [q] at h
        exact Kd.R_mono h (fun _ hk => hk.2)
    · rw [if_neg ht] at hR
      rw [Bool.eq_false_iff.mpr ht] at HT
      obtain ⟨q1, q2⟩ := Prod.mk.inj hR
      obtain ⟨q2, q3⟩ := Prod.mk.inj q2
      subst q1; subst q2; subst q3
      clear hR hv ht
      go_enter Try.func13, Try.ntmps13
      go_wp2_with (first | ((with_reducible refine gate_callee (f := 12) rfl ?_); refine goesL_ (some 13) rfl rfl Try.func12 (by kernel_rfl) rfl #[.slice A0 l0.length c0] rfl (by (try simp only [List.map_toArray, List.map_cons, List.map_nil]); first | done | rfl) ?_; (with_reducible refine HV0.out.mono ?_); rintro e w1 ⟨rfl, hb⟩; refine ⟨_, rfl, ?_⟩; have HB1 := Aside0.mk hb; clear hb) | (go_at_call 22; (with_reducible refine (HT.out _).mono ?_); rintro e w' ⟨rfl, ⟨nd, rfl⟩⟩))
      go_ret3
      exact ⟨_, _, rfl, Kd.R_nil k34 34 _ _ _, Kd.R_nil k34 34 _ _ _, pw_below_drewN HB1.out _⟩
  · rw [if_neg hv] at hR
    obtain ⟨q1, q2⟩ := Prod.mk.inj hR
    obtain ⟨q2, q3⟩ := Prod.mk.inj q2
    have hb0 : (vErr l0 != 0) = true := bne_iff_ne.mpr hv
    obtain ⟨ev, hev⟩ : ∃ z, vErr l0 = z := ⟨_, rfl⟩
    rw [hev] at HV0 hb0 hv q3
    subst q1; subst q2; subst q3
    clear hev hR HT
    go_enter Try.func13, Try.ntmps13
    go_wp2_with (first | ((with_reducible refine gate_callee (f := 12) rfl ?_); refine goesL_ (some 13) rfl rfl Try.func12 (by kernel_rfl) rfl #[.slice A0 l0.length c0] rfl (by (try simp only [List.map_toArray, List.map_cons, List.map_nil]); first | done | rfl) ?_; (with_reducible refine HV0.out.mono ?_); rintro e w1 ⟨rfl, hb⟩; refine ⟨_, rfl, ?_⟩; have HB1 := Aside0.mk hb; clear hb))
    go_ret3
    exact ⟨_, _, rfl, Kd.R_nil k34 34 _ _ _, Kd.R_nil k34 34 _ _ _, HB1.out⟩
end Go.Proofs.Ytcelibdkicfgkaa.P

/-! Part H14. -/
/- wash.Wash: what it returns for every lot, time, depth and number of settlings. -/
namespace Go.Proofs.Ytcelibdkicfgkaa.P
open Go.RowKit Go.Proofs.YtcelibdkicfgkaaW.PrintWords Go.Proofs.YtcelibdkicfgkaaW.PrintLast Go.Proofs.YtcelibdkicfgkaaW.PrintMore
set_option linter.unusedVariables false

theorem leftN_succ (t d : Int) : ∀ (n : Nat) (l : List S76), leftN t d (n + 1) l = (leftN t d n l).map (leftW t d)
  | 0, l => rfl
  | n + 1, l => by rw [leftN, leftN_succ t d n, leftN]
theorem leftN_length (t d : Int) : ∀ (n : Nat) (l : List S76), (leftN t d n l).length = l.length
  | 0, l => rfl
  | n + 1, l => by rw [leftN, leftN_length t d n]; simp
/-- A grain's numbers behind j settlings. -/
def okJ (A B : Int) (x : S76) : Prop := 1 ≤ x.f0.f0 ∧ x.f0.f0 ≤ 20 ∧ 0 ≤ x.f1.f0 ∧ x.f1.f0 ≤ A ∧ 1 ≤ x.f1.f1 ∧ x.f1.f1 ≤ B
theorem part_range {t d : Int} {g : S61} (hg : 1 ≤ g.f0) (ht : 0 ≤ t) (hd : 1 ≤ d) : 0 ≤ partI t d g ∧ partI t d g ≤ d := by
  unfold partI
  have h : 0 ≤ g.f0 * t := Int.mul_nonneg (by omega) ht
  split <;> omega
theorem okJ_step {t d A B : Int} {x : S76} (ht : 0 ≤ t) (hd : 1 ≤ d) (hd2 : d ≤ 20) (h : okJ A B x) : okJ (A * 20) (B * 20) (leftW t d x) := by
  obtain ⟨h1, h2, h3, h4, h5, h6⟩ := h
  obtain ⟨p0, p1⟩ := part_range (g := x.f0) h1 ht hd
  have a := mul_bound h3 h4 (show 0 ≤ d - partI t d x.f0 by omega) (show d - partI t d x.f0 ≤ 20 by omega)
  have b := mul_bound (show 0 ≤ x.f1.f1 by omega) h6 (show 0 ≤ d by omega) hd2
  have c : 1 ≤ x.f1.f1 * d := by have := Int.mul_le_mul h5 hd (by omega) (by omega : (0 : Int) ≤ x.f1.f1); omega
  obtain ⟨r1, r2, r3, r4, r5⟩ := rat_spec a.1 c
  exact ⟨h1, h2, r2, by show (rat _ _).f0 ≤ _; omega, r3, by show (rat _ _).f1 ≤ _; omega⟩
def bA : Nat → Int
  | 0 => 100
  | n + 1 => bA n * 20
def bB : Nat → Int
  | 0 => 1
  | n + 1 => bB n * 20
theorem leftN_ok {t d : Int} (ht : 0 ≤ t) (hd : 1 ≤ d) (hd2 : d ≤ 20) {l : List S76} (h : ∀ x ∈ l, okJ 100 1 x) : ∀ n, ∀ x ∈ leftN t d n l, okJ (bA n) (bB n) x
  | 0 => h
  | n + 1 => by
    rw [leftN_succ]
    intro x hx
    obtain ⟨y, hy, rfl⟩ := List.mem_map.1 hx
    exact okJ_step ht hd hd2 (leftN_ok ht hd hd2 h n y hy)
theorem pour_okJ {l : List S61} (h : vErr l = 0) : ∀ x ∈ pourL l, okJ 100 1 x := by
  intro x hx
  simp only [pourL, List.mem_map] at hx
  obtain ⟨g, hg, rfl⟩ := hx
  obtain ⟨h1, h2, h3⟩ := vErr_zero h
  have a := asc_gt h2 g hg
  have b := asc_pos h2 g hg
  have c := h3 g hg
  exact ⟨by show 1 ≤ g.f0; omega, c.1, by show 0 ≤ g.f1; omega, c.2, by show (1 : Int) ≤ 1; omega, by show (1 : Int) ≤ 1; omega⟩
theorem bAB {n : Nat} (h : n ≤ 4) : bA n ≤ 1000000000 ∧ bB n ≤ 200000 := by
  match n, h with
  | 0, _ => decide
  | 1, _ => decide
  | 2, _ => decide
  | 3, _ => decide
  | 4, _ => decide

set_option maxHeartbeats 8000000 in
set_option maxRecDepth 100000 in
theorem wash_Wash.calls (A0 : Option Addr) (c0 : Nat) (l0 : List (S61)) (a1 : Int) (a2 : Int) (a3 : Int) (r1 : List S34) (r2 : Int) (w : World) (hr0 : Kd.C k61 w A0 l0.length l0) (hc0 : l0.length ≤ c0) (h : wash_Wash.f l0 a1 a2 a3 = some (r1, r2)) :
    Calls Try.prog 14 #[.slice A0 l0.length c0, .int .i64 a1, .int .i64 a2, .int .i64 a3] w fun e w' => ∃ v0_ : Value, e = .returned (.tuple #[v0_, .int .i64 r2]) ∧ Kd.R k34 34 w' w.heap.size (fun _ => True) v0_ r1 ∧ Below w.heap.size w w' := by
  have hR := Option.some.inj h
  have HV0 := Aside0.mk (wash_Validate.calls 10 A0 c0 l0 (vErr l0) w hr0 hc0 (validate_eq l0 10 (Nat.le_refl _)))
  have HT : Aside0 (∀ W, Calls Try.prog 22 #[.int .i64 a1, .int .i64 a2] W fun e w' => e = .returned (.bool (isTime a1 a2)) ∧ Drawn0 W w') := ⟨fun W => wash_isTime.calls a1 a2 _ W (isTime_eq a1 a2)⟩
  have HR0 := Aside0.mk hr0
  have HC0 := Aside0.mk hc0
  clear h hr0 hc0
  by_cases hv : vErr l0 = 0
  · rw [if_pos hv] at hR
    rw [hv] at HV0
    by_cases ht : isTime a1 a2 = true
    · rw [ht] at HT
      have hti : 0 ≤ a1 ∧ a1 ≤ 100 ∧ 1 ≤ a2 ∧ a2 ≤ 20 := by simp [isTime] at ht; omega
      by_cases d1 : a3 < 1
      · rw [if_neg (by omega)] at hR
        obtain ⟨q1, q2⟩ := Prod.mk.inj hR
        subst q1; subst q2
        have b1 : decide (a3 < 1) = true := decide_eq_true d1
        clear hR hv ht hti
        go_enter Try.func14, Try.ntmps14
        go_wp2_with (first | ((with_reducible refine gate_callee (f := 12) rfl ?_); refine goesL_ (some 13) rfl rfl Try.func12 (by kernel_rfl) rfl #[.slice A0 l0.length c0] rfl (by (try simp only [List.map_toArray, List.map_cons, List.map_nil]); first | done | rfl) ?_; (with_reducible refine HV0.out.mono ?_); rintro e w1 ⟨rfl, hb⟩; refine ⟨_, rfl, ?_⟩; have HB1 := Aside0.mk hb; clear hb) | (go_at_call 22; (with_reducible refine (HT.out _).mono ?_); rintro e w' ⟨rfl, ⟨nd, rfl⟩⟩))
        go_ret2
        exact ⟨_, rfl, Kd.R_nil k34 34 _ _ _, pw_below_drewN HB1.out _⟩
      have b1 : decide (a3 < 1) = false := decide_eq_false d1
      by_cases d2 : 4 < a3
      · rw [if_neg (by omega)] at hR
        obtain ⟨q1, q2⟩ := Prod.mk.inj hR
        subst q1; subst q2
        have b2 : decide (4 < a3) = true := decide_eq_true d2
        clear hR hv ht hti
        go_enter Try.func14, Try.ntmps14
        go_wp2_with (first | ((with_reducible refine gate_callee (f := 12) rfl ?_); refine goesL_ (some 13) rfl rfl Try.func12 (by kernel_rfl) rfl #[.slice A0 l0.length c0] rfl (by (try simp only [List.map_toArray, List.map_cons, List.map_nil]); first | done | rfl) ?_; (with_reducible refine HV0.out.mono ?_); rintro e w1 ⟨rfl, hb⟩; refine ⟨_, rfl, ?_⟩; have HB1 := Aside0.mk hb; clear hb) | (go_at_call 22; (with_reducible refine (HT.out _).mono ?_); rintro e w' ⟨rfl, ⟨nd, rfl⟩⟩))
        go_ret2
        exact ⟨_, rfl, Kd.R_nil k34 34 _ _ _, pw_below_drewN HB1.out _⟩
      have b2 : decide (4 < a3) = false := decide_eq_false d2
      rw [if_pos ⟨ht, by omega, by omega⟩] at hR
      have HP : Aside0 (∀ W, Below w.heap.size w W → Calls Try.prog 25 #[.slice A0 l0.length c0] W fun e w' => ∃ v0_ : Value, e = .returned (v0_) ∧ Kd.R k76 76 w' W.heap.size (fun _ => True) v0_ (pourL l0) ∧ Below W.heap.size W w') := ⟨fun W hW => wash_pour.calls 10000010 A0 c0 l0 _ W (Kd.C_below HR0.out hW) HC0.out (pour_eq l0 (vErr_zero hv).1 (vErr_mass hv) _ (Nat.le_refl _))⟩
      have HPL : Aside0 ((pourL l0).length ≤ 6) := ⟨by have := pour_len l0; have := (vErr_zero hv).1; omega⟩
      have hokj := pour_okJ hv
      obtain ⟨q1, q2⟩ := Prod.mk.inj hR
      have Q1 := Aside0.mk q1
      subst q2
      obtain ⟨m, rfl⟩ : ∃ m : Nat, a3 = m := ⟨a3.toNat, by omega⟩
      rw [Int.toNat_natCast] at Q1
      clear hR hv ht q1
      generalize pourL l0 = pl at HP HPL hokj Q1
      obtain ⟨t0, t1, t2, t3⟩ := hti
      have HOK : Aside0 (∀ n, n ≤ 4 → ∀ x ∈ leftN a1 a2 n pl, okW x) := ⟨fun n hn x hx => by
        obtain ⟨h1, h2, h3, h4, h5, h6⟩ := leftN_ok t0 t2 t3 hokj n x hx
        obtain ⟨u1, u2⟩ := bAB hn
        exact ⟨h1, h2, h3, by omega, h5, by omega⟩⟩
      have hm4 : m ≤ 4 := by omega
      clear hokj
      go_enter Try.func14, Try.ntmps14
      go_upto_region 7 with (first | ((with_reducible refine gate_callee (f := 12) rfl ?_); refine goesL_ (some 13) rfl rfl Try.func12 (by kernel_rfl) rfl #[.slice A0 l0.length c0] rfl (by (try simp only [List.map_toArray, List.map_cons, List.map_nil]); first | done | rfl) ?_; (with_reducible refine HV0.out.mono ?_); rintro e w1 ⟨rfl, hb⟩; refine ⟨_, rfl, ?_⟩; have HB1 := Aside0.mk hb; clear hb) | (go_at_call 22; (with_reducible refine (HT.out _).mono ?_); rintro e w' ⟨rfl, ⟨nd, rfl⟩⟩) | (go_at_call 25; (with_reducible refine (HP.out _ (pw_below_drewN HB1.out _)).mono ?_); rintro e w3 ⟨v3, rfl, ho, hb⟩; have HO3 := Aside0.mk ho; have HB3 := Aside0.mk (below_step (pw_below_drewN HB1.out _) hb); clear ho hb))
      have HO3 := Aside0.mk (Kd.R_lower HO3.out (show w.heap.size ≤ (w1.drewN nd).heap.size from HB1.out.size))
      obtain ⟨A3, c3, e3⟩ := Kd.R_slice HO3.out
      subst e3
      obtain ⟨np, hnp⟩ : ∃ z, pl.length = z := ⟨_, rfl⟩
      rw [hnp] at HO3 ⊢
      have HNP := Aside0.mk hnp
      clear hnp
      go_wp2_with fail
      go_loopg [32] m (fun gg v32 wr => ∃ j : Nat, j ≤ m ∧ m - j ≤ gg ∧ v32 = .int .i64 j ∧ Aside0 (Kd.R k76 76 wr w.heap.size (fun _ => True) (.slice A3 np c3) (leftN a1 a2 j pl)) ∧ Aside0 (Below w.heap.size w wr))
      case atStart => exact ⟨0, Nat.zero_le _, by omega, rfl, HO3, HB3⟩
      case round =>
        clear HO3 HB3
        obtain ⟨j, hj, hg, rfl, HO, HB⟩ := hrel
        by_cases hlt : j < m
        · have hltz : (j : Int) < (m : Int) := by omega
          have HSt := Aside0.mk (wash_settle.calls A3 np c3 w.heap.size (leftN a1 a2 j pl) a1 a2 wr w HO.out HB.out HB.out.size (HOK.out j (by omega)) t0 t1 t2 t3 (by rw [leftN_length]; exact HPL.out))
          go_wp2_with (first | (go_at_call 26; (with_reducible refine HSt.out.mono ?_); rintro e w4 ⟨v4, rfl, ho, ho2, hb⟩; have HO4 := Aside0.mk ho2; have HB4 := Aside0.mk hb; clear ho ho2 hb))
          go_roundg (m - (j + 1))
          case measure => omega
          case rel => exact ⟨j + 1, by omega, by omega, by go_num, ⟨by rw [leftN_succ]; exact HO4.out⟩, HB4⟩
        · have hiz : ¬ (j : Int) < (m : Int) := by omega
          have HE : Aside0 (leftN a1 a2 j pl = leftN a1 a2 m pl) := ⟨by rw [show j = m by omega]⟩
          have HLe : Aside0 (Calls Try.prog 27 #[.slice A3 np c3] wr fun e w' => ∃ v0_ : Value, e = .returned (v0_) ∧ Kd.R k34 34 w' wr.heap.size (fun _ => True) v0_ r1 ∧ Below wr.heap.size wr w') := ⟨by
            have hrd := Kd.R_reads' HO.out
            have h := wash_lefts.calls 10 A3 c3 (leftN a1 a2 j pl) _ wr hrd.2.2 (by first | exact hrd.2.1 | (rw [← hrd.1]; exact hrd.2.1)) (lefts_eq _ (by rw [leftN_length]; exact HPL.out) 10 (Nat.le_refl _))
            rw [← hrd.1] at h
            rw [← Q1.out, ← HE.out]
            exact h⟩
          go_wp2_with (first | (go_at_call 27; (with_reducible refine HLe.out.mono ?_); rintro e w5 ⟨v5, rfl, ho, hb⟩; have HO5 := Aside0.mk (Kd.R_lower ho HB.out.size); have HB5 := Aside0.mk (below_step HB.out hb); clear ho hb))
          go_ret2
          exact ⟨_, rfl, HO5.out, HB5.out⟩
    · have htf : isTime a1 a2 = false := Bool.eq_false_iff.mpr ht
      rw [htf] at HT
      rw [if_neg (fun hc => ht hc.1)] at hR
      obtain ⟨q1, q2⟩ := Prod.mk.inj hR
      subst q1; subst q2
      clear hR hv ht htf
      go_enter Try.func14, Try.ntmps14
      go_wp2_with (first | ((with_reducible refine gate_callee (f := 12) rfl ?_); refine goesL_ (some 13) rfl rfl Try.func12 (by kernel_rfl) rfl #[.slice A0 l0.length c0] rfl (by (try simp only [List.map_toArray, List.map_cons, List.map_nil]); first | done | rfl) ?_; (with_reducible refine HV0.out.mono ?_); rintro e w1 ⟨rfl, hb⟩; refine ⟨_, rfl, ?_⟩; have HB1 := Aside0.mk hb; clear hb) | (go_at_call 22; (with_reducible refine (HT.out _).mono ?_); rintro e w' ⟨rfl, ⟨nd, rfl⟩⟩))
      go_ret2
      exact ⟨_, rfl, Kd.R_nil k34 34 _ _ _, pw_below_drewN HB1.out _⟩
  · rw [if_neg hv] at hR
    obtain ⟨q1, q2⟩ := Prod.mk.inj hR
    have hb0 : (vErr l0 != 0) = true := bne_iff_ne.mpr hv
    obtain ⟨ev, hev⟩ : ∃ z, vErr l0 = z := ⟨_, rfl⟩
    rw [hev] at HV0 hb0 hv q2
    subst q1; subst q2
    clear hev hR HT
    go_enter Try.func14, Try.ntmps14
    go_wp2_with (first | ((with_reducible refine gate_callee (f := 12) rfl ?_); refine goesL_ (some 13) rfl rfl Try.func12 (by kernel_rfl) rfl #[.slice A0 l0.length c0] rfl (by (try simp only [List.map_toArray, List.map_cons, List.map_nil]); first | done | rfl) ?_; (with_reducible refine HV0.out.mono ?_); rintro e w1 ⟨rfl, hb⟩; refine ⟨_, rfl, ?_⟩; have HB1 := Aside0.mk hb; clear hb))
    go_ret2
    exact ⟨_, rfl, Kd.R_nil k34 34 _ _ _, HB1.out⟩
end Go.Proofs.Ytcelibdkicfgkaa.P

/-! Part H31. -/
namespace Go.Proofs.Ytcelibdkicfgkaa.P
open Go.RowKit Go.Proofs.YtcelibdkicfgkaaW.PrintWords Go.Proofs.YtcelibdkicfgkaaW.PrintLast Go.Proofs.YtcelibdkicfgkaaW.PrintMore
set_option linter.unusedVariables false

theorem C_none {l : List S61} {w : World} (h : Kd.C k61 w none l.length l) : l = [] := by
  cases l with
  | nil => rfl
  | cons x l =>
    obtain ⟨ad, e, _⟩ := at_T61 h 0 (by omega) (by simp)
    cases e

set_option maxHeartbeats 2000000 in
set_option maxRecDepth 100000 in
theorem api_Grain_31.calls (A0 : Option Addr) (c0 : Nat) (l0 : List (S61)) (r : List (S61)) (w : World) (hr0 : Kd.C k61 w A0 l0.length l0) (hc0 : l0.length ≤ c0) (h : api_Grain_31.f l0 = some r) :
    Calls Try.prog 31 #[.slice A0 l0.length c0] w fun e w' => ∃ v0_ : Value, e = .returned (v0_) ∧ Kd.R k61 61 w' w.heap.size (fun _ => True) v0_ r ∧ Below w.heap.size w w' := by
  unfold api_Grain_31.f at h
  split at h
  · rename_i hlen
    obtain rfl := Option.some.inj h
    clear h
    have hu61 := Try.underlying61
    have hnil : ∀ W, (binOp .eql 22 (.slice A0 l0.length c0) (.slice none 0 0)).run Try.prog W = .ok (.bool A0.isNone) W := fun W => Go.run_eql_slice_nil W 22 61 A0 l0.length c0 Try.underlying22
    have HR0 := Aside0.mk hr0
    have HB := Aside0.mk (Below.refl w.heap.size w)
    cases A0 with
    | none =>
      have he := Aside0.mk (C_none hr0)
      clear hr0 hc0
      simp only [Option.isNone_none] at hnil
      go_enter Try.func31, Try.ntmps31
      go_wp2_with fail
      go_ret
      refine ⟨_, rfl, ?_, HB.out⟩
      rw [he.out]
      exact Kd.R_nil k61 61 w w.heap.size _
    | some ad =>
      clear hr0 hc0
      simp only [Option.isNone_some] at hnil
      go_enter Try.func31, Try.ntmps31
      go_wp2_with (first | ((with_reducible refine gate_dst (N := 5) rfl ?_); refine Kd.R_lit k61 _ 61 ?hg (N := 5) ?hd (xs := ([] : List (S61))) (inner := []) (ok := fun _ => True) (okp := fun _ => True) ?hr ?hp (fun _ hk => hk) trivial (Below.refl _ _) (Nat.le_refl _) (by simp) ?_; (case hd => rfl); (case hg => rfl); (case hr => first | (go_simp; done) | (go_simp; rfl)); (case hp => exact (Reps.none _ _)); intro v1 w1 ho hb hg_ hnew_; clear hg_ hnew_; have HO := Aside0.mk ho; clear ho; have HB1 := Aside0.mk hb; clear hb) | ((with_reducible refine gate_builtin (b := .append) (xs := #[.tmp 5, .tmp 6]) rfl ?_); at_builtin; refine Kd.R_append_rows k61 (w0 := w) w.heap.size rfl (.tmp 5) (.tmp 6) 22 61 (.agg #[(.int .i64 0), (.int .i64 0)]) 16 rfl Try.underlying22 infoG rfl (by decide) (by omega) v1 [] l0 _ _ _ (fun _ => True) (fun _ => False) rfl rfl ?aO ?aR (fun _ _ h => h) (fun _ h => h.elim) ?aF ?aB ?aS ?aL ?_; (case aR => exact Kd.C_below HR0.out HB1.out); (case aB => exact HB1.out); (case aF => exact fun _ _ => trivial); (case aO => exact HO.out); (case aS => exact HB1.out.size); (case aL => simp only [List.length_nil]; omega); intro v2 w2 ho2 hb2 hg2 hat2; have HO2 := Aside0.mk ho2; have HB2 := Aside0.mk hb2; clear ho2 hb2 hg2 hat2))
      go_ret
      exact ⟨_, rfl, HO2.out, HB2.out⟩
  · cases h
end Go.Proofs.Ytcelibdkicfgkaa.P
