/- Parts of the proof of the law TopSecrets: walks of functions that it reaches, and plain facts about numbers, lists and curves; without a condition. -/
import Derived.Test.YthlbjdiicmojfaaTopSecretsM3
import Derived.Test.YthlbjdiicmojfaaTopSecretsM1
import Derived.Test.YthlbjdiicmojfaaTopSecretsM2
/-! Part PF28. -/
-- Written for this claim by wip/print_more.py (a session's program that runs the kit's printer with hand-proved functions beside). Lean checks it.
namespace Go.Proofs.Ythlbjdiicmojfaa.P
open Go.RowKit Go.Proofs.YthlbjdiicmojfaaW.PrintWords Go.Proofs.YthlbjdiicmojfaaW.PrintLast Go.Proofs.YthlbjdiicmojfaaW.PrintMore
attribute [local go_sem] max2_int min2_int max_two min_two max_three min_three max_four min_four   -- for this text's walks alone
set_option linter.unusedVariables false
set_option linter.unusedSimpArgs false

attribute [local go_sem high] eqA43
theorem no_j0 {k r x0 x1 x2 x3} (h : verditertop_topSecrets.j0 k x0 x1 x2 x3 true = some r) : r = false := by
  cases k with
  | zero => simp [verditertop_topSecrets.j0] at h
  | succ k => rw [verditertop_topSecrets.j0, if_pos rfl] at h; exact (Option.some.inj h).symm
theorem no_j2 {k r x0 x1 x2 x3 x4} (h : verditertop_topSecrets.j2 k x0 x1 x2 x3 x4 true = some r) : r = false := by
  cases k with
  | zero => simp [verditertop_topSecrets.j2] at h
  | succ k => rw [verditertop_topSecrets.j2, if_pos rfl] at h; exact (Option.some.inj h).symm
theorem no_j3 {k r x0 x1 x2 x3 x4 x5 x6} (h : verditertop_topSecrets.j3 k x0 x1 x2 x3 x4 x5 x6 true = some r) : r = false := by
  cases k with
  | zero => simp [verditertop_topSecrets.j3] at h
  | succ k => rw [verditertop_topSecrets.j3, if_pos rfl] at h; exact (Option.some.inj h).symm
theorem no_j7 {k r x0 x1 x2 x3 x4 x5} (h : verditertop_topSecrets.j7 k x0 x1 x2 x3 x4 x5 true = some r) : r = false := by
  cases k with
  | zero => simp [verditertop_topSecrets.j7] at h
  | succ k => rw [verditertop_topSecrets.j7, if_pos rfl] at h; exact (Option.some.inj h).symm
theorem no_j10 {k r x0 x1 x2 x3 x4} (h : verditertop_topSecrets.j10 k x0 x1 x2 x3 x4 true = some r) : r = false := by
  cases k with
  | zero => simp [verditertop_topSecrets.j10] at h
  | succ k => rw [verditertop_topSecrets.j10, if_pos rfl] at h; exact (Option.some.inj h).symm
theorem no_j11 {k r x0 x1 x2} (h : verditertop_topSecrets.j11 k x0 x1 x2 true = some r) : r = false := by
  cases k with
  | zero => simp [verditertop_topSecrets.j11] at h
  | succ k => rw [verditertop_topSecrets.j11, if_pos rfl] at h; exact (Option.some.inj h).symm
set_option maxHeartbeats 8000000 in
set_option maxRecDepth 100000 in
theorem verditertop_topSecrets.calls (k : Nat) (A0_0 : Option Addr) (c0_0 : Nat) (l0_0 : List Int) (A0_1 : Option Addr) (c0_1 : Nat) (l0_1 : List Int) (a1 : Int) (a2 : Int) (r : Bool) (w : World) (hr0_0 : Kd.C (Kd.int .i64) w A0_0 l0_0.length l0_0) (hc0_0 : l0_0.length ≤ c0_0) (hr0_1 : Kd.C (Kd.int .i64) w A0_1 l0_1.length l0_1) (hc0_1 : l0_1.length ≤ c0_1) (h : verditertop_topSecrets.f k l0_0 l0_1 a1 a2 = some r) (hrt : r = true) :
  Calls Try.prog 28 #[.agg #[.slice A0_0 l0_0.length c0_0, .slice A0_1 l0_1.length c0_1], .int .i64 a1, .int .i64 a2] w fun e w' => e = .returned (.bool r) ∧ Below w.heap.size w w' := by
 have HRT := Aside0.mk hrt
 clear hrt
 have hu31 := Try.underlying31
 have hu43 := Try.underlying43
 have HR0_0 := Aside0.mk hr0_0
 have HC0_0 := Aside0.mk hc0_0
 clear hr0_0 hc0_0
 have HR0_1 := Aside0.mk hr0_1
 have HC0_1 := Aside0.mk hc0_1
 clear hr0_1 hc0_1
 have HB := Aside0.mk (Below.refl w.heap.size w)
 have H : ((secret_Inverse.f k 2).bind fun bt726 => (if bt726.2 = 0 then (verditertop_topSecrets.j0 k a1 a2 l0_0 l0_1 (bt726.1 != 126)) else (verditertop_topSecrets.j0 k a1 a2 l0_0 l0_1 true))) = some r := h
 clear h
 replace H := Option.bind_eq_some_iff.mp H
 obtain ⟨⟨t726, t727⟩, A40, H⟩ := H
 replace H : (if t727 = 0 then (verditertop_topSecrets.j0 k a1 a2 l0_0 l0_1 (t726 != 126)) else (verditertop_topSecrets.j0 k a1 a2 l0_0 l0_1 true)) = some r := H
 have A4 := Aside0.mk A40
 clear A40
 have HC5 := Aside0.mk H
 clear H
 go_enter Try.func28, Try.ntmps28
 iterate 8 (go_upto_region 3 with (first | ((with_reducible refine gate_dst (N := 3) rfl ?_); (try (refine gate_guard (by rfl) ?_; dsimp only)); refine box_event ?hg (N := 3) ?hd (cs := #[.slice A0_0 l0_0.length c0_0, .slice A0_1 l0_1.length c0_1]) (t := 31) ?hr ?_; (case hd => rfl); (case hg => rfl); (case hr => first | (go_simp; done) | (go_simp; rfl)); intro gb725 hg w6 hbox hb; have n0_ := Aside0.mk (below_step (by repeat (first | (with_reducible first | exact HB.out | apply below_alloc | apply pw_below_drewN | apply below_drew1) | exact HB.out)) hb); have n1_ := Aside0.mk (hbox); have n2_ := Aside0.mk ((by rw [hg]; exact (below_size (by repeat (first | (with_reducible first | exact HB.out | apply below_alloc | apply pw_below_drewN | apply below_drew1) | exact HB.out))) : w.heap.size ≤ gb725)); have n3_ := Aside0.mk ((by rw [hg]; exact (below_size (by repeat (first | (with_reducible first | exact HB.out | apply below_alloc | apply pw_below_drewN | apply below_drew1) | exact HB.out))) : w.heap.size ≤ gb725)); clear HB; have HB := n0_; have BK725 := n1_; have GW725 := n2_; have GE725 := n3_; clear n0_ n1_ n2_ n3_; clear hb hbox hg; have hcz7_0 : w6.cell? ⟨gb725, 0, none⟩ = some (.slice A0_0 l0_0.length c0_0) := (blk_cell BK725.out 0).trans rfl; have hcz7_1 : w6.cell? ⟨gb725, 1, none⟩ = some (.slice A0_1 l0_1.length c0_1) := (blk_cell BK725.out 1).trans rfl; have hfz7_0 := blk_frozen BK725.out 0; have hfz7_1 := blk_frozen BK725.out 1) | (go_at_call 47; (with_reducible refine (secret_Inverse.calls k 2 t726 t727 _ A4.out).mono ?_); rintro e w' ⟨rfl, ⟨nd, rfl⟩⟩; (try first | exact ⟨rfl, _, World.drewN_drewN _ _ _⟩ | exact ⟨rfl, _, Eq.trans (World.drewN_drewN _ _ _) (congrArg (World.drewN _) (Nat.add_assoc _ _ _))⟩))); try go_quiet (fail))
 (try simp only [Act.put, List.setIfInBounds_toArray, List.set_cons_zero, List.set_cons_succ])
 go_cut [50] (fun v50 wc => ∃ (kq : Nat) (x50_4 : Bool), v50 = .bool x50_4 ∧ Aside0 (verditertop_topSecrets.j0 kq a1 a2 l0_0 l0_1 x50_4 = some r) ∧ Aside0 (kq ≤ k) ∧ Aside0 (wc.heap[gb725]? = some (.cells #[(.slice A0_0 l0_0.length c0_0), (.slice A0_1 l0_1.length c0_1)] 31 (0, 0))) ∧ Aside0 (Below w.heap.size w wc))
 case first =>
  as_aux_lemma =>
  have H := HC5.out
  clear HC5
  by_cases c8 : t727 = 0
  ·rw [if_pos c8] at H
   have c8b0 : (t727 == 0) = true := beq_iff_eq.mpr c8
   have c8b1 : (t727 != 0) = false := bne_eq_false_iff_eq.mpr c8
   clear c8
   (first | rw [c8b0] | (simp only [i64_w, i32_w]; rw [c8b0]) | skip)
   have H' := Aside0.mk H
   clear H
   go_wp2
   repeat (go_quiet (fail); try go_wp2)
   go_meet
   case rel => exact ⟨_, ((t726 != 126)), (by first | rfl | (simp; done) | (simp [*]; done)), H', ⟨by first | omega | exact Nat.le_refl _⟩, ⟨by (with_reducible repeat (first | refine blk_drewN ?_ _ | refine blk_drew ?_ | refine blk_alloc ?_ _)); exact BK725.out⟩, ⟨by repeat (first | (with_reducible first | exact HB.out | apply below_alloc | apply pw_below_drewN | apply below_drew1 | refine below_set ?_ GE725.out) | exact HB.out)⟩⟩
  ·rw [if_neg c8] at H
   have c8b0 : (t727 == 0) = false := beq_eq_false_iff_ne.mpr c8
   have c8b1 : (t727 != 0) = true := bne_iff_ne.mpr c8
   (first | rw [c8b0] | (simp only [i64_w, i32_w]; rw [c8b0]) | skip)
   exact absurd (show r = false by first | exact no_j0 H | exact no_j2 H | exact no_j3 H | exact no_j7 H | exact no_j10 H | exact no_j11 H) (by rw [HRT.out]; decide)
 case rest =>
  as_aux_lemma =>
  clear HC5 hcz7_0 hcz7_1 hfz7_0 hfz7_1
  obtain ⟨kq, x50_4, rfl, HA, HJ4, BK725, HB⟩ := hcut
  cases kq with
  | zero => exact absurd HA.out (by simp [verditertop_topSecrets.j0])
  | succ kj4 =>
   have H := HA.out
   clear HA
   simp only [verditertop_topSecrets.j0] at H
   by_cases c9 : x50_4 = true
   ·subst c9
    have H1 : (some false) = some r := by rw [if_pos rfl] at H; exact H
    clear H
    have H := H1
    clear H1
    exact absurd (Option.some.inj H) (by rw [HRT.out]; decide)
   ·replace c9 := Bool.eq_false_iff.mpr c9
    subst c9
    have H1 : (if (l0_0.length : Int) > 100 then (verditertop_topSecrets.j1 kj4 a1 a2 l0_0 l0_1 true) else (verditertop_topSecrets.j1 kj4 a1 a2 l0_0 l0_1 (decide ((l0_1.length : Int) > 100)))) = some r := by rw [if_neg (show ¬ (false = true) by decide)] at H; exact H
    clear H
    have H := H1
    clear H1
    have HC10 := Aside0.mk H
    clear H
    go_upto_region 5 with (fail)
    repeat (go_quiet (fail); go_upto_region 5 with (fail))
    go_cut [58] (fun v58 wc => ∃ (kq : Nat) (x58_9 : Bool), v58 = .bool x58_9 ∧ Aside0 (verditertop_topSecrets.j1 kq a1 a2 l0_0 l0_1 x58_9 = some r) ∧ Aside0 (kq ≤ kj4) ∧ Aside0 (wc.heap[gb725]? = some (.cells #[(.slice A0_0 l0_0.length c0_0), (.slice A0_1 l0_1.length c0_1)] 31 (0, 0))) ∧ Aside0 (Below w.heap.size w wc))
    case first =>
     as_aux_lemma =>
     have H := HC10.out
     clear HC10
     by_cases c11 : (l0_0.length : Int) > 100
     ·rw [if_pos c11] at H
      have c11b0 : decide (100 < (l0_0.length : Int)) = true := decide_eq_true c11
      have c11b1 : decide (100 < l0_0.length) = true := decide_eq_true (by omega)
      clear c11
      (first | rw [c11b0] | (simp only [i64_w, i32_w]; rw [c11b0]) | skip)
      have H' := Aside0.mk H
      clear H
      go_wp2
      repeat (go_quiet (fail); try go_wp2)
      go_meet
      case rel => exact ⟨_, (true), (by first | rfl | (simp; done) | (simp [*]; done)), H', ⟨by have := HJ4.out; first | omega | exact Nat.le_refl _⟩, ⟨by (with_reducible repeat (first | refine blk_drewN ?_ _ | refine blk_drew ?_ | refine blk_alloc ?_ _)); exact BK725.out⟩, ⟨by repeat (first | (with_reducible first | exact HB.out | apply below_alloc | apply pw_below_drewN | apply below_drew1 | refine below_set ?_ GE725.out) | exact HB.out)⟩⟩
     ·rw [if_neg c11] at H
      have c11b0 : decide (100 < (l0_0.length : Int)) = false := decide_eq_false c11
      have c11b1 : decide (100 < l0_0.length) = false := decide_eq_false (by omega)
      clear c11
      (first | rw [c11b0] | (simp only [i64_w, i32_w]; rw [c11b0]) | skip)
      have H' := Aside0.mk H
      clear H
      go_wp2
      repeat (go_quiet (fail); try go_wp2)
      go_meet
      case rel => exact ⟨_, (decide ((l0_1.length : Int) > 100)), (by first | rfl | (simp; done) | (simp [*]; done)), H', ⟨by have := HJ4.out; first | omega | exact Nat.le_refl _⟩, ⟨by (with_reducible repeat (first | refine blk_drewN ?_ _ | refine blk_drew ?_ | refine blk_alloc ?_ _)); exact BK725.out⟩, ⟨by repeat (first | (with_reducible first | exact HB.out | apply below_alloc | apply pw_below_drewN | apply below_drew1 | refine below_set ?_ GE725.out) | exact HB.out)⟩⟩
    case rest =>
     as_aux_lemma =>
     clear HC10
     obtain ⟨kq, x58_9, rfl, HA, HJ9, BK725, HB⟩ := hcut
     cases kq with
     | zero => exact absurd HA.out (by simp [verditertop_topSecrets.j1])
     | succ kj9 =>
      have H := HA.out
      clear HA
      simp only [verditertop_topSecrets.j1] at H
      by_cases c12 : x58_9 = true
      ·subst c12
       have H1 : (some true) = some r := by rw [if_pos rfl] at H; exact H
       clear H
       have H := H1
       clear H1
       obtain rfl := Option.some.inj H
       go_wp2
       repeat (go_quiet (fail); try go_wp2)
       go_ret
       exact ⟨by first | rfl | (simp [errW_none, errW_some] <;> rfl) | (simp [*, errW_none, errW_some] <;> rfl), by repeat (first | (with_reducible first | exact HB.out | apply below_alloc | apply pw_below_drewN | apply below_drew1 | refine below_set ?_ GE725.out) | exact HB.out)⟩
      ·replace c12 := Bool.eq_false_iff.mpr c12
       subst c12
       have H1 : ((secret_Share.f kj9 l0_0 12).bind fun bt728 => (if bt728.2 = 0 then (if (l0_0.length : Int) < 1 then (verditertop_topSecrets.j2 kj9 a1 a2 l0_0 l0_1 bt728.1 true) else (if (l0_0.length : Int) > 6 then (verditertop_topSecrets.j2 kj9 a1 a2 l0_0 l0_1 bt728.1 true) else (verditertop_topSecrets.j2 kj9 a1 a2 l0_0 l0_1 bt728.1 ((bt728.1.length : Int) != 12)))) else (some true))) = some r := by rw [if_neg (show ¬ (false = true) by decide)] at H; exact H
       clear H
       have H := H1
       clear H1
       replace H := Option.bind_eq_some_iff.mp H
       obtain ⟨⟨t728, t729⟩, A130, H⟩ := H
       replace H : (if t729 = 0 then (if (l0_0.length : Int) < 1 then (verditertop_topSecrets.j2 kj9 a1 a2 l0_0 l0_1 t728 true) else (if (l0_0.length : Int) > 6 then (verditertop_topSecrets.j2 kj9 a1 a2 l0_0 l0_1 t728 true) else (verditertop_topSecrets.j2 kj9 a1 a2 l0_0 l0_1 t728 ((t728.length : Int) != 12)))) else (some true)) = some r := H
       have A13 := Aside0.mk A130
       clear A130
       by_cases c14 : t729 = 0
       ·rw [if_pos c14] at H
        have c14b0 : (t729 == 0) = true := beq_iff_eq.mpr c14
        have c14b1 : (t729 != 0) = false := bne_eq_false_iff_eq.mpr c14
        clear c14
        have HC15 := Aside0.mk H
        clear H
        iterate 8 (go_upto_region 10 with (first | (go_at_call 51; (with_reducible refine (secret_Share.calls kj9 _ _ l0_0 12 t728 t729 _ ?side1 ?side2 A13.out).mono ?_); (case side1 => repeat (first | exact (Kd.C_below HR0_0.out HB.out) | (with_reducible refine Kd.C_alloc ?_ _) | (with_reducible refine Kd.C_drewN ?_ _) | (with_reducible refine Kd.C_drew ?_))); (case side2 => exact HC0_0.out); rintro e w16 ⟨v730, rfl, ho0, hb⟩; have n0_ := Aside0.mk (Kd.R_lower ho0 (below_size (by repeat (first | (with_reducible first | exact HB.out | apply below_alloc | apply pw_below_drewN | apply below_drew1 | refine below_set ?_ GE725.out) | exact HB.out)))); have n1_ := Aside0.mk (blk_below (g := gb725) (o := .cells #[.slice A0_0 l0_0.length c0_0, .slice A0_1 l0_1.length c0_1] 31 (0, 0)) (by (with_reducible repeat (first | refine blk_drewN ?_ _ | refine blk_drew ?_ | refine blk_alloc ?_ _)); exact BK725.out) hb); have n2_ := Aside0.mk (below_step (by repeat (first | (with_reducible first | exact HB.out | apply below_alloc | apply pw_below_drewN | apply below_drew1 | refine below_set ?_ GE725.out) | exact HB.out)) hb); clear BK725; clear HB; have HO731 := n0_; have BK725 := n1_; have HB := n2_; clear n0_ n1_ n2_; (try clear hb); (try clear hb2); (try clear hk); (try clear hi); (try clear ho0))); try go_quiet (fail))
        (try simp only [Act.put, List.setIfInBounds_toArray, List.set_cons_zero, List.set_cons_succ])
        go_cut [78] (fun v78 wc => ∃ (kq : Nat) (x78_14 : Bool), v78 = .bool x78_14 ∧ Aside0 (verditertop_topSecrets.j2 kq a1 a2 l0_0 l0_1 t728 x78_14 = some r) ∧ Aside0 (kq ≤ kj9) ∧ Aside0 (Kd.R k43 43 wc w.heap.size (fun _ => True) v730 t728) ∧ Aside0 (wc.heap[gb725]? = some (.cells #[(.slice A0_0 l0_0.length c0_0), (.slice A0_1 l0_1.length c0_1)] 31 (0, 0))) ∧ Aside0 (Below w.heap.size w wc))
        case first =>
         as_aux_lemma =>
         have H := HC15.out
         clear HC15
         by_cases c17 : (l0_0.length : Int) < 1
         ·rw [if_pos c17] at H
          have c17b0 : decide ((l0_0.length : Int) < 1) = true := decide_eq_true c17
          have c17b1 : decide (l0_0.length < 1) = true := decide_eq_true (by omega)
          clear c17
          (first | rw [c17b0] | (simp only [i64_w, i32_w]; rw [c17b0]) | skip)
          exact absurd (show r = false by first | exact no_j0 H | exact no_j2 H | exact no_j3 H | exact no_j7 H | exact no_j10 H | exact no_j11 H) (by rw [HRT.out]; decide)
         ·rw [if_neg c17] at H
          have c17b0 : decide ((l0_0.length : Int) < 1) = false := decide_eq_false c17
          have c17b1 : decide (l0_0.length < 1) = false := decide_eq_false (by omega)
          clear c17
          (first | rw [c17b0] | (simp only [i64_w, i32_w]; rw [c17b0]) | skip)
          by_cases c18 : (l0_0.length : Int) > 6
          ·rw [if_pos c18] at H
           have c18b0 : decide (6 < (l0_0.length : Int)) = true := decide_eq_true c18
           have c18b1 : decide (6 < l0_0.length) = true := decide_eq_true (by omega)
           clear c18
           exact absurd (show r = false by first | exact no_j0 H | exact no_j2 H | exact no_j3 H | exact no_j7 H | exact no_j10 H | exact no_j11 H) (by rw [HRT.out]; decide)
          ·rw [if_neg c18] at H
           have c18b0 : decide (6 < (l0_0.length : Int)) = false := decide_eq_false c18
           have c18b1 : decide (6 < l0_0.length) = false := decide_eq_false (by omega)
           clear c18
           have H' := Aside0.mk H
           clear H
           obtain ⟨Ao19, co19, eo19⟩ := Kd.R_slice HO731.out
           subst eo19
           go_wp2
           repeat (go_quiet (fail); try go_wp2)
           go_meet
           case rel => exact ⟨_, (((t728.length : Int) != 12)), (by first | rfl | (simp; done) | (simp [*]; done)), H', ⟨by have := HJ4.out; have := HJ9.out; first | omega | exact Nat.le_refl _⟩, ⟨by (with_reducible repeat (first | apply Kd.R_alloc | apply Kd.R_drewN | apply Kd.R_drew)); exact HO731.out⟩, ⟨by (with_reducible repeat (first | refine blk_drewN ?_ _ | refine blk_drew ?_ | refine blk_alloc ?_ _)); exact BK725.out⟩, ⟨by repeat (first | (with_reducible first | exact HB.out | apply below_alloc | apply pw_below_drewN | apply below_drew1 | refine below_set ?_ GE725.out) | exact HB.out)⟩⟩
        case rest =>
         as_aux_lemma =>
         clear HC15 c14b0 c14b1
         obtain ⟨kq, x78_14, rfl, HA, HJ14, HO_11, BK725, HB⟩ := hcut
         cases kq with
         | zero => exact absurd HA.out (by simp [verditertop_topSecrets.j2])
         | succ kj14 =>
          have H := HA.out
          clear HA
          simp only [verditertop_topSecrets.j2] at H
          by_cases c20 : x78_14 = true
          ·subst c20
           have H1 : (some false) = some r := by rw [if_pos rfl] at H; exact H
           clear H
           have H := H1
           clear H1
           exact absurd (Option.some.inj H) (by rw [HRT.out]; decide)
          ·replace c20 := Bool.eq_false_iff.mpr c20
           subst c20
           have H1 : (if (IntKind.u64.wrap (wrap64 ((wrap64 (12 - (l0_0.length : Int))) + 1))) = 0 then (none) else ((some (([] : List (S43)) : List (S43))).bind fun y732 => (if 0 ≤ (wrap64 (Int.tmod (IntKind.u64.wrap (a1)) (IntKind.u64.wrap (wrap64 ((wrap64 (12 - (l0_0.length : Int))) + 1))))) then (if (wrap64 (Int.tmod (IntKind.u64.wrap (a1)) (IntKind.u64.wrap (wrap64 ((wrap64 (12 - (l0_0.length : Int))) + 1))))) ≤ (wrap64 ((wrap64 (Int.tmod (IntKind.u64.wrap (a1)) (IntKind.u64.wrap (wrap64 ((wrap64 (12 - (l0_0.length : Int))) + 1))))) + (l0_0.length : Int))) then (if (wrap64 ((wrap64 (Int.tmod (IntKind.u64.wrap (a1)) (IntKind.u64.wrap (wrap64 ((wrap64 (12 - (l0_0.length : Int))) + 1))))) + (l0_0.length : Int))) ≤ (t728.length : Int) then ((some ((t728.take ((wrap64 ((wrap64 (Int.tmod (IntKind.u64.wrap (a1)) (IntKind.u64.wrap (wrap64 ((wrap64 (12 - (l0_0.length : Int))) + 1))))) + (l0_0.length : Int))) : Int).toNat).drop ((wrap64 (Int.tmod (IntKind.u64.wrap (a1)) (IntKind.u64.wrap (wrap64 ((wrap64 (12 - (l0_0.length : Int))) + 1))))) : Int).toNat : List (S43))).bind fun y735 => (if y732.length + y735.length < 8796093022208 then ((some (y732 ++ y735 : List (S43))).bind fun y739 => ((secret_Curve.f y739).bind fun bt742 => ((some (([] : List (S43)) : List (S43))).bind fun y746 => (if 1 ≤ (y739.length : Int) then ((some (y739.drop 1 : List (S43))).bind fun y749 => (if y746.length + y749.length < 8796093022208 then ((some (y746 ++ y749 : List (S43))).bind fun y753 => ((secret_Complete.f y753 (wrap64 (Int.tmod (IntKind.u64.wrap (a2)) 251))).bind fun bt756 => ((secret_LieOn.f t728 (l0_0.length : Int)).bind fun bt760 => (if bt742.2 = 0 then ((verditerref08_SameInts.f kj14 bt742.1 l0_0).bind fun t762 => (if t762 = true then (if bt756.2 = 0 then (if (bt756.1.length : Int) = (l0_0.length : Int) then (if 0 < (bt756.1.length : Int) then (if (rd bt756.1 0) = (wrap64 (Int.tmod (IntKind.u64.wrap (a2)) 251)) then (if bt760.2 = 0 then (verditertop_topSecrets.j3 kj14 l0_0 l0_1 t728 (wrap64 (Int.tmod (IntKind.u64.wrap (a1)) (IntKind.u64.wrap (wrap64 ((wrap64 (12 - (l0_0.length : Int))) + 1))))) y739 y753 bt756.1 (!bt760.1)) else (verditertop_topSecrets.j3 kj14 l0_0 l0_1 t728 (wrap64 (Int.tmod (IntKind.u64.wrap (a1)) (IntKind.u64.wrap (wrap64 ((wrap64 (12 - (l0_0.length : Int))) + 1))))) y739 y753 bt756.1 true)) else (verditertop_topSecrets.j3 kj14 l0_0 l0_1 t728 (wrap64 (Int.tmod (IntKind.u64.wrap (a1)) (IntKind.u64.wrap (wrap64 ((wrap64 (12 - (l0_0.length : Int))) + 1))))) y739 y753 bt756.1 true)) else (none)) else (verditertop_topSecrets.j3 kj14 l0_0 l0_1 t728 (wrap64 (Int.tmod (IntKind.u64.wrap (a1)) (IntKind.u64.wrap (wrap64 ((wrap64 (12 - (l0_0.length : Int))) + 1))))) y739 y753 bt756.1 true)) else (verditertop_topSecrets.j3 kj14 l0_0 l0_1 t728 (wrap64 (Int.tmod (IntKind.u64.wrap (a1)) (IntKind.u64.wrap (wrap64 ((wrap64 (12 - (l0_0.length : Int))) + 1))))) y739 y753 bt756.1 true)) else (verditertop_topSecrets.j3 kj14 l0_0 l0_1 t728 (wrap64 (Int.tmod (IntKind.u64.wrap (a1)) (IntKind.u64.wrap (wrap64 ((wrap64 (12 - (l0_0.length : Int))) + 1))))) y739 y753 bt756.1 true))) else (verditertop_topSecrets.j3 kj14 l0_0 l0_1 t728 (wrap64 (Int.tmod (IntKind.u64.wrap (a1)) (IntKind.u64.wrap (wrap64 ((wrap64 (12 - (l0_0.length : Int))) + 1))))) y739 y753 bt756.1 true))))) else (none))) else (none))))) else (none))) else (none)) else (none)) else (none)))) = some r := by rw [if_neg (show ¬ (false = true) by decide)] at H; exact H
           clear H
           have H := H1
           clear H1
           by_cases c21 : (IntKind.u64.wrap (wrap64 ((wrap64 (12 - (l0_0.length : Int))) + 1))) = 0
           ·rw [if_pos c21] at H
            exact absurd H (by simp)
           ·rw [if_neg c21] at H
            have c21b0 : ((IntKind.u64.wrap (wrap64 ((wrap64 (12 - (l0_0.length : Int))) + 1))) == 0) = false := beq_eq_false_iff_ne.mpr c21
            have c21b1 : ((IntKind.u64.wrap (wrap64 ((wrap64 (12 - (l0_0.length : Int))) + 1))) != 0) = true := bne_iff_ne.mpr c21
            obtain ⟨y732, hy732⟩ : ∃ y_ : List (S43), y_ = (([] : List (S43))) := ⟨_, rfl⟩
            replace H : (if 0 ≤ (wrap64 (Int.tmod (IntKind.u64.wrap (a1)) (IntKind.u64.wrap (wrap64 ((wrap64 (12 - (l0_0.length : Int))) + 1))))) then (if (wrap64 (Int.tmod (IntKind.u64.wrap (a1)) (IntKind.u64.wrap (wrap64 ((wrap64 (12 - (l0_0.length : Int))) + 1))))) ≤ (wrap64 ((wrap64 (Int.tmod (IntKind.u64.wrap (a1)) (IntKind.u64.wrap (wrap64 ((wrap64 (12 - (l0_0.length : Int))) + 1))))) + (l0_0.length : Int))) then (if (wrap64 ((wrap64 (Int.tmod (IntKind.u64.wrap (a1)) (IntKind.u64.wrap (wrap64 ((wrap64 (12 - (l0_0.length : Int))) + 1))))) + (l0_0.length : Int))) ≤ (t728.length : Int) then ((some ((t728.take ((wrap64 ((wrap64 (Int.tmod (IntKind.u64.wrap (a1)) (IntKind.u64.wrap (wrap64 ((wrap64 (12 - (l0_0.length : Int))) + 1))))) + (l0_0.length : Int))) : Int).toNat).drop ((wrap64 (Int.tmod (IntKind.u64.wrap (a1)) (IntKind.u64.wrap (wrap64 ((wrap64 (12 - (l0_0.length : Int))) + 1))))) : Int).toNat : List (S43))).bind fun y735 => (if y732.length + y735.length < 8796093022208 then ((some (y732 ++ y735 : List (S43))).bind fun y739 => ((secret_Curve.f y739).bind fun bt742 => ((some (([] : List (S43)) : List (S43))).bind fun y746 => (if 1 ≤ (y739.length : Int) then ((some (y739.drop 1 : List (S43))).bind fun y749 => (if y746.length + y749.length < 8796093022208 then ((some (y746 ++ y749 : List (S43))).bind fun y753 => ((secret_Complete.f y753 (wrap64 (Int.tmod (IntKind.u64.wrap (a2)) 251))).bind fun bt756 => ((secret_LieOn.f t728 (l0_0.length : Int)).bind fun bt760 => (if bt742.2 = 0 then ((verditerref08_SameInts.f kj14 bt742.1 l0_0).bind fun t762 => (if t762 = true then (if bt756.2 = 0 then (if (bt756.1.length : Int) = (l0_0.length : Int) then (if 0 < (bt756.1.length : Int) then (if (rd bt756.1 0) = (wrap64 (Int.tmod (IntKind.u64.wrap (a2)) 251)) then (if bt760.2 = 0 then (verditertop_topSecrets.j3 kj14 l0_0 l0_1 t728 (wrap64 (Int.tmod (IntKind.u64.wrap (a1)) (IntKind.u64.wrap (wrap64 ((wrap64 (12 - (l0_0.length : Int))) + 1))))) y739 y753 bt756.1 (!bt760.1)) else (verditertop_topSecrets.j3 kj14 l0_0 l0_1 t728 (wrap64 (Int.tmod (IntKind.u64.wrap (a1)) (IntKind.u64.wrap (wrap64 ((wrap64 (12 - (l0_0.length : Int))) + 1))))) y739 y753 bt756.1 true)) else (verditertop_topSecrets.j3 kj14 l0_0 l0_1 t728 (wrap64 (Int.tmod (IntKind.u64.wrap (a1)) (IntKind.u64.wrap (wrap64 ((wrap64 (12 - (l0_0.length : Int))) + 1))))) y739 y753 bt756.1 true)) else (none)) else (verditertop_topSecrets.j3 kj14 l0_0 l0_1 t728 (wrap64 (Int.tmod (IntKind.u64.wrap (a1)) (IntKind.u64.wrap (wrap64 ((wrap64 (12 - (l0_0.length : Int))) + 1))))) y739 y753 bt756.1 true)) else (verditertop_topSecrets.j3 kj14 l0_0 l0_1 t728 (wrap64 (Int.tmod (IntKind.u64.wrap (a1)) (IntKind.u64.wrap (wrap64 ((wrap64 (12 - (l0_0.length : Int))) + 1))))) y739 y753 bt756.1 true)) else (verditertop_topSecrets.j3 kj14 l0_0 l0_1 t728 (wrap64 (Int.tmod (IntKind.u64.wrap (a1)) (IntKind.u64.wrap (wrap64 ((wrap64 (12 - (l0_0.length : Int))) + 1))))) y739 y753 bt756.1 true))) else (verditertop_topSecrets.j3 kj14 l0_0 l0_1 t728 (wrap64 (Int.tmod (IntKind.u64.wrap (a1)) (IntKind.u64.wrap (wrap64 ((wrap64 (12 - (l0_0.length : Int))) + 1))))) y739 y753 bt756.1 true))))) else (none))) else (none))))) else (none))) else (none)) else (none)) else (none)) = some r := by first | (rw [hy732]; with_reducible exact H) | (have H2_ := (Option.bind_some _ _).symm.trans H; rw [hy732]; with_reducible exact H2_) | (have H2_ := (Option.bind_some _ _).symm.trans H; with_reducible exact H2_) | with_reducible exact H | (rw [hy732]; exact H) | exact H
            have Ny732 := Aside0.mk hy732
            clear hy732
            obtain ⟨ji22, hji22⟩ : ∃ j_ : Int, (wrap64 (Int.tmod (IntKind.u64.wrap (a1)) (IntKind.u64.wrap (wrap64 ((wrap64 (12 - (l0_0.length : Int))) + 1))))) = j_ := ⟨_, rfl⟩
            replace H : (if 0 ≤ (ji22) then (if (ji22) ≤ (wrap64 ((ji22) + (l0_0.length : Int))) then (if (wrap64 ((ji22) + (l0_0.length : Int))) ≤ (t728.length : Int) then ((some ((t728.take ((wrap64 ((ji22) + (l0_0.length : Int))) : Int).toNat).drop ((ji22) : Int).toNat : List (S43))).bind fun y735 => (if y732.length + y735.length < 8796093022208 then ((some (y732 ++ y735 : List (S43))).bind fun y739 => ((secret_Curve.f y739).bind fun bt742 => ((some (([] : List (S43)) : List (S43))).bind fun y746 => (if 1 ≤ (y739.length : Int) then ((some (y739.drop 1 : List (S43))).bind fun y749 => (if y746.length + y749.length < 8796093022208 then ((some (y746 ++ y749 : List (S43))).bind fun y753 => ((secret_Complete.f y753 (wrap64 (Int.tmod (IntKind.u64.wrap (a2)) 251))).bind fun bt756 => ((secret_LieOn.f t728 (l0_0.length : Int)).bind fun bt760 => (if bt742.2 = 0 then ((verditerref08_SameInts.f kj14 bt742.1 l0_0).bind fun t762 => (if t762 = true then (if bt756.2 = 0 then (if (bt756.1.length : Int) = (l0_0.length : Int) then (if 0 < (bt756.1.length : Int) then (if (rd bt756.1 0) = (wrap64 (Int.tmod (IntKind.u64.wrap (a2)) 251)) then (if bt760.2 = 0 then (verditertop_topSecrets.j3 kj14 l0_0 l0_1 t728 ji22 y739 y753 bt756.1 (!bt760.1)) else (verditertop_topSecrets.j3 kj14 l0_0 l0_1 t728 ji22 y739 y753 bt756.1 true)) else (verditertop_topSecrets.j3 kj14 l0_0 l0_1 t728 ji22 y739 y753 bt756.1 true)) else (none)) else (verditertop_topSecrets.j3 kj14 l0_0 l0_1 t728 ji22 y739 y753 bt756.1 true)) else (verditertop_topSecrets.j3 kj14 l0_0 l0_1 t728 ji22 y739 y753 bt756.1 true)) else (verditertop_topSecrets.j3 kj14 l0_0 l0_1 t728 ji22 y739 y753 bt756.1 true))) else (verditertop_topSecrets.j3 kj14 l0_0 l0_1 t728 ji22 y739 y753 bt756.1 true))))) else (none))) else (none))))) else (none))) else (none)) else (none)) else (none)) = some r := by first | (rw [hji22] at H; exact H) | (simp only [hji22] at H ⊢; exact H)
            have hji22w : (IntKind.i64.wrap (Int.tmod (IntKind.u64.wrap (a1)) (IntKind.u64.wrap (wrap64 ((wrap64 (12 - (l0_0.length : Int))) + 1))))) = ji22 := (i64_w _).trans hji22
            by_cases c23 : 0 ≤ (ji22)
            ·rw [if_pos c23] at H
             have c23b0 := eq_true c23
             have c23b1 : decide (0 ≤ (ji22)) = true := decide_eq_true c23
             clear c23
             by_cases c24 : (ji22) ≤ (wrap64 ((ji22) + (l0_0.length : Int)))
             ·rw [if_pos c24] at H
              have c24b0 := eq_true c24
              have c24b1 : decide ((ji22) ≤ (wrap64 ((ji22) + (l0_0.length : Int)))) = true := decide_eq_true c24
              by_cases c25 : (wrap64 ((ji22) + (l0_0.length : Int))) ≤ (t728.length : Int)
              ·rw [if_pos c25] at H
               have c25b0 := eq_true c25
               have c25b1 : decide ((wrap64 ((ji22) + (l0_0.length : Int))) ≤ (t728.length : Int)) = true := decide_eq_true c25
               obtain ⟨y735, hy735⟩ : ∃ y_ : List (S43), y_ = ((t728.take ((wrap64 ((ji22) + (l0_0.length : Int))) : Int).toNat).drop ((ji22) : Int).toNat) := ⟨_, rfl⟩
               replace H : (if y732.length + y735.length < 8796093022208 then ((some (y732 ++ y735 : List (S43))).bind fun y739 => ((secret_Curve.f y739).bind fun bt742 => ((some (([] : List (S43)) : List (S43))).bind fun y746 => (if 1 ≤ (y739.length : Int) then ((some (y739.drop 1 : List (S43))).bind fun y749 => (if y746.length + y749.length < 8796093022208 then ((some (y746 ++ y749 : List (S43))).bind fun y753 => ((secret_Complete.f y753 (wrap64 (Int.tmod (IntKind.u64.wrap (a2)) 251))).bind fun bt756 => ((secret_LieOn.f t728 (l0_0.length : Int)).bind fun bt760 => (if bt742.2 = 0 then ((verditerref08_SameInts.f kj14 bt742.1 l0_0).bind fun t762 => (if t762 = true then (if bt756.2 = 0 then (if (bt756.1.length : Int) = (l0_0.length : Int) then (if 0 < (bt756.1.length : Int) then (if (rd bt756.1 0) = (wrap64 (Int.tmod (IntKind.u64.wrap (a2)) 251)) then (if bt760.2 = 0 then (verditertop_topSecrets.j3 kj14 l0_0 l0_1 t728 ji22 y739 y753 bt756.1 (!bt760.1)) else (verditertop_topSecrets.j3 kj14 l0_0 l0_1 t728 ji22 y739 y753 bt756.1 true)) else (verditertop_topSecrets.j3 kj14 l0_0 l0_1 t728 ji22 y739 y753 bt756.1 true)) else (none)) else (verditertop_topSecrets.j3 kj14 l0_0 l0_1 t728 ji22 y739 y753 bt756.1 true)) else (verditertop_topSecrets.j3 kj14 l0_0 l0_1 t728 ji22 y739 y753 bt756.1 true)) else (verditertop_topSecrets.j3 kj14 l0_0 l0_1 t728 ji22 y739 y753 bt756.1 true))) else (verditertop_topSecrets.j3 kj14 l0_0 l0_1 t728 ji22 y739 y753 bt756.1 true))))) else (none))) else (none))))) else (none)) = some r := by first | (rw [hy735]; with_reducible exact H) | (have H2_ := (Option.bind_some _ _).symm.trans H; rw [hy735]; with_reducible exact H2_) | (have H2_ := (Option.bind_some _ _).symm.trans H; with_reducible exact H2_) | with_reducible exact H | (rw [hy735]; exact H) | exact H
               have Ny735 := Aside0.mk hy735
               clear hy735
               by_cases c26 : y732.length + y735.length < 8796093022208
               ·rw [if_pos c26] at H
                have LMc26 := Aside0.mk c26
                clear c26
                obtain ⟨y739, hy739⟩ : ∃ y_ : List (S43), y_ = (y732 ++ y735) := ⟨_, rfl⟩
                replace H : ((secret_Curve.f y739).bind fun bt742 => ((some (([] : List (S43)) : List (S43))).bind fun y746 => (if 1 ≤ (y739.length : Int) then ((some (y739.drop 1 : List (S43))).bind fun y749 => (if y746.length + y749.length < 8796093022208 then ((some (y746 ++ y749 : List (S43))).bind fun y753 => ((secret_Complete.f y753 (wrap64 (Int.tmod (IntKind.u64.wrap (a2)) 251))).bind fun bt756 => ((secret_LieOn.f t728 (l0_0.length : Int)).bind fun bt760 => (if bt742.2 = 0 then ((verditerref08_SameInts.f kj14 bt742.1 l0_0).bind fun t762 => (if t762 = true then (if bt756.2 = 0 then (if (bt756.1.length : Int) = (l0_0.length : Int) then (if 0 < (bt756.1.length : Int) then (if (rd bt756.1 0) = (wrap64 (Int.tmod (IntKind.u64.wrap (a2)) 251)) then (if bt760.2 = 0 then (verditertop_topSecrets.j3 kj14 l0_0 l0_1 t728 ji22 y739 y753 bt756.1 (!bt760.1)) else (verditertop_topSecrets.j3 kj14 l0_0 l0_1 t728 ji22 y739 y753 bt756.1 true)) else (verditertop_topSecrets.j3 kj14 l0_0 l0_1 t728 ji22 y739 y753 bt756.1 true)) else (none)) else (verditertop_topSecrets.j3 kj14 l0_0 l0_1 t728 ji22 y739 y753 bt756.1 true)) else (verditertop_topSecrets.j3 kj14 l0_0 l0_1 t728 ji22 y739 y753 bt756.1 true)) else (verditertop_topSecrets.j3 kj14 l0_0 l0_1 t728 ji22 y739 y753 bt756.1 true))) else (verditertop_topSecrets.j3 kj14 l0_0 l0_1 t728 ji22 y739 y753 bt756.1 true))))) else (none))) else (none)))) = some r := by first | (rw [hy739]; with_reducible exact H) | (have H2_ := (Option.bind_some _ _).symm.trans H; rw [hy739]; with_reducible exact H2_) | (have H2_ := (Option.bind_some _ _).symm.trans H; with_reducible exact H2_) | with_reducible exact H | (rw [hy739]; exact H) | exact H
                have Ny739 := Aside0.mk hy739
                clear hy739
                replace H := Option.bind_eq_some_iff.mp H
                obtain ⟨⟨t742, t743⟩, A270, H⟩ := H
                replace H : ((some (([] : List (S43)) : List (S43))).bind fun y746 => (if 1 ≤ (y739.length : Int) then ((some (y739.drop 1 : List (S43))).bind fun y749 => (if y746.length + y749.length < 8796093022208 then ((some (y746 ++ y749 : List (S43))).bind fun y753 => ((secret_Complete.f y753 (wrap64 (Int.tmod (IntKind.u64.wrap (a2)) 251))).bind fun bt756 => ((secret_LieOn.f t728 (l0_0.length : Int)).bind fun bt760 => (if t743 = 0 then ((verditerref08_SameInts.f kj14 t742 l0_0).bind fun t762 => (if t762 = true then (if bt756.2 = 0 then (if (bt756.1.length : Int) = (l0_0.length : Int) then (if 0 < (bt756.1.length : Int) then (if (rd bt756.1 0) = (wrap64 (Int.tmod (IntKind.u64.wrap (a2)) 251)) then (if bt760.2 = 0 then (verditertop_topSecrets.j3 kj14 l0_0 l0_1 t728 ji22 y739 y753 bt756.1 (!bt760.1)) else (verditertop_topSecrets.j3 kj14 l0_0 l0_1 t728 ji22 y739 y753 bt756.1 true)) else (verditertop_topSecrets.j3 kj14 l0_0 l0_1 t728 ji22 y739 y753 bt756.1 true)) else (none)) else (verditertop_topSecrets.j3 kj14 l0_0 l0_1 t728 ji22 y739 y753 bt756.1 true)) else (verditertop_topSecrets.j3 kj14 l0_0 l0_1 t728 ji22 y739 y753 bt756.1 true)) else (verditertop_topSecrets.j3 kj14 l0_0 l0_1 t728 ji22 y739 y753 bt756.1 true))) else (verditertop_topSecrets.j3 kj14 l0_0 l0_1 t728 ji22 y739 y753 bt756.1 true))))) else (none))) else (none))) = some r := H
                have A27 := Aside0.mk A270
                clear A270
                obtain ⟨y746, hy746⟩ : ∃ y_ : List (S43), y_ = (([] : List (S43))) := ⟨_, rfl⟩
                replace H : (if 1 ≤ (y739.length : Int) then ((some (y739.drop 1 : List (S43))).bind fun y749 => (if y746.length + y749.length < 8796093022208 then ((some (y746 ++ y749 : List (S43))).bind fun y753 => ((secret_Complete.f y753 (wrap64 (Int.tmod (IntKind.u64.wrap (a2)) 251))).bind fun bt756 => ((secret_LieOn.f t728 (l0_0.length : Int)).bind fun bt760 => (if t743 = 0 then ((verditerref08_SameInts.f kj14 t742 l0_0).bind fun t762 => (if t762 = true then (if bt756.2 = 0 then (if (bt756.1.length : Int) = (l0_0.length : Int) then (if 0 < (bt756.1.length : Int) then (if (rd bt756.1 0) = (wrap64 (Int.tmod (IntKind.u64.wrap (a2)) 251)) then (if bt760.2 = 0 then (verditertop_topSecrets.j3 kj14 l0_0 l0_1 t728 ji22 y739 y753 bt756.1 (!bt760.1)) else (verditertop_topSecrets.j3 kj14 l0_0 l0_1 t728 ji22 y739 y753 bt756.1 true)) else (verditertop_topSecrets.j3 kj14 l0_0 l0_1 t728 ji22 y739 y753 bt756.1 true)) else (none)) else (verditertop_topSecrets.j3 kj14 l0_0 l0_1 t728 ji22 y739 y753 bt756.1 true)) else (verditertop_topSecrets.j3 kj14 l0_0 l0_1 t728 ji22 y739 y753 bt756.1 true)) else (verditertop_topSecrets.j3 kj14 l0_0 l0_1 t728 ji22 y739 y753 bt756.1 true))) else (verditertop_topSecrets.j3 kj14 l0_0 l0_1 t728 ji22 y739 y753 bt756.1 true))))) else (none))) else (none)) = some r := by first | (rw [hy746]; with_reducible exact H) | (have H2_ := (Option.bind_some _ _).symm.trans H; rw [hy746]; with_reducible exact H2_) | (have H2_ := (Option.bind_some _ _).symm.trans H; with_reducible exact H2_) | with_reducible exact H | (rw [hy746]; exact H) | exact H
                have Ny746 := Aside0.mk hy746
                clear hy746
                by_cases c28 : 1 ≤ (y739.length : Int)
                ·rw [if_pos c28] at H
                 have c28b0 := eq_true c28
                 have c28b1 : decide (1 ≤ (y739.length : Int)) = true := decide_eq_true c28
                 clear c28
                 obtain ⟨y749, hy749⟩ : ∃ y_ : List (S43), y_ = (y739.drop 1) := ⟨_, rfl⟩
                 replace H : (if y746.length + y749.length < 8796093022208 then ((some (y746 ++ y749 : List (S43))).bind fun y753 => ((secret_Complete.f y753 (wrap64 (Int.tmod (IntKind.u64.wrap (a2)) 251))).bind fun bt756 => ((secret_LieOn.f t728 (l0_0.length : Int)).bind fun bt760 => (if t743 = 0 then ((verditerref08_SameInts.f kj14 t742 l0_0).bind fun t762 => (if t762 = true then (if bt756.2 = 0 then (if (bt756.1.length : Int) = (l0_0.length : Int) then (if 0 < (bt756.1.length : Int) then (if (rd bt756.1 0) = (wrap64 (Int.tmod (IntKind.u64.wrap (a2)) 251)) then (if bt760.2 = 0 then (verditertop_topSecrets.j3 kj14 l0_0 l0_1 t728 ji22 y739 y753 bt756.1 (!bt760.1)) else (verditertop_topSecrets.j3 kj14 l0_0 l0_1 t728 ji22 y739 y753 bt756.1 true)) else (verditertop_topSecrets.j3 kj14 l0_0 l0_1 t728 ji22 y739 y753 bt756.1 true)) else (none)) else (verditertop_topSecrets.j3 kj14 l0_0 l0_1 t728 ji22 y739 y753 bt756.1 true)) else (verditertop_topSecrets.j3 kj14 l0_0 l0_1 t728 ji22 y739 y753 bt756.1 true)) else (verditertop_topSecrets.j3 kj14 l0_0 l0_1 t728 ji22 y739 y753 bt756.1 true))) else (verditertop_topSecrets.j3 kj14 l0_0 l0_1 t728 ji22 y739 y753 bt756.1 true))))) else (none)) = some r := by first | (rw [hy749]; with_reducible exact H) | (have H2_ := (Option.bind_some _ _).symm.trans H; rw [hy749]; with_reducible exact H2_) | (have H2_ := (Option.bind_some _ _).symm.trans H; with_reducible exact H2_) | with_reducible exact H | (rw [hy749]; exact H) | exact H
                 have Ny749 := Aside0.mk hy749
                 clear hy749
                 by_cases c29 : y746.length + y749.length < 8796093022208
                 ·rw [if_pos c29] at H
                  have LMc29 := Aside0.mk c29
                  clear c29
                  obtain ⟨y753, hy753⟩ : ∃ y_ : List (S43), y_ = (y746 ++ y749) := ⟨_, rfl⟩
                  replace H : ((secret_Complete.f y753 (wrap64 (Int.tmod (IntKind.u64.wrap (a2)) 251))).bind fun bt756 => ((secret_LieOn.f t728 (l0_0.length : Int)).bind fun bt760 => (if t743 = 0 then ((verditerref08_SameInts.f kj14 t742 l0_0).bind fun t762 => (if t762 = true then (if bt756.2 = 0 then (if (bt756.1.length : Int) = (l0_0.length : Int) then (if 0 < (bt756.1.length : Int) then (if (rd bt756.1 0) = (wrap64 (Int.tmod (IntKind.u64.wrap (a2)) 251)) then (if bt760.2 = 0 then (verditertop_topSecrets.j3 kj14 l0_0 l0_1 t728 ji22 y739 y753 bt756.1 (!bt760.1)) else (verditertop_topSecrets.j3 kj14 l0_0 l0_1 t728 ji22 y739 y753 bt756.1 true)) else (verditertop_topSecrets.j3 kj14 l0_0 l0_1 t728 ji22 y739 y753 bt756.1 true)) else (none)) else (verditertop_topSecrets.j3 kj14 l0_0 l0_1 t728 ji22 y739 y753 bt756.1 true)) else (verditertop_topSecrets.j3 kj14 l0_0 l0_1 t728 ji22 y739 y753 bt756.1 true)) else (verditertop_topSecrets.j3 kj14 l0_0 l0_1 t728 ji22 y739 y753 bt756.1 true))) else (verditertop_topSecrets.j3 kj14 l0_0 l0_1 t728 ji22 y739 y753 bt756.1 true)))) = some r := by first | (rw [hy753]; with_reducible exact H) | (have H2_ := (Option.bind_some _ _).symm.trans H; rw [hy753]; with_reducible exact H2_) | (have H2_ := (Option.bind_some _ _).symm.trans H; with_reducible exact H2_) | with_reducible exact H | (rw [hy753]; exact H) | exact H
                  have Ny753 := Aside0.mk hy753
                  clear hy753
                  replace H := Option.bind_eq_some_iff.mp H
                  obtain ⟨⟨t756, t757⟩, A300, H⟩ := H
                  replace H : ((secret_LieOn.f t728 (l0_0.length : Int)).bind fun bt760 => (if t743 = 0 then ((verditerref08_SameInts.f kj14 t742 l0_0).bind fun t762 => (if t762 = true then (if t757 = 0 then (if (t756.length : Int) = (l0_0.length : Int) then (if 0 < (t756.length : Int) then (if (rd t756 0) = (wrap64 (Int.tmod (IntKind.u64.wrap (a2)) 251)) then (if bt760.2 = 0 then (verditertop_topSecrets.j3 kj14 l0_0 l0_1 t728 ji22 y739 y753 t756 (!bt760.1)) else (verditertop_topSecrets.j3 kj14 l0_0 l0_1 t728 ji22 y739 y753 t756 true)) else (verditertop_topSecrets.j3 kj14 l0_0 l0_1 t728 ji22 y739 y753 t756 true)) else (none)) else (verditertop_topSecrets.j3 kj14 l0_0 l0_1 t728 ji22 y739 y753 t756 true)) else (verditertop_topSecrets.j3 kj14 l0_0 l0_1 t728 ji22 y739 y753 t756 true)) else (verditertop_topSecrets.j3 kj14 l0_0 l0_1 t728 ji22 y739 y753 t756 true))) else (verditertop_topSecrets.j3 kj14 l0_0 l0_1 t728 ji22 y739 y753 t756 true))) = some r := H
                  have A30 := Aside0.mk A300
                  clear A300
                  replace H := Option.bind_eq_some_iff.mp H
                  obtain ⟨⟨t760, t761⟩, A310, H⟩ := H
                  replace H : (if t743 = 0 then ((verditerref08_SameInts.f kj14 t742 l0_0).bind fun t762 => (if t762 = true then (if t757 = 0 then (if (t756.length : Int) = (l0_0.length : Int) then (if 0 < (t756.length : Int) then (if (rd t756 0) = (wrap64 (Int.tmod (IntKind.u64.wrap (a2)) 251)) then (if t761 = 0 then (verditertop_topSecrets.j3 kj14 l0_0 l0_1 t728 ji22 y739 y753 t756 (!t760)) else (verditertop_topSecrets.j3 kj14 l0_0 l0_1 t728 ji22 y739 y753 t756 true)) else (verditertop_topSecrets.j3 kj14 l0_0 l0_1 t728 ji22 y739 y753 t756 true)) else (none)) else (verditertop_topSecrets.j3 kj14 l0_0 l0_1 t728 ji22 y739 y753 t756 true)) else (verditertop_topSecrets.j3 kj14 l0_0 l0_1 t728 ji22 y739 y753 t756 true)) else (verditertop_topSecrets.j3 kj14 l0_0 l0_1 t728 ji22 y739 y753 t756 true))) else (verditertop_topSecrets.j3 kj14 l0_0 l0_1 t728 ji22 y739 y753 t756 true)) = some r := H
                  have A31 := Aside0.mk A310
                  clear A310
                  have HC32 := Aside0.mk H
                  clear H
                  iterate 8 (go_upto_region 19 with (first | ((with_reducible refine gate_dst (N := 88) rfl ?_); (try (refine gate_guard (by rfl) ?_; dsimp only)); refine Kd.R_lit k43 _ 43 ?hg (N := 88) ?hd (xs := ([] : List (S43))) (inner := []) (ok := fun _ => True) (okp := fun _ => True) ?hr ?hp (fun _ hk => hk) trivial (Below.refl _ _) (Nat.le_refl _) (by simp) ?_; (case hd => rfl); (case hg => rfl); (case hr => first | (go_simp; done) | (go_simp; rfl)); (case hp => exact (Reps.none _ _)); intro v733 w33 ho34 hb hg_ hnew_; clear hg_ hnew_; (first | rw [← Ny732.out] at ho34 | (simp only [Int.reduceToNat] at ho34; rw [← Ny732.out] at ho34)); have n0_ := Aside0.mk (Kd.R_elder' (by (with_reducible repeat (first | apply Kd.R_alloc | apply Kd.R_drewN | apply Kd.R_drew)); exact HO_11.out) (Kd.R_base ho34) hb); have n1_ := Aside0.mk (Kd.R_lower (Kd.R_new' ho34 (Kd.R_lt (by (with_reducible repeat (first | apply Kd.R_alloc | apply Kd.R_drewN | apply Kd.R_drew)); exact HO_11.out))) (below_size (by repeat (first | (with_reducible first | exact HB.out | apply below_alloc | apply pw_below_drewN | apply below_drew1 | refine below_set ?_ GE725.out) | exact HB.out)))); have n2_ := Aside0.mk (blk_below (g := gb725) (o := .cells #[.slice A0_0 l0_0.length c0_0, .slice A0_1 l0_1.length c0_1] 31 (0, 0)) (by (with_reducible repeat (first | refine blk_drewN ?_ _ | refine blk_drew ?_ | refine blk_alloc ?_ _)); exact BK725.out) hb); have n3_ := Aside0.mk (below_step (by repeat (first | (with_reducible first | exact HB.out | apply below_alloc | apply pw_below_drewN | apply below_drew1 | refine below_set ?_ GE725.out) | exact HB.out)) hb); clear HO_11; clear BK725; clear HB; have HO_11 := n0_; have HO734 := n1_; have BK725 := n2_; have HB := n3_; clear n0_ n1_ n2_ n3_; clear hb ho34; obtain ⟨Ao36, co36, eo36⟩ := Kd.R_slice HO_11.out; subst eo36; have q35 : ((wrap64 ((ji22) + (l0_0.length : Int))) : Int) ≤ ((t728.length : Int) : Int) := of_decide_eq_true (by first | (with_reducible assumption) | assumption); obtain ⟨i035, hi035, _, hsz35, _⟩ := info_parts info43; have hroom35 : t728.length ≤ co36 := (Kd.R_reads' HO_11.out).2.1; have hC35 : Kd.C k43 _ Ao36 t728.length t728 := (Kd.R_reads' HO_11.out).2.2; have ql35 : ((ji22) : Int) ≤ ((wrap64 ((ji22) + (l0_0.length : Int))) : Int) := of_decide_eq_true (by first | (with_reducible assumption) | assumption); have q035 : (0 : Int) ≤ ((ji22) : Int) := of_decide_eq_true (by first | (with_reducible assumption) | assumption); have hcut35 := cut_mid (P := Try.prog) 22 43 .i64 .i64 Try.underlying22 hi035 2 hsz35 Ao36 t728.length co36 (ji22) (wrap64 ((ji22) + (l0_0.length : Int))) q035 ql35 q35 hroom35; have hr35 := Kd.C_mid (lo := ((ji22) : Int).toNat) (hi := ((wrap64 ((ji22) + (l0_0.length : Int))) : Int).toNat) (c := co36) hC35 (by omega) (by omega) hroom35; obtain ⟨A35, hA35⟩ : ∃ A1, A1 = (if co36 = ((ji22) : Int).toNat then Ao36 else (Ao36 : Option Addr).map (·.add (((ji22) : Int).toNat * 2))) := ⟨_, rfl⟩; obtain ⟨c35, hc35⟩ : ∃ c1, c1 = co36 - ((ji22) : Int).toNat := ⟨_, rfl⟩; have hy35 : y735.length = ((wrap64 ((ji22) + (l0_0.length : Int))) : Int).toNat - ((ji22) : Int).toNat := (by rw [Ny735.out, List.length_drop, List.length_take] <;> omega); rw [show ((t728).take ((wrap64 ((ji22) + (l0_0.length : Int))) : Int).toNat).drop ((ji22) : Int).toNat = y735 from Ny735.out.symm] at hr35; replace hr35 : Kd.C k43 _ A35 y735.length y735 := (by rw [hA35]; exact hr35); rw [← hy35, ← hA35, ← hc35] at hcut35; have HR738 := Aside0.mk hr35; have HC738 := Aside0.mk (show y735.length ≤ c35 from by rw [hy35, hc35]; exact Nat.sub_le_sub_right (Nat.le_trans (by omega) hroom35) _); clear hr35 hC35 hroom35 hi035 hsz35 hc35; have KY35 := Aside0.mk hy35; have KA35 := Aside0.mk hA35; clear hy35 hA35; have KL35 := Aside0.mk (show ((wrap64 ((ji22) + (l0_0.length : Int))) : Int).toNat ≤ t728.length from by omega); have KM35 := Aside0.mk (show ((ji22) : Int).toNat ≤ ((wrap64 ((ji22) + (l0_0.length : Int))) : Int).toNat from by omega); replace q35 := eq_true q35) | ((with_reducible refine gate_builtin (b := .append) (xs := #[.tmp 88, .tmp 95]) rfl ?_); (try (refine gate_guard (by rfl) ?_; dsimp only)); at_builtin; refine Kd.R_append_rows k43 (w0 := w) w.heap.size rfl (.tmp 88) (.tmp 95) 22 43 (.agg #[(.int .i64 0), (.int .i64 0)]) 16 rfl Try.underlying22 info43 rfl (by decide) (by omega) v733 y732 y735 _ _ _ (fun k_ => some k_ ≠ (.slice Ao36 t728.length co36 : Value).ownBlock) (fun _ => False) rfl rfl ?aO ?aR (fun _ _ h => h) (fun _ h => h.elim) ?aF ?aB ?aS ?aL ?_; (case aR => repeat (first | exact (by repeat (first | (with_reducible exact HR738.out) | (with_reducible refine Kd.C_alloc ?_ _) | (with_reducible refine Kd.C_drewN ?_ _) | (with_reducible refine Kd.C_drew ?_) | exact HR738.out)) | (with_reducible refine Kd.C_alloc ?_ _) | (with_reducible refine Kd.C_drewN ?_ _) | (with_reducible refine Kd.C_drew ?_))); (case aB => exact (by repeat (first | (with_reducible first | exact HB.out | apply below_alloc | apply pw_below_drewN | apply below_drew1 | refine below_set ?_ GE725.out) | exact HB.out))); (case aF => exact (fun k_ hk => Kd.fresh' (Kd.R_lt (by (with_reducible repeat (first | apply Kd.R_alloc | apply Kd.R_drewN | apply Kd.R_drew)); exact HO_11.out)) k_ hk)); (case aO => exact (by (with_reducible repeat (first | apply Kd.R_alloc | apply Kd.R_drewN | apply Kd.R_drew)); exact Kd.R_mono HO734.out (fun _ hk => hk.2))); (case aS => exact (below_size (by repeat (first | (with_reducible first | exact HB.out | apply below_alloc | apply pw_below_drewN | apply below_drew1 | refine below_set ?_ GE725.out) | exact HB.out)))); (case aL => have := LMc26.out; omega); intro v740 w37 ho hb hg hat; rw [← Ny739.out] at ho; have n0_ := Aside0.mk (Kd.R_after (ok := (fun _ => True)) (by (with_reducible repeat (first | apply Kd.R_alloc | apply Kd.R_drewN | apply Kd.R_drew)); exact HO_11.out) hg hat); have n1_ := Aside0.mk (blk_grown (g := gb725) (o := .cells #[.slice A0_0 l0_0.length c0_0, .slice A0_1 l0_1.length c0_1] 31 (0, 0)) (by (with_reducible repeat (first | refine blk_drewN ?_ _ | refine blk_drew ?_ | refine blk_alloc ?_ _)); exact BK725.out) hg (Kd.R_ne HO734.out BK725.out (by decide))); have n2_ := Aside0.mk (hb); have n3_ := Aside0.mk ((show Kd.C k43 w37 A35 y735.length y735 from by rw [Ny735.out, KA35.out]; exact Kd.C_mid (lo := ((ji22) : Int).toNat) (hi := ((wrap64 ((ji22) + (l0_0.length : Int))) : Int).toNat) (c := co36) ((Kd.R_reads' (Kd.R_after (ok := (fun _ => True)) (by (with_reducible repeat (first | apply Kd.R_alloc | apply Kd.R_drewN | apply Kd.R_drew)); exact HO_11.out) hg hat)).2.2) KM35.out KL35.out ((Kd.R_reads' (Kd.R_after (ok := (fun _ => True)) (by (with_reducible repeat (first | apply Kd.R_alloc | apply Kd.R_drewN | apply Kd.R_drew)); exact HO_11.out) hg hat)).2.1))); have n4_ := Aside0.mk (ho); clear HO_11; clear BK725; clear HB; clear HR738; clear HO734; have HO_11 := n0_; have BK725 := n1_; have HB := n2_; have HR738 := n3_; have HO741 := n4_; clear n0_ n1_ n2_ n3_ n4_; clear ho hb hg hat; obtain ⟨Ao38, co38, eo38⟩ := Kd.R_slice HO741.out; subst eo38) | (go_at_call 55; (with_reducible refine (secret_Curve.calls _ _ y739 t742 t743 _ ?side1 ?side2 A27.out).mono ?_); (case side1 => repeat (first | exact (Kd.R_reads' HO741.out).2.2 | (with_reducible refine Kd.C_alloc ?_ _) | (with_reducible refine Kd.C_drewN ?_ _) | (with_reducible refine Kd.C_drew ?_))); (case side2 => exact (Kd.R_reads' HO741.out).2.1); rintro e w39 ⟨v744, rfl, ho0, hb⟩; have n0_ := Aside0.mk (Kd.R_below (by (with_reducible repeat (first | apply Kd.R_alloc | apply Kd.R_drewN | apply Kd.R_drew)); exact HO_11.out) hb); have n1_ := Aside0.mk (Kd.R_below (by (with_reducible repeat (first | apply Kd.R_alloc | apply Kd.R_drewN | apply Kd.R_drew)); exact HO741.out) hb); have n2_ := Aside0.mk (Kd.R_lower ho0 (below_size (by repeat (first | (with_reducible first | exact HB.out | apply below_alloc | apply pw_below_drewN | apply below_drew1 | refine below_set ?_ GE725.out) | exact HB.out)))); have n3_ := Aside0.mk (blk_below (g := gb725) (o := .cells #[.slice A0_0 l0_0.length c0_0, .slice A0_1 l0_1.length c0_1] 31 (0, 0)) (by (with_reducible repeat (first | refine blk_drewN ?_ _ | refine blk_drew ?_ | refine blk_alloc ?_ _)); exact BK725.out) hb); have n4_ := Aside0.mk (Kd.C_below (by repeat (first | (with_reducible exact HR738.out) | (with_reducible refine Kd.C_alloc ?_ _) | (with_reducible refine Kd.C_drewN ?_ _) | (with_reducible refine Kd.C_drew ?_) | exact HR738.out)) hb); have n5_ := Aside0.mk (below_step (by repeat (first | (with_reducible first | exact HB.out | apply below_alloc | apply pw_below_drewN | apply below_drew1 | refine below_set ?_ GE725.out) | exact HB.out)) hb); clear HO_11; clear HO741; clear BK725; clear HR738; clear HB; have HO_11 := n0_; have HO741 := n1_; have HO745 := n2_; have BK725 := n3_; have HR738 := n4_; have HB := n5_; clear n0_ n1_ n2_ n3_ n4_ n5_; (try clear hb); (try clear hb2); (try clear hk); (try clear hi); (try clear ho0)) | ((with_reducible refine gate_dst (N := 106) rfl ?_); (try (refine gate_guard (by rfl) ?_; dsimp only)); refine Kd.R_lit k43 _ 43 ?hg (N := 106) ?hd (xs := ([] : List (S43))) (inner := []) (ok := fun _ => True) (okp := fun _ => True) ?hr ?hp (fun _ hk => hk) trivial (Below.refl _ _) (Nat.le_refl _) (by simp) ?_; (case hd => rfl); (case hg => rfl); (case hr => first | (go_simp; done) | (go_simp; rfl)); (case hp => exact (Reps.none _ _)); intro v747 w40 ho41 hb hg_ hnew_; clear hg_ hnew_; (first | rw [← Ny746.out] at ho41 | (simp only [Int.reduceToNat] at ho41; rw [← Ny746.out] at ho41)); have n0_ := Aside0.mk (Kd.R_elder' (by (with_reducible repeat (first | apply Kd.R_alloc | apply Kd.R_drewN | apply Kd.R_drew)); exact HO_11.out) (Kd.R_base ho41) hb); have n1_ := Aside0.mk (Kd.R_elder' (by (with_reducible repeat (first | apply Kd.R_alloc | apply Kd.R_drewN | apply Kd.R_drew)); exact HO741.out) (Kd.R_base ho41) hb); have n2_ := Aside0.mk (Kd.R_below (by (with_reducible repeat (first | apply Kd.R_alloc | apply Kd.R_drewN | apply Kd.R_drew)); exact HO745.out) hb); have n3_ := Aside0.mk (Kd.R_lower (Kd.R_new' (Kd.R_new' ho41 (Kd.R_lt (by (with_reducible repeat (first | apply Kd.R_alloc | apply Kd.R_drewN | apply Kd.R_drew)); exact HO_11.out))) (Kd.R_lt (by (with_reducible repeat (first | apply Kd.R_alloc | apply Kd.R_drewN | apply Kd.R_drew)); exact HO741.out))) (below_size (by repeat (first | (with_reducible first | exact HB.out | apply below_alloc | apply pw_below_drewN | apply below_drew1 | refine below_set ?_ GE725.out) | exact HB.out)))); have n4_ := Aside0.mk (blk_below (g := gb725) (o := .cells #[.slice A0_0 l0_0.length c0_0, .slice A0_1 l0_1.length c0_1] 31 (0, 0)) (by (with_reducible repeat (first | refine blk_drewN ?_ _ | refine blk_drew ?_ | refine blk_alloc ?_ _)); exact BK725.out) hb); have n5_ := Aside0.mk (Kd.C_below (by repeat (first | (with_reducible exact HR738.out) | (with_reducible refine Kd.C_alloc ?_ _) | (with_reducible refine Kd.C_drewN ?_ _) | (with_reducible refine Kd.C_drew ?_) | exact HR738.out)) hb); have n6_ := Aside0.mk (below_step (by repeat (first | (with_reducible first | exact HB.out | apply below_alloc | apply pw_below_drewN | apply below_drew1 | refine below_set ?_ GE725.out) | exact HB.out)) hb); clear HO_11; clear HO741; clear HO745; clear BK725; clear HR738; clear HB; have HO_11 := n0_; have HO741 := n1_; have HO745 := n2_; have HO748 := n3_; have BK725 := n4_; have HR738 := n5_; have HB := n6_; clear n0_ n1_ n2_ n3_ n4_ n5_ n6_; clear hb ho41; have q42 : (1 : Int) ≤ ((y739.length : Int) : Int) := of_decide_eq_true (by first | (with_reducible assumption) | assumption); obtain ⟨i042, hi042, _, hsz42, _⟩ := info_parts info43; have hroom42 : y739.length ≤ co38 := (Kd.R_reads' HO741.out).2.1; have hC42 : Kd.C k43 _ Ao38 y739.length y739 := (Kd.R_reads' HO741.out).2.2; have hcut42 := cut_from (P := Try.prog) 22 43 .i64 Try.underlying22 hi042 2 hsz42 Ao38 y739.length co38 1 (by omega) q42; have hr42 := Kd.C_drop (m := (1 : Int).toNat) (c := co38) hC42 (by omega) hroom42; obtain ⟨A42, hA42⟩ : ∃ A1, A1 = (if co38 = (1 : Int).toNat then Ao38 else (Ao38 : Option Addr).map (·.add ((1 : Int).toNat * 2))) := ⟨_, rfl⟩; obtain ⟨c42, hc42⟩ : ∃ c1, c1 = co38 - (1 : Int).toNat := ⟨_, rfl⟩; have hy42 : y749.length = y739.length - (1 : Int).toNat := (by rw [Ny749.out, List.length_drop] <;> omega); rw [show (y739).drop (1 : Int).toNat = y749 from Ny749.out.symm] at hr42; replace hr42 : Kd.C k43 _ A42 y749.length y749 := (by rw [hA42]; exact hr42); rw [← hy42, ← hA42, ← hc42] at hcut42; have HR752 := Aside0.mk hr42; have HC752 := Aside0.mk (show y749.length ≤ c42 from by rw [hy42, hc42]; exact Nat.sub_le_sub_right hroom42 _); clear hr42 hC42 hroom42 hi042 hsz42 hc42; have KY42 := Aside0.mk hy42; have KA42 := Aside0.mk hA42; clear hy42 hA42; have KL42 := Aside0.mk (show 1 ≤ y739.length from by omega); replace q42 := eq_true q42) | ((with_reducible refine gate_builtin (b := .append) (xs := #[.tmp 106, .tmp 108]) rfl ?_); (try (refine gate_guard (by rfl) ?_; dsimp only)); at_builtin; refine Kd.R_append_rows k43 (w0 := w) w.heap.size rfl (.tmp 106) (.tmp 108) 22 43 (.agg #[(.int .i64 0), (.int .i64 0)]) 16 rfl Try.underlying22 info43 rfl (by decide) (by omega) v747 y746 y749 _ _ _ (fun k_ => some k_ ≠ (.slice Ao36 t728.length co36 : Value).ownBlock ∧ some k_ ≠ (.slice Ao38 y739.length co38 : Value).ownBlock) (fun _ => False) rfl rfl ?aO ?aR (fun _ _ h => h) (fun _ h => h.elim) ?aF ?aB ?aS ?aL ?_; (case aR => repeat (first | exact (by repeat (first | (with_reducible exact HR752.out) | (with_reducible refine Kd.C_alloc ?_ _) | (with_reducible refine Kd.C_drewN ?_ _) | (with_reducible refine Kd.C_drew ?_) | exact HR752.out)) | (with_reducible refine Kd.C_alloc ?_ _) | (with_reducible refine Kd.C_drewN ?_ _) | (with_reducible refine Kd.C_drew ?_))); (case aB => exact (by repeat (first | (with_reducible first | exact HB.out | apply below_alloc | apply pw_below_drewN | apply below_drew1 | refine below_set ?_ GE725.out) | exact HB.out))); (case aF => exact (fun k_ hk => ⟨Kd.fresh' (Kd.R_lt (by (with_reducible repeat (first | apply Kd.R_alloc | apply Kd.R_drewN | apply Kd.R_drew)); exact HO_11.out)) k_ hk, Kd.fresh' (Kd.R_lt (by (with_reducible repeat (first | apply Kd.R_alloc | apply Kd.R_drewN | apply Kd.R_drew)); exact HO741.out)) k_ hk⟩)); (case aO => exact (by (with_reducible repeat (first | apply Kd.R_alloc | apply Kd.R_drewN | apply Kd.R_drew)); exact Kd.R_mono HO748.out (fun _ hk => ⟨hk.1.2, hk.2⟩))); (case aS => exact (below_size (by repeat (first | (with_reducible first | exact HB.out | apply below_alloc | apply pw_below_drewN | apply below_drew1 | refine below_set ?_ GE725.out) | exact HB.out)))); (case aL => have := LMc29.out; omega); intro v754 w43 ho hb hg hat; rw [← Ny753.out] at ho; have n0_ := Aside0.mk (Kd.R_after (ok := (fun k_ => some k_ ≠ (.slice Ao38 y739.length co38 : Value).ownBlock)) (by (with_reducible repeat (first | apply Kd.R_alloc | apply Kd.R_drewN | apply Kd.R_drew)); exact Kd.R_mono HO_11.out (fun _ hk => ⟨hk.1.2, hk.2⟩)) hg hat); have n1_ := Aside0.mk (blk_grown (g := gb725) (o := .cells #[.slice A0_0 l0_0.length c0_0, .slice A0_1 l0_1.length c0_1] 31 (0, 0)) (by (with_reducible repeat (first | refine blk_drewN ?_ _ | refine blk_drew ?_ | refine blk_alloc ?_ _)); exact BK725.out) hg (Kd.R_ne HO748.out BK725.out (by decide))); have n2_ := Aside0.mk (Kd.R_after (ok := (fun k_ => some k_ ≠ (.slice Ao36 t728.length co36 : Value).ownBlock)) (by (with_reducible repeat (first | apply Kd.R_alloc | apply Kd.R_drewN | apply Kd.R_drew)); exact HO741.out) hg hat); have n3_ := Aside0.mk (Kd.R_over' (by (with_reducible repeat (first | apply Kd.R_alloc | apply Kd.R_drewN | apply Kd.R_drew)); exact HO745.out) (Kd.R_typed (by (with_reducible repeat (first | apply Kd.R_alloc | apply Kd.R_drewN | apply Kd.R_drew)); exact HO748.out)) (by decide) hg); have n4_ := Aside0.mk (hb); have n5_ := Aside0.mk ((show Kd.C k43 w43 A35 y735.length y735 from by rw [Ny735.out, KA35.out]; exact Kd.C_mid (lo := ((ji22) : Int).toNat) (hi := ((wrap64 ((ji22) + (l0_0.length : Int))) : Int).toNat) (c := co36) ((Kd.R_reads' (Kd.R_after (ok := (fun k_ => some k_ ≠ (.slice Ao38 y739.length co38 : Value).ownBlock)) (by (with_reducible repeat (first | apply Kd.R_alloc | apply Kd.R_drewN | apply Kd.R_drew)); exact Kd.R_mono HO_11.out (fun _ hk => ⟨hk.1.2, hk.2⟩)) hg hat)).2.2) KM35.out KL35.out ((Kd.R_reads' (Kd.R_after (ok := (fun k_ => some k_ ≠ (.slice Ao38 y739.length co38 : Value).ownBlock)) (by (with_reducible repeat (first | apply Kd.R_alloc | apply Kd.R_drewN | apply Kd.R_drew)); exact Kd.R_mono HO_11.out (fun _ hk => ⟨hk.1.2, hk.2⟩)) hg hat)).2.1))); have n6_ := Aside0.mk ((show Kd.C k43 w43 A42 y749.length y749 from by rw [Ny749.out, KA42.out]; exact Kd.C_drop (m := 1) (c := co38) ((Kd.R_reads' (Kd.R_after (ok := (fun k_ => some k_ ≠ (.slice Ao36 t728.length co36 : Value).ownBlock)) (by (with_reducible repeat (first | apply Kd.R_alloc | apply Kd.R_drewN | apply Kd.R_drew)); exact HO741.out) hg hat)).2.2) KL42.out ((Kd.R_reads' (Kd.R_after (ok := (fun k_ => some k_ ≠ (.slice Ao36 t728.length co36 : Value).ownBlock)) (by (with_reducible repeat (first | apply Kd.R_alloc | apply Kd.R_drewN | apply Kd.R_drew)); exact HO741.out) hg hat)).2.1))); have n7_ := Aside0.mk (ho); clear HO_11; clear BK725; clear HO741; clear HO745; clear HB; clear HR738; clear HR752; clear HO748; have HO_11 := n0_; have BK725 := n1_; have HO741 := n2_; have HO745 := n3_; have HB := n4_; have HR738 := n5_; have HR752 := n6_; have HO755 := n7_; clear n0_ n1_ n2_ n3_ n4_ n5_ n6_ n7_; clear ho hb hg hat; obtain ⟨Ao44, co44, eo44⟩ := Kd.R_slice HO755.out; subst eo44) | (go_at_call 42; (with_reducible refine (secret_Complete.calls _ _ y753 (wrap64 (Int.tmod (IntKind.u64.wrap (a2)) 251)) t756 t757 _ ?side1 ?side2 A30.out).mono ?_); (case side1 => repeat (first | exact (Kd.R_reads' HO755.out).2.2 | (with_reducible refine Kd.C_alloc ?_ _) | (with_reducible refine Kd.C_drewN ?_ _) | (with_reducible refine Kd.C_drew ?_))); (case side2 => exact (Kd.R_reads' HO755.out).2.1); rintro e w45 ⟨v758, rfl, ho0, hb⟩; have n0_ := Aside0.mk (Kd.R_below (by (with_reducible repeat (first | apply Kd.R_alloc | apply Kd.R_drewN | apply Kd.R_drew)); exact HO_11.out) hb); have n1_ := Aside0.mk (Kd.R_below (by (with_reducible repeat (first | apply Kd.R_alloc | apply Kd.R_drewN | apply Kd.R_drew)); exact HO741.out) hb); have n2_ := Aside0.mk (Kd.R_elder' (by (with_reducible repeat (first | apply Kd.R_alloc | apply Kd.R_drewN | apply Kd.R_drew)); exact HO745.out) (Kd.R_base ho0) hb); have n3_ := Aside0.mk (Kd.R_below (by (with_reducible repeat (first | apply Kd.R_alloc | apply Kd.R_drewN | apply Kd.R_drew)); exact HO755.out) hb); have n4_ := Aside0.mk (Kd.R_lower (Kd.R_new' ho0 (Kd.R_lt (by (with_reducible repeat (first | apply Kd.R_alloc | apply Kd.R_drewN | apply Kd.R_drew)); exact HO745.out))) (below_size (by repeat (first | (with_reducible first | exact HB.out | apply below_alloc | apply pw_below_drewN | apply below_drew1 | refine below_set ?_ GE725.out) | exact HB.out)))); have n5_ := Aside0.mk (blk_below (g := gb725) (o := .cells #[.slice A0_0 l0_0.length c0_0, .slice A0_1 l0_1.length c0_1] 31 (0, 0)) (by (with_reducible repeat (first | refine blk_drewN ?_ _ | refine blk_drew ?_ | refine blk_alloc ?_ _)); exact BK725.out) hb); have n6_ := Aside0.mk (Kd.C_below (by repeat (first | (with_reducible exact HR738.out) | (with_reducible refine Kd.C_alloc ?_ _) | (with_reducible refine Kd.C_drewN ?_ _) | (with_reducible refine Kd.C_drew ?_) | exact HR738.out)) hb); have n7_ := Aside0.mk (Kd.C_below (by repeat (first | (with_reducible exact HR752.out) | (with_reducible refine Kd.C_alloc ?_ _) | (with_reducible refine Kd.C_drewN ?_ _) | (with_reducible refine Kd.C_drew ?_) | exact HR752.out)) hb); have n8_ := Aside0.mk (below_step (by repeat (first | (with_reducible first | exact HB.out | apply below_alloc | apply pw_below_drewN | apply below_drew1 | refine below_set ?_ GE725.out) | exact HB.out)) hb); clear HO_11; clear HO741; clear HO745; clear HO755; clear BK725; clear HR738; clear HR752; clear HB; have HO_11 := n0_; have HO741 := n1_; have HO745 := n2_; have HO755 := n3_; have HO759 := n4_; have BK725 := n5_; have HR738 := n6_; have HR752 := n7_; have HB := n8_; clear n0_ n1_ n2_ n3_ n4_ n5_ n6_ n7_ n8_; (try clear hb); (try clear hb2); (try clear hk); (try clear hi); (try clear ho0)) | (go_at_call 53; (with_reducible refine (secret_LieOn.calls _ _ t728 (l0_0.length : Int) t760 t761 _ ?side1 ?side2 A31.out).mono ?_); (case side1 => repeat (first | exact (Kd.R_reads' HO_11.out).2.2 | (with_reducible refine Kd.C_alloc ?_ _) | (with_reducible refine Kd.C_drewN ?_ _) | (with_reducible refine Kd.C_drew ?_))); (case side2 => exact (Kd.R_reads' HO_11.out).2.1); rintro e w46 ⟨rfl, hb⟩; have n0_ := Aside0.mk (Kd.R_below (by (with_reducible repeat (first | apply Kd.R_alloc | apply Kd.R_drewN | apply Kd.R_drew)); exact HO_11.out) hb); have n1_ := Aside0.mk (Kd.R_below (by (with_reducible repeat (first | apply Kd.R_alloc | apply Kd.R_drewN | apply Kd.R_drew)); exact HO741.out) hb); have n2_ := Aside0.mk (Kd.R_below (by (with_reducible repeat (first | apply Kd.R_alloc | apply Kd.R_drewN | apply Kd.R_drew)); exact HO745.out) hb); have n3_ := Aside0.mk (Kd.R_below (by (with_reducible repeat (first | apply Kd.R_alloc | apply Kd.R_drewN | apply Kd.R_drew)); exact HO755.out) hb); have n4_ := Aside0.mk (Kd.R_below (by (with_reducible repeat (first | apply Kd.R_alloc | apply Kd.R_drewN | apply Kd.R_drew)); exact HO759.out) hb); have n5_ := Aside0.mk (blk_below (g := gb725) (o := .cells #[.slice A0_0 l0_0.length c0_0, .slice A0_1 l0_1.length c0_1] 31 (0, 0)) (by (with_reducible repeat (first | refine blk_drewN ?_ _ | refine blk_drew ?_ | refine blk_alloc ?_ _)); exact BK725.out) hb); have n6_ := Aside0.mk (Kd.C_below (by repeat (first | (with_reducible exact HR738.out) | (with_reducible refine Kd.C_alloc ?_ _) | (with_reducible refine Kd.C_drewN ?_ _) | (with_reducible refine Kd.C_drew ?_) | exact HR738.out)) hb); have n7_ := Aside0.mk (Kd.C_below (by repeat (first | (with_reducible exact HR752.out) | (with_reducible refine Kd.C_alloc ?_ _) | (with_reducible refine Kd.C_drewN ?_ _) | (with_reducible refine Kd.C_drew ?_) | exact HR752.out)) hb); have n8_ := Aside0.mk (below_step (by repeat (first | (with_reducible first | exact HB.out | apply below_alloc | apply pw_below_drewN | apply below_drew1 | refine below_set ?_ GE725.out) | exact HB.out)) hb); clear HO_11; clear HO741; clear HO745; clear HO755; clear HO759; clear BK725; clear HR738; clear HR752; clear HB; have HO_11 := n0_; have HO741 := n1_; have HO745 := n2_; have HO755 := n3_; have HO759 := n4_; have BK725 := n5_; have HR738 := n6_; have HR752 := n7_; have HB := n8_; clear n0_ n1_ n2_ n3_ n4_ n5_ n6_ n7_ n8_; (try clear hb); (try clear hb2); (try clear hk); (try clear hi))); try go_quiet (fail))
                  (try simp only [Act.put, List.setIfInBounds_toArray, List.set_cons_zero, List.set_cons_succ])
                  go_cut [156] (fun v156 wc => ∃ (kq : Nat) (x156_31 : Bool), v156 = .bool x156_31 ∧ Aside0 (verditertop_topSecrets.j3 kq l0_0 l0_1 t728 ji22 y739 y753 t756 x156_31 = some r) ∧ Aside0 (kq ≤ kj14) ∧ Aside0 (Kd.R k43 43 wc w.heap.size (fun k_ => some k_ ≠ ((.slice Ao38 y739.length co38) : Value).ownBlock ∧ some k_ ≠ ((.slice Ao44 y753.length co44) : Value).ownBlock) (.slice Ao36 t728.length co36) t728) ∧ Aside0 (Kd.R k43 43 wc w.heap.size (fun k_ => some k_ ≠ ((.slice Ao36 t728.length co36) : Value).ownBlock ∧ some k_ ≠ ((.slice Ao44 y753.length co44) : Value).ownBlock) (.slice Ao38 y739.length co38) y739) ∧ Aside0 (Kd.R k43 43 wc w.heap.size (fun k_ => some k_ ≠ ((.slice Ao36 t728.length co36) : Value).ownBlock ∧ some k_ ≠ ((.slice Ao38 y739.length co38) : Value).ownBlock) (.slice Ao44 y753.length co44) y753) ∧ Aside0 (Kd.R (Kd.int .i64) 3 wc w.heap.size (fun _ => True) v758 t756) ∧ Aside0 (wc.heap[gb725]? = some (.cells #[(.slice A0_0 l0_0.length c0_0), (.slice A0_1 l0_1.length c0_1)] 31 (0, 0))) ∧ Aside0 (Below w.heap.size w wc))
                  case first =>
                   as_aux_lemma =>
                   have H := HC32.out
                   clear HC32
                   by_cases c47 : t743 = 0
                   ·rw [if_pos c47] at H
                    have c47b0 : (t743 == 0) = true := beq_iff_eq.mpr c47
                    have c47b1 : (t743 != 0) = false := bne_eq_false_iff_eq.mpr c47
                    clear c47
                    (first | rw [c47b0] | (simp only [i64_w, i32_w]; rw [c47b0]) | skip)
                    replace H := Option.bind_eq_some_iff.mp H
                    obtain ⟨t762, A480, H⟩ := H
                    replace H : (if t762 = true then (if t757 = 0 then (if (t756.length : Int) = (l0_0.length : Int) then (if 0 < (t756.length : Int) then (if (rd t756 0) = (wrap64 (Int.tmod (IntKind.u64.wrap (a2)) 251)) then (if t761 = 0 then (verditertop_topSecrets.j3 kj14 l0_0 l0_1 t728 ji22 y739 y753 t756 (!t760)) else (verditertop_topSecrets.j3 kj14 l0_0 l0_1 t728 ji22 y739 y753 t756 true)) else (verditertop_topSecrets.j3 kj14 l0_0 l0_1 t728 ji22 y739 y753 t756 true)) else (none)) else (verditertop_topSecrets.j3 kj14 l0_0 l0_1 t728 ji22 y739 y753 t756 true)) else (verditertop_topSecrets.j3 kj14 l0_0 l0_1 t728 ji22 y739 y753 t756 true)) else (verditertop_topSecrets.j3 kj14 l0_0 l0_1 t728 ji22 y739 y753 t756 true)) = some r := H
                    have A48 := Aside0.mk A480
                    clear A480
                    by_cases c49 : t762 = true
                    ·subst c49
                     have H1 : (if t757 = 0 then (if (t756.length : Int) = (l0_0.length : Int) then (if 0 < (t756.length : Int) then (if (rd t756 0) = (wrap64 (Int.tmod (IntKind.u64.wrap (a2)) 251)) then (if t761 = 0 then (verditertop_topSecrets.j3 kj14 l0_0 l0_1 t728 ji22 y739 y753 t756 (!t760)) else (verditertop_topSecrets.j3 kj14 l0_0 l0_1 t728 ji22 y739 y753 t756 true)) else (verditertop_topSecrets.j3 kj14 l0_0 l0_1 t728 ji22 y739 y753 t756 true)) else (none)) else (verditertop_topSecrets.j3 kj14 l0_0 l0_1 t728 ji22 y739 y753 t756 true)) else (verditertop_topSecrets.j3 kj14 l0_0 l0_1 t728 ji22 y739 y753 t756 true)) = some r := by rw [if_pos rfl] at H; exact H
                     clear H
                     have H := H1
                     clear H1
                     by_cases c50 : t757 = 0
                     ·rw [if_pos c50] at H
                      have c50b0 : (t757 == 0) = true := beq_iff_eq.mpr c50
                      have c50b1 : (t757 != 0) = false := bne_eq_false_iff_eq.mpr c50
                      clear c50
                      by_cases c51 : (t756.length : Int) = (l0_0.length : Int)
                      ·rw [if_pos c51] at H
                       have c51b0 : ((t756.length : Int) == (l0_0.length : Int)) = true := beq_iff_eq.mpr c51
                       have c51b1 : ((t756.length : Int) != (l0_0.length : Int)) = false := bne_eq_false_iff_eq.mpr c51
                       have c51b2 : (t756.length == l0_0.length) = true := by first | simpa using c51 | (simp at c51 ⊢; omega)
                       clear c51
                       by_cases c52 : 0 < (t756.length : Int)
                       ·rw [if_pos c52] at H
                        have c52b0 : decide (0 < (t756.length : Int)) = true := decide_eq_true c52
                        have c52b1 : decide (0 < t756.length) = true := decide_eq_true (by omega)
                        clear c52
                        by_cases c53 : (rd t756 0) = (wrap64 (Int.tmod (IntKind.u64.wrap (a2)) 251))
                        ·rw [if_pos c53] at H
                         have c53b0 : ((rd t756 0) == (wrap64 (Int.tmod (IntKind.u64.wrap (a2)) 251))) = true := beq_iff_eq.mpr c53
                         have c53b1 : ((rd t756 0) != (wrap64 (Int.tmod (IntKind.u64.wrap (a2)) 251))) = false := bne_eq_false_iff_eq.mpr c53
                         clear c53
                         by_cases c54 : t761 = 0
                         ·rw [if_pos c54] at H
                          have c54b0 : (t761 == 0) = true := beq_iff_eq.mpr c54
                          have c54b1 : (t761 != 0) = false := bne_eq_false_iff_eq.mpr c54
                          clear c54
                          have H' := Aside0.mk H
                          clear H
                          obtain ⟨Ao55, co55, eo55⟩ := Kd.R_slice HO745.out
                          subst eo55
                          go_wp2_with (first | (go_at_call 43; (with_reducible refine (verditerref08_SameInts.calls kj14 _ _ t742 _ _ l0_0 true _ ?side1 ?side2 ?side3 ?side4 A48.out).mono ?_); (case side1 => repeat (first | exact (Kd.R_reads' HO745.out).2.2 | (with_reducible refine Kd.C_alloc ?_ _) | (with_reducible refine Kd.C_drewN ?_ _) | (with_reducible refine Kd.C_drew ?_))); (case side2 => exact (Kd.R_reads' HO745.out).2.1); (case side3 => repeat (first | exact (Kd.C_below HR0_0.out HB.out) | (with_reducible refine Kd.C_alloc ?_ _) | (with_reducible refine Kd.C_drewN ?_ _) | (with_reducible refine Kd.C_drew ?_))); (case side4 => exact HC0_0.out); rintro e w' ⟨rfl, ⟨nd, rfl⟩⟩; (try first | exact ⟨rfl, _, World.drewN_drewN _ _ _⟩ | exact ⟨rfl, _, Eq.trans (World.drewN_drewN _ _ _) (congrArg (World.drewN _) (Nat.add_assoc _ _ _))⟩); obtain ⟨Ao56, co56, eo56⟩ := Kd.R_slice HO759.out; subst eo56; have p763 : 0 ≤ (0 : Int) := (by omega); have q763 : 0 < (t756.length : Int) := of_decide_eq_true (by first | (with_reducible assumption) | assumption); obtain ⟨ad763, e763, hx763_0⟩ := Kd.at_int (Kd.R_reads' HO759.out).2.2 0 p763 q763; cases e763; have qi763 : (0 < t756.length) = True := eq_true (by omega); (try rw [show ((0 : Int)).toNat = 0 from rfl] at hx763_0); (try rw [Addr.add_zero'] at hx763_0); replace p763 := eq_true p763; replace q763 := eq_true q763))
                          repeat (go_quiet (fail); try go_wp2)
                          go_meet
                          case rel => exact ⟨_, (!t760), (by first | rfl | (simp; done) | (simp [*]; done)), H', ⟨by have := HJ4.out; have := HJ9.out; have := HJ14.out; first | omega | exact Nat.le_refl _⟩, ⟨by (with_reducible repeat (first | apply Kd.R_alloc | apply Kd.R_drewN | apply Kd.R_drew)); exact HO_11.out⟩, ⟨by (with_reducible repeat (first | apply Kd.R_alloc | apply Kd.R_drewN | apply Kd.R_drew)); exact HO741.out⟩, ⟨by (with_reducible repeat (first | apply Kd.R_alloc | apply Kd.R_drewN | apply Kd.R_drew)); exact HO755.out⟩, ⟨by (with_reducible repeat (first | apply Kd.R_alloc | apply Kd.R_drewN | apply Kd.R_drew)); exact Kd.R_mono HO759.out (fun _ hk => trivial)⟩, ⟨by (with_reducible repeat (first | refine blk_drewN ?_ _ | refine blk_drew ?_ | refine blk_alloc ?_ _)); exact BK725.out⟩, ⟨by repeat (first | (with_reducible first | exact HB.out | apply below_alloc | apply pw_below_drewN | apply below_drew1 | refine below_set ?_ GE725.out) | exact HB.out)⟩⟩
                         ·rw [if_neg c54] at H
                          have c54b0 : (t761 == 0) = false := beq_eq_false_iff_ne.mpr c54
                          have c54b1 : (t761 != 0) = true := bne_iff_ne.mpr c54
                          exact absurd (show r = false by first | exact no_j0 H | exact no_j2 H | exact no_j3 H | exact no_j7 H | exact no_j10 H | exact no_j11 H) (by rw [HRT.out]; decide)
                        ·rw [if_neg c53] at H
                         have c53b0 : ((rd t756 0) == (wrap64 (Int.tmod (IntKind.u64.wrap (a2)) 251))) = false := beq_eq_false_iff_ne.mpr c53
                         have c53b1 : ((rd t756 0) != (wrap64 (Int.tmod (IntKind.u64.wrap (a2)) 251))) = true := bne_iff_ne.mpr c53
                         exact absurd (show r = false by first | exact no_j0 H | exact no_j2 H | exact no_j3 H | exact no_j7 H | exact no_j10 H | exact no_j11 H) (by rw [HRT.out]; decide)
                       ·rw [if_neg c52] at H
                        exact absurd H (by simp)
                      ·rw [if_neg c51] at H
                       have c51b0 : ((t756.length : Int) == (l0_0.length : Int)) = false := beq_eq_false_iff_ne.mpr c51
                       have c51b1 : ((t756.length : Int) != (l0_0.length : Int)) = true := bne_iff_ne.mpr c51
                       have c51b2 : (t756.length == l0_0.length) = false := by first | simpa using c51 | (simp at c51 ⊢; omega)
                       exact absurd (show r = false by first | exact no_j0 H | exact no_j2 H | exact no_j3 H | exact no_j7 H | exact no_j10 H | exact no_j11 H) (by rw [HRT.out]; decide)
                     ·rw [if_neg c50] at H
                      have c50b0 : (t757 == 0) = false := beq_eq_false_iff_ne.mpr c50
                      have c50b1 : (t757 != 0) = true := bne_iff_ne.mpr c50
                      exact absurd (show r = false by first | exact no_j0 H | exact no_j2 H | exact no_j3 H | exact no_j7 H | exact no_j10 H | exact no_j11 H) (by rw [HRT.out]; decide)
                    ·replace c49 := Bool.eq_false_iff.mpr c49
                     subst c49
                     have H1 : (verditertop_topSecrets.j3 kj14 l0_0 l0_1 t728 ji22 y739 y753 t756 true) = some r := by rw [if_neg (show ¬ (false = true) by decide)] at H; exact H
                     clear H
                     have H := H1
                     clear H1
                     exact absurd (show r = false by first | exact no_j0 H | exact no_j2 H | exact no_j3 H | exact no_j7 H | exact no_j10 H | exact no_j11 H) (by rw [HRT.out]; decide)
                   ·rw [if_neg c47] at H
                    have c47b0 : (t743 == 0) = false := beq_eq_false_iff_ne.mpr c47
                    have c47b1 : (t743 != 0) = true := bne_iff_ne.mpr c47
                    (first | rw [c47b0] | (simp only [i64_w, i32_w]; rw [c47b0]) | skip)
                    exact absurd (show r = false by first | exact no_j0 H | exact no_j2 H | exact no_j3 H | exact no_j7 H | exact no_j10 H | exact no_j11 H) (by rw [HRT.out]; decide)
                  case rest =>
                   as_aux_lemma =>
                   clear HC32 c21 c21b0 c21b1 c23b0 c23b1 c24 c24b0 c24b1 c25 c25b0 c25b1 c28b0 c28b1 q35 q42 q035
                   obtain ⟨kq, x156_31, rfl, HA, HJ31, HO_11, HO_14, HO_16, HO_17, BK725, HB⟩ := hcut
                   cases kq with
                   | zero => exact absurd HA.out (by simp [verditertop_topSecrets.j3])
                   | succ kj31 =>
                    have H := HA.out
                    clear HA
                    simp only [verditertop_topSecrets.j3] at H
                    by_cases c65 : x156_31 = true
                    ·subst c65
                     have H1 : (some false) = some r := by rw [if_pos rfl] at H; exact H
                     clear H
                     have H := H1
                     clear H1
                     exact absurd (Option.some.inj H) (by rw [HRT.out]; decide)
                    ·replace c65 := Bool.eq_false_iff.mpr c65
                     subst c65
                     have H1 : (verditertop_topSecrets.l0 kj31 l0_0 l0_1 t728 ji22 y739 y753 t756 0) = some r := by rw [if_neg (show ¬ (false = true) by decide)] at H; exact H
                     clear H
                     have H := H1
                     clear H1
                     have H' := Aside0.mk H
                     clear H
                     go_wp2
                     repeat (go_quiet (fail); try go_wp2)
                     go_loopg [21] kj31 (fun kq v21 w' => ∃ (x21_5 : Int), v21 = .int .i64 x21_5 ∧ Aside0 (verditertop_topSecrets.l0 kq l0_0 l0_1 t728 ji22 y739 y753 t756 x21_5 = some r) ∧ Aside0 (kq ≤ kj31) ∧ Aside0 (Kd.R k43 43 w' w.heap.size (fun k_ => some k_ ≠ ((.slice Ao38 y739.length co38) : Value).ownBlock ∧ some k_ ≠ ((.slice Ao44 y753.length co44) : Value).ownBlock) (.slice Ao36 t728.length co36) t728) ∧ Aside0 (Kd.R k43 43 w' w.heap.size (fun k_ => some k_ ≠ ((.slice Ao36 t728.length co36) : Value).ownBlock ∧ some k_ ≠ ((.slice Ao44 y753.length co44) : Value).ownBlock) (.slice Ao38 y739.length co38) y739) ∧ Aside0 (Kd.R k43 43 w' w.heap.size (fun k_ => some k_ ≠ ((.slice Ao36 t728.length co36) : Value).ownBlock ∧ some k_ ≠ ((.slice Ao38 y739.length co38) : Value).ownBlock) (.slice Ao44 y753.length co44) y753) ∧ Aside0 (Kd.R (Kd.int .i64) 3 w' w.heap.size (fun _ => True) v758 t756) ∧ Aside0 (w'.heap[gb725]? = some (.cells #[(.slice A0_0 l0_0.length c0_0), (.slice A0_1 l0_1.length c0_1)] 31 (0, 0))) ∧ Aside0 (Below w.heap.size w w'))
                     case atStart => exact ⟨(0), (by first | rfl | (simp; done) | (simp [*]; done)), H', ⟨Nat.le_refl _⟩, ⟨by (with_reducible repeat (first | apply Kd.R_alloc | apply Kd.R_drewN | apply Kd.R_drew)); exact HO_11.out⟩, ⟨by (with_reducible repeat (first | apply Kd.R_alloc | apply Kd.R_drewN | apply Kd.R_drew)); exact HO_14.out⟩, ⟨by (with_reducible repeat (first | apply Kd.R_alloc | apply Kd.R_drewN | apply Kd.R_drew)); exact HO_16.out⟩, ⟨by (with_reducible repeat (first | apply Kd.R_alloc | apply Kd.R_drewN | apply Kd.R_drew)); exact HO_17.out⟩, ⟨by (with_reducible repeat (first | refine blk_drewN ?_ _ | refine blk_drew ?_ | refine blk_alloc ?_ _)); exact BK725.out⟩, ⟨by repeat (first | (with_reducible first | exact HB.out | apply below_alloc | apply pw_below_drewN | apply below_drew1 | refine below_set ?_ GE725.out) | exact HB.out)⟩⟩
                     case round =>
                      as_aux_lemma =>
                      clear H'
                      obtain ⟨x21_5, rfl, HA, HK5, HO_11, HO_14, HO_16, HO_17, BK725, HB⟩ := hrel
                      cases gk with
                      | zero => exact absurd HA.out (by simp [verditertop_topSecrets.l0])
                      | succ k5 =>
                       have H := HA.out
                       clear HA
                       simp only [verditertop_topSecrets.l0] at H
                       by_cases c66 : x21_5 < (y753.length : Int)
                       ·rw [if_pos c66] at H
                        have c66b0 : decide (x21_5 < (y753.length : Int)) = true := decide_eq_true c66
                        clear c66
                        by_cases c67 : 0 ≤ x21_5
                        ·rw [if_pos c67] at H
                         have c67b0 : decide (0 ≤ x21_5) = true := decide_eq_true c67
                         clear c67
                         replace H := Option.bind_eq_some_iff.mp H
                         obtain ⟨⟨t765, t766⟩, A680, H⟩ := H
                         replace H : (if t766 = 0 then (if t765 = ((rd_T43 y753 x21_5).f1) then (verditertop_topSecrets.l0 k5 l0_0 l0_1 t728 ji22 y739 y753 t756 (wrap64 (x21_5 + 1))) else (some false)) else (some false)) = some r := H
                         have A68 := Aside0.mk A680
                         clear A680
                         by_cases c69 : t766 = 0
                         ·rw [if_pos c69] at H
                          have c69b0 : (t766 == 0) = true := beq_iff_eq.mpr c69
                          have c69b1 : (t766 != 0) = false := bne_eq_false_iff_eq.mpr c69
                          clear c69
                          by_cases c70 : t765 = ((rd_T43 y753 x21_5).f1)
                          ·rw [if_pos c70] at H
                           have c70b0 : (t765 == ((rd_T43 y753 x21_5).f1)) = true := beq_iff_eq.mpr c70
                           have c70b1 : (t765 != ((rd_T43 y753 x21_5).f1)) = false := bne_eq_false_iff_eq.mpr c70
                           clear c70
                           have H' := Aside0.mk H
                           clear H
                           have p764 : 0 ≤ (x21_5 : Int) := of_decide_eq_true (by first | (with_reducible assumption) | assumption)
                           have q764 : x21_5 < (y753.length : Int) := of_decide_eq_true (by first | (with_reducible assumption) | assumption)
                           obtain ⟨ad764, e764, hx764_0, hx764_1⟩ := at_T43 (Kd.R_reads' HO_16.out).2.2 x21_5 p764 q764
                           cases e764
                           replace p764 := eq_true p764
                           replace q764 := eq_true q764
                           obtain ⟨Ao71, co71, eo71⟩ := Kd.R_slice HO_17.out
                           subst eo71
                           go_wp2_with (first | (go_at_call 44; (with_reducible refine (secret_At.calls _ _ t756 ((rd_T43 y753 x21_5).f0) t765 t766 _ ?side1 ?side2 A68.out).mono ?_); (case side1 => repeat (first | exact (Kd.R_reads' HO_17.out).2.2 | (with_reducible refine Kd.C_alloc ?_ _) | (with_reducible refine Kd.C_drewN ?_ _) | (with_reducible refine Kd.C_drew ?_))); (case side2 => exact (Kd.R_reads' HO_17.out).2.1); rintro e w72 ⟨rfl, hb⟩; have n0_ := Aside0.mk (Kd.R_below (by (with_reducible repeat (first | apply Kd.R_alloc | apply Kd.R_drewN | apply Kd.R_drew)); exact HO_11.out) hb); have n1_ := Aside0.mk (Kd.R_below (by (with_reducible repeat (first | apply Kd.R_alloc | apply Kd.R_drewN | apply Kd.R_drew)); exact HO_14.out) hb); have n2_ := Aside0.mk (Kd.R_below (by (with_reducible repeat (first | apply Kd.R_alloc | apply Kd.R_drewN | apply Kd.R_drew)); exact HO_16.out) hb); have n3_ := Aside0.mk (Kd.R_below (by (with_reducible repeat (first | apply Kd.R_alloc | apply Kd.R_drewN | apply Kd.R_drew)); exact HO_17.out) hb); have n4_ := Aside0.mk (blk_below (g := gb725) (o := .cells #[.slice A0_0 l0_0.length c0_0, .slice A0_1 l0_1.length c0_1] 31 (0, 0)) (by (with_reducible repeat (first | refine blk_drewN ?_ _ | refine blk_drew ?_ | refine blk_alloc ?_ _)); exact BK725.out) hb); have n5_ := Aside0.mk (below_step (by repeat (first | (with_reducible first | exact HB.out | apply below_alloc | apply pw_below_drewN | apply below_drew1 | refine below_set ?_ GE725.out) | exact HB.out)) hb); clear HO_11; clear HO_14; clear HO_16; clear HO_17; clear BK725; clear HB; have HO_11 := n0_; have HO_14 := n1_; have HO_16 := n2_; have HO_17 := n3_; have BK725 := n4_; have HB := n5_; clear n0_ n1_ n2_ n3_ n4_ n5_; (try clear hb); (try clear hb2); (try clear hk); (try clear hi); have p767 : 0 ≤ (x21_5 : Int) := of_decide_eq_true (by first | (with_reducible assumption) | assumption); have q767 : x21_5 < (y753.length : Int) := of_decide_eq_true (by first | (with_reducible assumption) | assumption); obtain ⟨ad767, e767, hx767_0, hx767_1⟩ := at_T43 (Kd.R_reads' HO_16.out).2.2 x21_5 p767 q767; obtain rfl : ad764 = ad767 := (by injection e767); replace p767 := eq_true p767; replace q767 := eq_true q767))
                           repeat (go_quiet (fail); try go_wp2)
                           go_roundg k5
                           case measure => have := HJ4.out; have := HJ9.out; have := HJ14.out; have := HJ31.out; have := HK5.out; omega
                           case rel => exact ⟨(wrap64 (x21_5 + 1)), (by first | rfl | (simp; done) | (simp [*]; done)), H', ⟨by have := HJ4.out; have := HJ9.out; have := HJ14.out; have := HJ31.out; have := HK5.out; omega⟩, ⟨by (with_reducible repeat (first | apply Kd.R_alloc | apply Kd.R_drewN | apply Kd.R_drew)); exact HO_11.out⟩, ⟨by (with_reducible repeat (first | apply Kd.R_alloc | apply Kd.R_drewN | apply Kd.R_drew)); exact HO_14.out⟩, ⟨by (with_reducible repeat (first | apply Kd.R_alloc | apply Kd.R_drewN | apply Kd.R_drew)); exact HO_16.out⟩, ⟨by (with_reducible repeat (first | apply Kd.R_alloc | apply Kd.R_drewN | apply Kd.R_drew)); exact HO_17.out⟩, ⟨by (with_reducible repeat (first | refine blk_drewN ?_ _ | refine blk_drew ?_ | refine blk_alloc ?_ _)); exact BK725.out⟩, ⟨by repeat (first | (with_reducible first | exact HB.out | apply below_alloc | apply pw_below_drewN | apply below_drew1 | refine below_set ?_ GE725.out) | exact HB.out)⟩⟩
                          ·rw [if_neg c70] at H
                           have c70b0 : (t765 == ((rd_T43 y753 x21_5).f1)) = false := beq_eq_false_iff_ne.mpr c70
                           have c70b1 : (t765 != ((rd_T43 y753 x21_5).f1)) = true := bne_iff_ne.mpr c70
                           exact absurd (Option.some.inj H) (by rw [HRT.out]; decide)
                         ·rw [if_neg c69] at H
                          have c69b0 : (t766 == 0) = false := beq_eq_false_iff_ne.mpr c69
                          have c69b1 : (t766 != 0) = true := bne_iff_ne.mpr c69
                          exact absurd (Option.some.inj H) (by rw [HRT.out]; decide)
                        ·rw [if_neg c67] at H
                         exact absurd H (by simp)
                       ·rw [if_neg c66] at H
                        have c66b0 : decide (x21_5 < (y753.length : Int)) = false := decide_eq_false c66
                        clear c66
                        have H' := Aside0.mk H
                        clear H
                        go_wp2
                        repeat (go_quiet (fail); try go_wp2)
                        go_loopg [24] k5 (fun kq v24 w' => ∃ (x24_6 : Int), v24 = .int .i64 x24_6 ∧ Aside0 (verditertop_topSecrets.l1 kq l0_0 l0_1 t728 ji22 y739 x24_6 = some r) ∧ Aside0 (kq ≤ k5) ∧ Aside0 (Kd.R k43 43 w' w.heap.size (fun k_ => some k_ ≠ ((.slice Ao38 y739.length co38) : Value).ownBlock) (.slice Ao36 t728.length co36) t728) ∧ Aside0 (Kd.R k43 43 w' w.heap.size (fun k_ => some k_ ≠ ((.slice Ao36 t728.length co36) : Value).ownBlock) (.slice Ao38 y739.length co38) y739) ∧ Aside0 (w'.heap[gb725]? = some (.cells #[(.slice A0_0 l0_0.length c0_0), (.slice A0_1 l0_1.length c0_1)] 31 (0, 0))) ∧ Aside0 (Below w.heap.size w w'))
                        case atStart => exact ⟨(1), (by first | rfl | (simp; done) | (simp [*]; done)), H', ⟨Nat.le_refl _⟩, ⟨by (with_reducible repeat (first | apply Kd.R_alloc | apply Kd.R_drewN | apply Kd.R_drew)); exact Kd.R_mono HO_11.out (fun _ hk => hk.1)⟩, ⟨by (with_reducible repeat (first | apply Kd.R_alloc | apply Kd.R_drewN | apply Kd.R_drew)); exact Kd.R_mono HO_14.out (fun _ hk => hk.1)⟩, ⟨by (with_reducible repeat (first | refine blk_drewN ?_ _ | refine blk_drew ?_ | refine blk_alloc ?_ _)); exact BK725.out⟩, ⟨by repeat (first | (with_reducible first | exact HB.out | apply below_alloc | apply pw_below_drewN | apply below_drew1 | refine below_set ?_ GE725.out) | exact HB.out)⟩⟩
                        case round =>
                         as_aux_lemma =>
                         clear H' c66b0
                         obtain ⟨x24_6, rfl, HA, HK6, HO_11, HO_14, BK725, HB⟩ := hrel
                         cases gk with
                         | zero => exact absurd HA.out (by simp [verditertop_topSecrets.l1])
                         | succ k6 =>
                          have H := HA.out
                          clear HA
                          simp only [verditertop_topSecrets.l1] at H
                          by_cases c77 : x24_6 ≤ 12
                          ·rw [if_pos c77] at H
                           have c77b0 : decide (x24_6 ≤ 12) = true := decide_eq_true c77
                           clear c77
                           replace H := Option.bind_eq_some_iff.mp H
                           obtain ⟨⟨t768, t769, t770⟩, A780, H⟩ := H
                           replace H : (if t770 = 0 then (if 0 ≤ (wrap64 (x24_6 - 1)) then (if (wrap64 (x24_6 - 1)) < (t728.length : Int) then (if (!(t768 == ((rd_T43 t728 (wrap64 (x24_6 - 1))).f0)) || (!(t769 == ((rd_T43 t728 (wrap64 (x24_6 - 1))).f1)))) = true then (some false) else (verditertop_topSecrets.l1 k6 l0_0 l0_1 t728 ji22 y739 (wrap64 (x24_6 + 1)))) else (none)) else (none)) else (some false)) = some r := H
                           have A78 := Aside0.mk A780
                           clear A780
                           by_cases c79 : t770 = 0
                           ·rw [if_pos c79] at H
                            have c79b0 : (t770 == 0) = true := beq_iff_eq.mpr c79
                            have c79b1 : (t770 != 0) = false := bne_eq_false_iff_eq.mpr c79
                            clear c79
                            obtain ⟨ji80, hji80⟩ : ∃ j_ : Int, (wrap64 (x24_6 - 1)) = j_ := ⟨_, rfl⟩
                            replace H : (if 0 ≤ (ji80) then (if (ji80) < (t728.length : Int) then (if (!(t768 == ((rd_T43 t728 (ji80)).f0)) || (!(t769 == ((rd_T43 t728 (ji80)).f1)))) = true then (some false) else (verditertop_topSecrets.l1 k6 l0_0 l0_1 t728 ji22 y739 (wrap64 (x24_6 + 1)))) else (none)) else (none)) = some r := by first | (rw [hji80] at H; exact H) | (simp only [hji80] at H ⊢; exact H)
                            (try rw [hji80] at A78)
                            have hji80w : (IntKind.i64.wrap (x24_6 - 1)) = ji80 := (i64_w _).trans hji80
                            by_cases c81 : 0 ≤ (ji80)
                            ·rw [if_pos c81] at H
                             have c81b0 : decide (0 ≤ (ji80)) = true := decide_eq_true c81
                             clear c81
                             by_cases c82 : (ji80) < (t728.length : Int)
                             ·rw [if_pos c82] at H
                              have c82b0 : decide ((ji80) < (t728.length : Int)) = true := decide_eq_true c82
                              clear c82
                              by_cases c83 : (!(t768 == ((rd_T43 t728 (ji80)).f0)) || (!(t769 == ((rd_T43 t728 (ji80)).f1)))) = true
                              ·rw [if_pos c83] at H
                               have c83b0 : (!(t768 == ((rd_T43 t728 (ji80)).f0)) || (!(t769 == ((rd_T43 t728 (ji80)).f1)))) = true := c83
                               clear c83
                               exact absurd (Option.some.inj H) (by rw [HRT.out]; decide)
                              ·rw [if_neg c83] at H
                               have c83b0 : (!(t768 == ((rd_T43 t728 (ji80)).f0)) || (!(t769 == ((rd_T43 t728 (ji80)).f1)))) = false := by simpa using c83
                               clear c83
                               have H' := Aside0.mk H
                               clear H
                               go_upto_region 31 with (first | (go_at_call 49; (with_reducible refine (secret_Part.calls k6 _ _ y739 x24_6 t768 t769 t770 _ ?side1 ?side2 A78.out).mono ?_); (case side1 => repeat (first | exact (Kd.R_reads' HO_14.out).2.2 | (with_reducible refine Kd.C_alloc ?_ _) | (with_reducible refine Kd.C_drewN ?_ _) | (with_reducible refine Kd.C_drew ?_))); (case side2 => exact (Kd.R_reads' HO_14.out).2.1); rintro e w88 ⟨rfl, hb⟩; have n0_ := Aside0.mk (Kd.R_below (by (with_reducible repeat (first | apply Kd.R_alloc | apply Kd.R_drewN | apply Kd.R_drew)); exact HO_11.out) hb); have n1_ := Aside0.mk (Kd.R_below (by (with_reducible repeat (first | apply Kd.R_alloc | apply Kd.R_drewN | apply Kd.R_drew)); exact HO_14.out) hb); have n2_ := Aside0.mk (blk_below (g := gb725) (o := .cells #[.slice A0_0 l0_0.length c0_0, .slice A0_1 l0_1.length c0_1] 31 (0, 0)) (by (with_reducible repeat (first | refine blk_drewN ?_ _ | refine blk_drew ?_ | refine blk_alloc ?_ _)); exact BK725.out) hb); have n3_ := Aside0.mk (below_step (by repeat (first | (with_reducible first | exact HB.out | apply below_alloc | apply pw_below_drewN | apply below_drew1 | refine below_set ?_ GE725.out) | exact HB.out)) hb); clear HO_11; clear HO_14; clear BK725; clear HB; have HO_11 := n0_; have HO_14 := n1_; have BK725 := n2_; have HB := n3_; clear n0_ n1_ n2_ n3_; (try clear hb); (try clear hb2); (try clear hk); (try clear hi)))
                               obtain ⟨wb, hwb⟩ : ∃ wb, wb = w88.alloc (.cells #[.int .i64 t768, .int .i64 t769] 43) := ⟨_, rfl⟩
                               have hbb : Below w88.heap.size w88 wb := by rw [hwb]; exact below_alloc (Below.refl _ _) _
                               have hcz0 : wb.cell? ⟨w88.heap.size, 0, none⟩ = some (.int .i64 t768) := by rw [hwb, World.cell?_alloc_new]; rfl
                               have hcz1 : wb.cell? ⟨w88.heap.size, 1, none⟩ = some (.int .i64 t769) := by rw [hwb, World.cell?_alloc_new]; rfl
                               rw [← hwb]
                               clear hwb
                               have n0_ := Aside0.mk (Kd.R_below HO_11.out hbb)
                               have n1_ := Aside0.mk (Kd.R_below HO_14.out hbb)
                               have n2_ := Aside0.mk (blk_below BK725.out hbb)
                               have n3_ := Aside0.mk (below_step HB.out hbb)
                               clear HO_11 HO_14 BK725 HB hbb
                               have HO_11 := n0_
                               have HO_14 := n1_
                               have BK725 := n2_
                               have HB := n3_
                               clear n0_ n1_ n2_ n3_
                               have p88 : (0 : Int) ≤ ji80 := of_decide_eq_true c81b0
                               have q88 : ji80 < (t728.length : Int) := of_decide_eq_true c82b0
                               obtain ⟨ad88, ead88, hx88, hy88⟩ := at_T43 (Kd.R_reads' HO_11.out).2.2 ji80 p88 q88
                               subst ead88
                               replace p88 := eq_true p88
                               replace q88 := eq_true q88
                               go_quiet (fail)
                               try go_wp2
                               clear hji80 hji80w
                               go_roundg k6
                               case measure => have := HJ4.out; have := HJ9.out; have := HJ14.out; have := HJ31.out; have := HK5.out; have := HK6.out; omega
                               case rel => exact ⟨(wrap64 (x24_6 + 1)), (by first | rfl | (simp; done) | (simp [*]; done)), H', ⟨by have := HJ4.out; have := HJ9.out; have := HJ14.out; have := HJ31.out; have := HK5.out; have := HK6.out; omega⟩, ⟨by (with_reducible repeat (first | apply Kd.R_alloc | apply Kd.R_drewN | apply Kd.R_drew)); exact HO_11.out⟩, ⟨by (with_reducible repeat (first | apply Kd.R_alloc | apply Kd.R_drewN | apply Kd.R_drew)); exact HO_14.out⟩, ⟨by (with_reducible repeat (first | refine blk_drewN ?_ _ | refine blk_drew ?_ | refine blk_alloc ?_ _)); exact BK725.out⟩, ⟨by repeat (first | (with_reducible first | exact HB.out | apply below_alloc | apply pw_below_drewN | apply below_drew1 | refine below_set ?_ GE725.out) | exact HB.out)⟩⟩
                             ·rw [if_neg c82] at H
                              exact absurd H (by simp)
                            ·rw [if_neg c81] at H
                             exact absurd H (by simp)
                           ·rw [if_neg c79] at H
                            have c79b0 : (t770 == 0) = false := beq_eq_false_iff_ne.mpr c79
                            have c79b1 : (t770 != 0) = true := bne_iff_ne.mpr c79
                            exact absurd (Option.some.inj H) (by rw [HRT.out]; decide)
                          ·rw [if_neg c77] at H
                           have c77b0 : decide (x24_6 ≤ 12) = false := decide_eq_false c77
                           clear c77
                           have H' := Aside0.mk H
                           clear H
                           go_wp2
                           repeat (go_quiet (fail); try go_wp2)
                           go_loopg [27, 28] k6 (fun kq v27 v28 w' => ∃ (x27_7 : List Int) (x28_7 : Int), v28 = .int .i64 x28_7 ∧ Aside0 (verditertop_topSecrets.l2 kq l0_0 l0_1 t728 ji22 y739 x27_7 x28_7 = some r) ∧ Aside0 (kq ≤ k6) ∧ Aside0 (Kd.R k43 43 w' w.heap.size (fun k_ => some k_ ≠ ((.slice Ao38 y739.length co38) : Value).ownBlock) (.slice Ao36 t728.length co36) t728) ∧ Aside0 (Kd.R k43 43 w' w.heap.size (fun k_ => some k_ ≠ ((.slice Ao36 t728.length co36) : Value).ownBlock) (.slice Ao38 y739.length co38) y739) ∧ Aside0 (Kd.R (Kd.int .i64) 3 w' w.heap.size (fun _ => True) v27 x27_7) ∧ Aside0 (w'.heap[gb725]? = some (.cells #[(.slice A0_0 l0_0.length c0_0), (.slice A0_1 l0_1.length c0_1)] 31 (0, 0))) ∧ Aside0 (Below w.heap.size w w'))
                           case atStart => exact ⟨(([] : List Int)), (0), (by first | rfl | (simp; done) | (simp [*]; done)), H', ⟨Nat.le_refl _⟩, ⟨by (with_reducible repeat (first | apply Kd.R_alloc | apply Kd.R_drewN | apply Kd.R_drew)); exact HO_11.out⟩, ⟨by (with_reducible repeat (first | apply Kd.R_alloc | apply Kd.R_drewN | apply Kd.R_drew)); exact HO_14.out⟩, ⟨by first | exact Kd.R_nil _ _ _ _ _ | exact Kd.N_nil _ _ _ _ _ | exact Kd.V_nil _ _ _ _ _ | exact Kd.Q_nil _ _ _ _ _ | exact Kd.S_nil _ _ _ _ _⟩, ⟨by (with_reducible repeat (first | refine blk_drewN ?_ _ | refine blk_drew ?_ | refine blk_alloc ?_ _)); exact BK725.out⟩, ⟨by repeat (first | (with_reducible first | exact HB.out | apply below_alloc | apply pw_below_drewN | apply below_drew1 | refine below_set ?_ GE725.out) | exact HB.out)⟩⟩
                           case round =>
                            as_aux_lemma =>
                            clear H' c77b0
                            obtain ⟨x27_7, x28_7, rfl, HA, HK7, HO_11, HO_14, HO_27, BK725, HB⟩ := hrel
                            cases gk with
                            | zero => exact absurd HA.out (by simp [verditertop_topSecrets.l2])
                            | succ k7 =>
                             have H := HA.out
                             clear HA
                             simp only [verditertop_topSecrets.l2] at H
                             by_cases c96 : x28_7 < (y739.length : Int)
                             ·rw [if_pos c96] at H
                              have c96b0 : decide (x28_7 < (y739.length : Int)) = true := decide_eq_true c96
                              clear c96
                              by_cases c97 : 0 ≤ x28_7
                              ·rw [if_pos c97] at H
                               have c97b0 : decide (0 ≤ x28_7) = true := decide_eq_true c97
                               clear c97
                               by_cases c98 : x27_7.length < 17592186044416
                               ·rw [if_pos c98] at H
                                have LMc98 := Aside0.mk c98
                                clear c98
                                obtain ⟨y774, hy774⟩ : ∃ y_ : List Int, y_ = (x27_7 ++ [(rd_T43 y739 x28_7).f0]) := ⟨_, rfl⟩
                                replace H : (verditertop_topSecrets.l2 k7 l0_0 l0_1 t728 ji22 y739 y774 (wrap64 (x28_7 + 1))) = some r := by first | (rw [hy774]; with_reducible exact H) | (have H2_ := (Option.bind_some _ _).symm.trans H; rw [hy774]; with_reducible exact H2_) | (have H2_ := (Option.bind_some _ _).symm.trans H; with_reducible exact H2_) | with_reducible exact H | (rw [hy774]; exact H) | exact H
                                have Ny774 := Aside0.mk hy774
                                clear hy774
                                have H' := Aside0.mk H
                                clear H
                                have p773 : 0 ≤ (x28_7 : Int) := of_decide_eq_true (by first | (with_reducible assumption) | assumption)
                                have q773 : x28_7 < (y739.length : Int) := of_decide_eq_true (by first | (with_reducible assumption) | assumption)
                                obtain ⟨ad773, e773, hx773_0, hx773_1⟩ := at_T43 (Kd.R_reads' HO_14.out).2.2 x28_7 p773 q773
                                cases e773
                                replace p773 := eq_true p773
                                replace q773 := eq_true q773
                                go_wp2_with (first | ((with_reducible refine gate_builtin (b := .append) (xs := #[.tmp 211, .tmp 217]) rfl ?_); (try (refine gate_guard (by rfl) ?_; dsimp only)); at_builtin; refine Kd.R_append (Kd.int .i64) (w0 := w) w.heap.size rfl (.tmp 211) (.tmp 217) 26 3 (.int .i64 0) 8 rfl Try.underlying26 info3 rfl (by decide) (by omega) u27 x27_7 ((rd_T43 y739 x28_7).f0) [.int .i64 ((rd_T43 y739 x28_7).f0)] (fun _ => True) (fun _ => False) rfl rfl ?aP (fun _ hk => hk.elim) ?aF ?aO ?aB ?aS ?aL ?_; (case aP => exact rfl); (case aB => exact (by repeat (first | (with_reducible first | exact HB.out | apply below_alloc | apply pw_below_drewN | apply below_drew1 | refine below_set ?_ GE725.out) | exact HB.out))); (case aF => exact (fun _ _ => trivial)); (case aO => exact (by (with_reducible repeat (first | apply Kd.R_alloc | apply Kd.R_drewN | apply Kd.R_drew)); exact HO_27.out)); (case aS => exact (below_size (by repeat (first | (with_reducible first | exact HB.out | apply below_alloc | apply pw_below_drewN | apply below_drew1 | refine below_set ?_ GE725.out) | exact HB.out)))); (case aL => have := LMc98.out; omega); intro v775 w99 ho hb hg hat; rw [← Ny774.out] at ho; have n0_ := Aside0.mk (Kd.R_over' (by (with_reducible repeat (first | apply Kd.R_alloc | apply Kd.R_drewN | apply Kd.R_drew)); exact HO_11.out) (Kd.R_typed (by (with_reducible repeat (first | apply Kd.R_alloc | apply Kd.R_drewN | apply Kd.R_drew)); exact HO_27.out)) (by decide) hg); have n1_ := Aside0.mk (Kd.R_over' (by (with_reducible repeat (first | apply Kd.R_alloc | apply Kd.R_drewN | apply Kd.R_drew)); exact HO_14.out) (Kd.R_typed (by (with_reducible repeat (first | apply Kd.R_alloc | apply Kd.R_drewN | apply Kd.R_drew)); exact HO_27.out)) (by decide) hg); have n2_ := Aside0.mk (blk_grown (g := gb725) (o := .cells #[.slice A0_0 l0_0.length c0_0, .slice A0_1 l0_1.length c0_1] 31 (0, 0)) (by (with_reducible repeat (first | refine blk_drewN ?_ _ | refine blk_drew ?_ | refine blk_alloc ?_ _)); exact BK725.out) hg (Kd.R_ne HO_27.out BK725.out (by decide))); have n3_ := Aside0.mk (hb); have n4_ := Aside0.mk (ho); clear HO_11; clear HO_14; clear BK725; clear HB; clear HO_27; have HO_11 := n0_; have HO_14 := n1_; have BK725 := n2_; have HB := n3_; have HO776 := n4_; clear n0_ n1_ n2_ n3_ n4_; clear ho hb hg hat))
                                repeat (go_quiet (fail); try go_wp2)
                                go_roundg k7
                                case measure => have := HJ4.out; have := HJ9.out; have := HJ14.out; have := HJ31.out; have := HK5.out; have := HK6.out; have := HK7.out; omega
                                case rel => exact ⟨(y774), (wrap64 (x28_7 + 1)), (by first | rfl | (simp; done) | (simp [*]; done)), H', ⟨by have := HJ4.out; have := HJ9.out; have := HJ14.out; have := HJ31.out; have := HK5.out; have := HK6.out; have := HK7.out; omega⟩, ⟨by (with_reducible repeat (first | apply Kd.R_alloc | apply Kd.R_drewN | apply Kd.R_drew)); exact HO_11.out⟩, ⟨by (with_reducible repeat (first | apply Kd.R_alloc | apply Kd.R_drewN | apply Kd.R_drew)); exact HO_14.out⟩, ⟨by (with_reducible repeat (first | apply Kd.R_alloc | apply Kd.R_drewN | apply Kd.R_drew)); exact HO776.out⟩, ⟨by (with_reducible repeat (first | refine blk_drewN ?_ _ | refine blk_drew ?_ | refine blk_alloc ?_ _)); exact BK725.out⟩, ⟨by repeat (first | (with_reducible first | exact HB.out | apply below_alloc | apply pw_below_drewN | apply below_drew1 | refine below_set ?_ GE725.out) | exact HB.out)⟩⟩
                               ·rw [if_neg c98] at H
                                exact absurd H (by simp)
                              ·rw [if_neg c97] at H
                               exact absurd H (by simp)
                             ·rw [if_neg c96] at H
                              have c96b0 : decide (x28_7 < (y739.length : Int)) = false := decide_eq_false c96
                              clear c96
                              replace H := Option.bind_eq_some_iff.mp H
                              obtain ⟨⟨t777, t778⟩, A1000, H⟩ := H
                              replace H : (if t778 = 0 then (verditertop_topSecrets.j7 k7 l0_0 l0_1 t728 ji22 y739 t777 ((t777.length : Int) != (y739.length : Int))) else (verditertop_topSecrets.j7 k7 l0_0 l0_1 t728 ji22 y739 t777 true)) = some r := H
                              have A100 := Aside0.mk A1000
                              clear A1000
                              have HC101 := Aside0.mk H
                              clear H
                              obtain ⟨Ao102, co102, eo102⟩ := Kd.R_slice HO_27.out
                              subst eo102
                              iterate 8 (go_upto_region 39 with (first | (go_at_call 56; (with_reducible refine (secret_Weights.calls k7 _ _ x27_7 t777 t778 _ ?side1 ?side2 A100.out).mono ?_); (case side1 => repeat (first | exact (Kd.R_reads' HO_27.out).2.2 | (with_reducible refine Kd.C_alloc ?_ _) | (with_reducible refine Kd.C_drewN ?_ _) | (with_reducible refine Kd.C_drew ?_))); (case side2 => exact (Kd.R_reads' HO_27.out).2.1); rintro e w103 ⟨v779, rfl, ho0, hb⟩; have n0_ := Aside0.mk (Kd.R_below (by (with_reducible repeat (first | apply Kd.R_alloc | apply Kd.R_drewN | apply Kd.R_drew)); exact HO_11.out) hb); have n1_ := Aside0.mk (Kd.R_below (by (with_reducible repeat (first | apply Kd.R_alloc | apply Kd.R_drewN | apply Kd.R_drew)); exact HO_14.out) hb); have n2_ := Aside0.mk (Kd.R_elder' (by (with_reducible repeat (first | apply Kd.R_alloc | apply Kd.R_drewN | apply Kd.R_drew)); exact HO_27.out) (Kd.R_base ho0) hb); have n3_ := Aside0.mk (Kd.R_lower (Kd.R_new' ho0 (Kd.R_lt (by (with_reducible repeat (first | apply Kd.R_alloc | apply Kd.R_drewN | apply Kd.R_drew)); exact HO_27.out))) (below_size (by repeat (first | (with_reducible first | exact HB.out | apply below_alloc | apply pw_below_drewN | apply below_drew1 | refine below_set ?_ GE725.out) | exact HB.out)))); have n4_ := Aside0.mk (blk_below (g := gb725) (o := .cells #[.slice A0_0 l0_0.length c0_0, .slice A0_1 l0_1.length c0_1] 31 (0, 0)) (by (with_reducible repeat (first | refine blk_drewN ?_ _ | refine blk_drew ?_ | refine blk_alloc ?_ _)); exact BK725.out) hb); have n5_ := Aside0.mk (below_step (by repeat (first | (with_reducible first | exact HB.out | apply below_alloc | apply pw_below_drewN | apply below_drew1 | refine below_set ?_ GE725.out) | exact HB.out)) hb); clear HO_11; clear HO_14; clear HO_27; clear BK725; clear HB; have HO_11 := n0_; have HO_14 := n1_; have HO_27 := n2_; have HO780 := n3_; have BK725 := n4_; have HB := n5_; clear n0_ n1_ n2_ n3_ n4_ n5_; (try clear hb); (try clear hb2); (try clear hk); (try clear hi); (try clear ho0))); try go_quiet (fail))
                              (try simp only [Act.put, List.setIfInBounds_toArray, List.set_cons_zero, List.set_cons_succ])
                              go_cut [232] (fun v232 wc => ∃ (kq : Nat) (x232_100 : Bool), v232 = .bool x232_100 ∧ Aside0 (verditertop_topSecrets.j7 kq l0_0 l0_1 t728 ji22 y739 t777 x232_100 = some r) ∧ Aside0 (kq ≤ k7) ∧ Aside0 (Kd.R k43 43 wc w.heap.size (fun k_ => some k_ ≠ ((.slice Ao38 y739.length co38) : Value).ownBlock) (.slice Ao36 t728.length co36) t728) ∧ Aside0 (Kd.R k43 43 wc w.heap.size (fun k_ => some k_ ≠ ((.slice Ao36 t728.length co36) : Value).ownBlock) (.slice Ao38 y739.length co38) y739) ∧ Aside0 (Kd.R (Kd.int .i64) 3 wc w.heap.size (fun _ => True) v779 t777) ∧ Aside0 (wc.heap[gb725]? = some (.cells #[(.slice A0_0 l0_0.length c0_0), (.slice A0_1 l0_1.length c0_1)] 31 (0, 0))) ∧ Aside0 (Below w.heap.size w wc))
                              case first =>
                               as_aux_lemma =>
                               have H := HC101.out
                               clear HC101
                               by_cases c104 : t778 = 0
                               ·rw [if_pos c104] at H
                                have c104b0 : (t778 == 0) = true := beq_iff_eq.mpr c104
                                have c104b1 : (t778 != 0) = false := bne_eq_false_iff_eq.mpr c104
                                clear c104
                                (first | rw [c104b0] | (simp only [i64_w, i32_w]; rw [c104b0]) | skip)
                                have H' := Aside0.mk H
                                clear H
                                obtain ⟨Ao105, co105, eo105⟩ := Kd.R_slice HO780.out
                                subst eo105
                                go_wp2
                                repeat (go_quiet (fail); try go_wp2)
                                go_meet
                                case rel => exact ⟨_, (((t777.length : Int) != (y739.length : Int))), (by first | rfl | (simp; done) | (simp [*]; done)), H', ⟨by have := HJ4.out; have := HJ9.out; have := HJ14.out; have := HJ31.out; have := HK5.out; have := HK6.out; have := HK7.out; first | omega | exact Nat.le_refl _⟩, ⟨by (with_reducible repeat (first | apply Kd.R_alloc | apply Kd.R_drewN | apply Kd.R_drew)); exact HO_11.out⟩, ⟨by (with_reducible repeat (first | apply Kd.R_alloc | apply Kd.R_drewN | apply Kd.R_drew)); exact HO_14.out⟩, ⟨by (with_reducible repeat (first | apply Kd.R_alloc | apply Kd.R_drewN | apply Kd.R_drew)); exact Kd.R_mono HO780.out (fun _ hk => trivial)⟩, ⟨by (with_reducible repeat (first | refine blk_drewN ?_ _ | refine blk_drew ?_ | refine blk_alloc ?_ _)); exact BK725.out⟩, ⟨by repeat (first | (with_reducible first | exact HB.out | apply below_alloc | apply pw_below_drewN | apply below_drew1 | refine below_set ?_ GE725.out) | exact HB.out)⟩⟩
                               ·rw [if_neg c104] at H
                                have c104b0 : (t778 == 0) = false := beq_eq_false_iff_ne.mpr c104
                                have c104b1 : (t778 != 0) = true := bne_iff_ne.mpr c104
                                (first | rw [c104b0] | (simp only [i64_w, i32_w]; rw [c104b0]) | skip)
                                exact absurd (show r = false by first | exact no_j0 H | exact no_j2 H | exact no_j3 H | exact no_j7 H | exact no_j10 H | exact no_j11 H) (by rw [HRT.out]; decide)
                              case rest =>
                               as_aux_lemma =>
                               clear HC101 c96b0
                               obtain ⟨kq, x232_100, rfl, HA, HJ100, HO_11, HO_14, HO_29, BK725, HB⟩ := hcut
                               cases kq with
                               | zero => exact absurd HA.out (by simp [verditertop_topSecrets.j7])
                               | succ kj100 =>
                                have H := HA.out
                                clear HA
                                simp only [verditertop_topSecrets.j7] at H
                                by_cases c106 : x232_100 = true
                                ·subst c106
                                 have H1 : (some false) = some r := by rw [if_pos rfl] at H; exact H
                                 clear H
                                 have H := H1
                                 clear H1
                                 exact absurd (Option.some.inj H) (by rw [HRT.out]; decide)
                                ·replace c106 := Bool.eq_false_iff.mpr c106
                                 subst c106
                                 have H1 : (verditertop_topSecrets.l3 kj100 l0_0 l0_1 t728 ji22 y739 t777 0 0) = some r := by rw [if_neg (show ¬ (false = true) by decide)] at H; exact H
                                 clear H
                                 have H := H1
                                 clear H1
                                 have H' := Aside0.mk H
                                 clear H
                                 go_wp2
                                 repeat (go_quiet (fail); try go_wp2)
                                 go_loopg [30, 31] kj100 (fun kq v30 v31 w' => ∃ (x30_9 : Int) (x31_9 : Int), v30 = .int .i64 x30_9 ∧ v31 = .int .i64 x31_9 ∧ Aside0 (verditertop_topSecrets.l3 kq l0_0 l0_1 t728 ji22 y739 t777 x30_9 x31_9 = some r) ∧ Aside0 (kq ≤ kj100) ∧ Aside0 (Kd.R k43 43 w' w.heap.size (fun k_ => some k_ ≠ ((.slice Ao38 y739.length co38) : Value).ownBlock) (.slice Ao36 t728.length co36) t728) ∧ Aside0 (Kd.R k43 43 w' w.heap.size (fun k_ => some k_ ≠ ((.slice Ao36 t728.length co36) : Value).ownBlock) (.slice Ao38 y739.length co38) y739) ∧ Aside0 (Kd.R (Kd.int .i64) 3 w' w.heap.size (fun _ => True) v779 t777) ∧ Aside0 (w'.heap[gb725]? = some (.cells #[(.slice A0_0 l0_0.length c0_0), (.slice A0_1 l0_1.length c0_1)] 31 (0, 0))) ∧ Aside0 (Below w.heap.size w w'))
                                 case atStart => exact ⟨(0), (0), (by first | rfl | (simp; done) | (simp [*]; done)), (by first | rfl | (simp; done) | (simp [*]; done)), H', ⟨Nat.le_refl _⟩, ⟨by (with_reducible repeat (first | apply Kd.R_alloc | apply Kd.R_drewN | apply Kd.R_drew)); exact HO_11.out⟩, ⟨by (with_reducible repeat (first | apply Kd.R_alloc | apply Kd.R_drewN | apply Kd.R_drew)); exact HO_14.out⟩, ⟨by (with_reducible repeat (first | apply Kd.R_alloc | apply Kd.R_drewN | apply Kd.R_drew)); exact HO_29.out⟩, ⟨by (with_reducible repeat (first | refine blk_drewN ?_ _ | refine blk_drew ?_ | refine blk_alloc ?_ _)); exact BK725.out⟩, ⟨by repeat (first | (with_reducible first | exact HB.out | apply below_alloc | apply pw_below_drewN | apply below_drew1 | refine below_set ?_ GE725.out) | exact HB.out)⟩⟩
                                 case round =>
                                  as_aux_lemma =>
                                  clear H'
                                  obtain ⟨x30_9, x31_9, rfl, rfl, HA, HK9, HO_11, HO_14, HO_29, BK725, HB⟩ := hrel
                                  cases gk with
                                  | zero => exact absurd HA.out (by simp [verditertop_topSecrets.l3])
                                  | succ k9 =>
                                   have H := HA.out
                                   clear HA
                                   simp only [verditertop_topSecrets.l3] at H
                                   by_cases c107 : x31_9 < (y739.length : Int)
                                   ·rw [if_pos c107] at H
                                    have c107b0 : decide (x31_9 < (y739.length : Int)) = true := decide_eq_true c107
                                    clear c107
                                    by_cases c108 : 0 ≤ x31_9
                                    ·rw [if_pos c108] at H
                                     have c108b0 : decide (0 ≤ x31_9) = true := decide_eq_true c108
                                     clear c108
                                     by_cases c109 : x31_9 < (t777.length : Int)
                                     ·rw [if_pos c109] at H
                                      have c109b0 : decide (x31_9 < (t777.length : Int)) = true := decide_eq_true c109
                                      clear c109
                                      by_cases c110 : (rd t777 x31_9) < 0
                                      ·rw [if_pos c110] at H
                                       have c110b0 : decide ((rd t777 x31_9) < 0) = true := decide_eq_true c110
                                       clear c110
                                       exact absurd (Option.some.inj H) (by rw [HRT.out]; decide)
                                      ·rw [if_neg c110] at H
                                       have c110b0 : decide ((rd t777 x31_9) < 0) = false := decide_eq_false c110
                                       clear c110
                                       by_cases c112 : (rd t777 x31_9) ≥ 251
                                       ·rw [if_pos c112] at H
                                        have c112b0 : decide (251 ≤ (rd t777 x31_9)) = true := decide_eq_true c112
                                        clear c112
                                        exact absurd (Option.some.inj H) (by rw [HRT.out]; decide)
                                       ·rw [if_neg c112] at H
                                        have c112b0 : decide (251 ≤ (rd t777 x31_9)) = false := decide_eq_false c112
                                        clear c112
                                        by_cases c114 : ((rd_T43 y739 x31_9).f1) < 0
                                        ·rw [if_pos c114] at H
                                         have c114b0 : decide (((rd_T43 y739 x31_9).f1) < 0) = true := decide_eq_true c114
                                         clear c114
                                         exact absurd (Option.some.inj H) (by rw [HRT.out]; decide)
                                        ·rw [if_neg c114] at H
                                         have c114b0 : decide (((rd_T43 y739 x31_9).f1) < 0) = false := decide_eq_false c114
                                         clear c114
                                         by_cases c116 : ((rd_T43 y739 x31_9).f1) ≥ 251
                                         ·rw [if_pos c116] at H
                                          have c116b0 : decide (251 ≤ ((rd_T43 y739 x31_9).f1)) = true := decide_eq_true c116
                                          clear c116
                                          exact absurd (Option.some.inj H) (by rw [HRT.out]; decide)
                                         ·rw [if_neg c116] at H
                                          have c116b0 : decide (251 ≤ ((rd_T43 y739 x31_9).f1)) = false := decide_eq_false c116
                                          clear c116
                                          have H' := Aside0.mk H
                                          clear H
                                          obtain ⟨Ao118, co118, eo118⟩ := Kd.R_slice HO_29.out
                                          subst eo118
                                          have p781 : 0 ≤ (x31_9 : Int) := of_decide_eq_true (by first | (with_reducible assumption) | assumption)
                                          have q781 : x31_9 < (t777.length : Int) := of_decide_eq_true (by first | (with_reducible assumption) | assumption)
                                          obtain ⟨ad781, e781, hx781_0⟩ := Kd.at_int (Kd.R_reads' HO_29.out).2.2 x31_9 p781 q781
                                          cases e781
                                          replace p781 := eq_true p781
                                          replace q781 := eq_true q781
                                          have p782 : 0 ≤ (x31_9 : Int) := of_decide_eq_true (by first | (with_reducible assumption) | assumption)
                                          have q782 : x31_9 < (t777.length : Int) := of_decide_eq_true (by first | (with_reducible assumption) | assumption)
                                          obtain ⟨ad782, e782, hx782_0⟩ := Kd.at_int (Kd.R_reads' HO_29.out).2.2 x31_9 p782 q782
                                          obtain rfl : ad781 = ad782 := (by injection e782)
                                          replace p782 := eq_true p782
                                          replace q782 := eq_true q782
                                          have p783 : 0 ≤ (x31_9 : Int) := of_decide_eq_true (by first | (with_reducible assumption) | assumption)
                                          have q783 : x31_9 < (y739.length : Int) := of_decide_eq_true (by first | (with_reducible assumption) | assumption)
                                          obtain ⟨ad783, e783, hx783_0, hx783_1⟩ := at_T43 (Kd.R_reads' HO_14.out).2.2 x31_9 p783 q783
                                          cases e783
                                          replace p783 := eq_true p783
                                          replace q783 := eq_true q783
                                          have p784 : 0 ≤ (x31_9 : Int) := of_decide_eq_true (by first | (with_reducible assumption) | assumption)
                                          have q784 : x31_9 < (y739.length : Int) := of_decide_eq_true (by first | (with_reducible assumption) | assumption)
                                          obtain ⟨ad784, e784, hx784_0, hx784_1⟩ := at_T43 (Kd.R_reads' HO_14.out).2.2 x31_9 p784 q784
                                          obtain rfl : ad783 = ad784 := (by injection e784)
                                          replace p784 := eq_true p784
                                          replace q784 := eq_true q784
                                          have p785 : 0 ≤ (x31_9 : Int) := of_decide_eq_true (by first | (with_reducible assumption) | assumption)
                                          have q785 : x31_9 < (t777.length : Int) := of_decide_eq_true (by first | (with_reducible assumption) | assumption)
                                          obtain ⟨ad785, e785, hx785_0⟩ := Kd.at_int (Kd.R_reads' HO_29.out).2.2 x31_9 p785 q785
                                          obtain rfl : ad781 = ad785 := (by injection e785)
                                          replace p785 := eq_true p785
                                          replace q785 := eq_true q785
                                          have p786 : 0 ≤ (x31_9 : Int) := of_decide_eq_true (by first | (with_reducible assumption) | assumption)
                                          have q786 : x31_9 < (y739.length : Int) := of_decide_eq_true (by first | (with_reducible assumption) | assumption)
                                          obtain ⟨ad786, e786, hx786_0, hx786_1⟩ := at_T43 (Kd.R_reads' HO_14.out).2.2 x31_9 p786 q786
                                          obtain rfl : ad783 = ad786 := (by injection e786)
                                          replace p786 := eq_true p786
                                          replace q786 := eq_true q786
                                          go_wp2
                                          repeat (go_quiet (fail); try go_wp2)
                                          go_roundg k9
                                          case measure => have := HJ4.out; have := HJ9.out; have := HJ14.out; have := HJ31.out; have := HK5.out; have := HK6.out; have := HK7.out; have := HJ100.out; have := HK9.out; omega
                                          case rel => exact ⟨(Int.tmod (wrap64 (x30_9 + (wrap64 ((rd t777 x31_9) * ((rd_T43 y739 x31_9).f1))))) 251), (wrap64 (x31_9 + 1)), (by first | rfl | (simp; done) | (simp [*]; done)), (by first | rfl | (simp; done) | (simp [*]; done)), H', ⟨by have := HJ4.out; have := HJ9.out; have := HJ14.out; have := HJ31.out; have := HK5.out; have := HK6.out; have := HK7.out; have := HJ100.out; have := HK9.out; omega⟩, ⟨by (with_reducible repeat (first | apply Kd.R_alloc | apply Kd.R_drewN | apply Kd.R_drew)); exact HO_11.out⟩, ⟨by (with_reducible repeat (first | apply Kd.R_alloc | apply Kd.R_drewN | apply Kd.R_drew)); exact HO_14.out⟩, ⟨by (with_reducible repeat (first | apply Kd.R_alloc | apply Kd.R_drewN | apply Kd.R_drew)); exact HO_29.out⟩, ⟨by (with_reducible repeat (first | refine blk_drewN ?_ _ | refine blk_drew ?_ | refine blk_alloc ?_ _)); exact BK725.out⟩, ⟨by repeat (first | (with_reducible first | exact HB.out | apply below_alloc | apply pw_below_drewN | apply below_drew1 | refine below_set ?_ GE725.out) | exact HB.out)⟩⟩
                                     ·rw [if_neg c109] at H
                                      exact absurd H (by simp)
                                    ·rw [if_neg c108] at H
                                     exact absurd H (by simp)
                                   ·rw [if_neg c107] at H
                                    have c107b0 : decide (x31_9 < (y739.length : Int)) = false := decide_eq_false c107
                                    clear c107
                                    by_cases c119 : 0 < (l0_0.length : Int)
                                    ·rw [if_pos c119] at H
                                     have c119b0 : decide (0 < (l0_0.length : Int)) = true := decide_eq_true c119
                                     have c119b1 : decide (0 < l0_0.length) = true := decide_eq_true (by omega)
                                     clear c119
                                     by_cases c120 : x30_9 = (rd l0_0 0)
                                     ·rw [if_pos c120] at H
                                      have c120b0 : (x30_9 == (rd l0_0 0)) = true := beq_iff_eq.mpr c120
                                      have c120b1 : (x30_9 != (rd l0_0 0)) = false := bne_eq_false_iff_eq.mpr c120
                                      clear c120
                                      replace H := Option.bind_eq_some_iff.mp H
                                      obtain ⟨⟨t788, t789⟩, A1210, H⟩ := H
                                      replace H : (if t789 = 0 then (verditertop_topSecrets.j9 k9 l0_0 l0_1 t728 ji22 y739 t788 ((l0_1.length : Int) != (l0_0.length : Int))) else (verditertop_topSecrets.j9 k9 l0_0 l0_1 t728 ji22 y739 t788 true)) = some r := H
                                      have A121 := Aside0.mk A1210
                                      clear A1210
                                      have HC122 := Aside0.mk H
                                      clear H
                                      have p787 : 0 ≤ (0 : Int) := (by omega)
                                      have q787 : 0 < (l0_0.length : Int) := of_decide_eq_true (by first | (with_reducible assumption) | assumption)
                                      obtain ⟨ad787, e787, hx787_0⟩ := Kd.at_int HR0_0.out 0 p787 q787
                                      cases e787
                                      have qi787 : (0 < l0_0.length) = True := eq_true (by omega)
                                      (try rw [show ((0 : Int)).toNat = 0 from rfl] at hx787_0)
                                      (try rw [Addr.add_zero'] at hx787_0)
                                      replace hx787_0 := (HB.out.cell (World.block_lt_of_cell? w _ hx787_0)).trans hx787_0
                                      replace p787 := eq_true p787
                                      replace q787 := eq_true q787
                                      iterate 8 (go_upto_region 51 with (first | (go_at_call 51; (with_reducible refine (secret_Share.calls k9 _ _ l0_1 12 t788 t789 _ ?side1 ?side2 A121.out).mono ?_); (case side1 => repeat (first | exact (Kd.C_below HR0_1.out HB.out) | (with_reducible refine Kd.C_alloc ?_ _) | (with_reducible refine Kd.C_drewN ?_ _) | (with_reducible refine Kd.C_drew ?_))); (case side2 => exact HC0_1.out); rintro e w123 ⟨v790, rfl, ho0, hb⟩; have n0_ := Aside0.mk (Kd.R_elder' (by (with_reducible repeat (first | apply Kd.R_alloc | apply Kd.R_drewN | apply Kd.R_drew)); exact HO_11.out) (Kd.R_base ho0) hb); have n1_ := Aside0.mk (Kd.R_elder' (by (with_reducible repeat (first | apply Kd.R_alloc | apply Kd.R_drewN | apply Kd.R_drew)); exact HO_14.out) (Kd.R_base ho0) hb); have n2_ := Aside0.mk (Kd.R_below (by (with_reducible repeat (first | apply Kd.R_alloc | apply Kd.R_drewN | apply Kd.R_drew)); exact HO_29.out) hb); have n3_ := Aside0.mk (Kd.R_lower (Kd.R_new' (Kd.R_new' ho0 (Kd.R_lt (by (with_reducible repeat (first | apply Kd.R_alloc | apply Kd.R_drewN | apply Kd.R_drew)); exact HO_11.out))) (Kd.R_lt (by (with_reducible repeat (first | apply Kd.R_alloc | apply Kd.R_drewN | apply Kd.R_drew)); exact HO_14.out))) (below_size (by repeat (first | (with_reducible first | exact HB.out | apply below_alloc | apply pw_below_drewN | apply below_drew1 | refine below_set ?_ GE725.out) | exact HB.out)))); have n4_ := Aside0.mk (blk_below (g := gb725) (o := .cells #[.slice (some ad787) l0_0.length c0_0, .slice A0_1 l0_1.length c0_1] 31 (0, 0)) (by (with_reducible repeat (first | refine blk_drewN ?_ _ | refine blk_drew ?_ | refine blk_alloc ?_ _)); exact BK725.out) hb); have n5_ := Aside0.mk (below_step (by repeat (first | (with_reducible first | exact HB.out | apply below_alloc | apply pw_below_drewN | apply below_drew1 | refine below_set ?_ GE725.out) | exact HB.out)) hb); clear HO_11; clear HO_14; clear HO_29; clear BK725; clear HB; have HO_11 := n0_; have HO_14 := n1_; have HO_29 := n2_; have HO791 := n3_; have BK725 := n4_; have HB := n5_; clear n0_ n1_ n2_ n3_ n4_ n5_; (try clear hb); (try clear hb2); (try clear hk); (try clear hi); (try clear ho0))); try go_quiet (fail))
                                      (try simp only [Act.put, List.setIfInBounds_toArray, List.set_cons_zero, List.set_cons_succ])
                                      go_cut [298] (fun v298 wc => ∃ (kq : Nat) (x298_121 : Bool), v298 = .bool x298_121 ∧ Aside0 (verditertop_topSecrets.j9 kq l0_0 l0_1 t728 ji22 y739 t788 x298_121 = some r) ∧ Aside0 (kq ≤ k9) ∧ Aside0 (Kd.R k43 43 wc w.heap.size (fun k_ => some k_ ≠ ((.slice Ao38 y739.length co38) : Value).ownBlock ∧ some k_ ≠ (v790 : Value).ownBlock) (.slice Ao36 t728.length co36) t728) ∧ Aside0 (Kd.R k43 43 wc w.heap.size (fun k_ => some k_ ≠ ((.slice Ao36 t728.length co36) : Value).ownBlock ∧ some k_ ≠ (v790 : Value).ownBlock) (.slice Ao38 y739.length co38) y739) ∧ Aside0 (Kd.R k43 43 wc w.heap.size (fun k_ => some k_ ≠ ((.slice Ao36 t728.length co36) : Value).ownBlock ∧ some k_ ≠ ((.slice Ao38 y739.length co38) : Value).ownBlock) v790 t788) ∧ Aside0 (wc.heap[gb725]? = some (.cells #[(.slice (some ad787) l0_0.length c0_0), (.slice A0_1 l0_1.length c0_1)] 31 (0, 0))) ∧ Aside0 (Below w.heap.size w wc))
                                      case first =>
                                       as_aux_lemma =>
                                       have H := HC122.out
                                       clear HC122
                                       by_cases c124 : t789 = 0
                                       ·rw [if_pos c124] at H
                                        have c124b0 : (t789 == 0) = true := beq_iff_eq.mpr c124
                                        have c124b1 : (t789 != 0) = false := bne_eq_false_iff_eq.mpr c124
                                        clear c124
                                        (first | rw [c124b0] | (simp only [i64_w, i32_w]; rw [c124b0]) | skip)
                                        have H' := Aside0.mk H
                                        clear H
                                        go_wp2
                                        repeat (go_quiet (fail); try go_wp2)
                                        go_meet
                                        case rel => exact ⟨_, (((l0_1.length : Int) != (l0_0.length : Int))), (by first | rfl | (simp; done) | (simp [*]; done)), H', ⟨by have := HJ4.out; have := HJ9.out; have := HJ14.out; have := HJ31.out; have := HK5.out; have := HK6.out; have := HK7.out; have := HJ100.out; have := HK9.out; first | omega | exact Nat.le_refl _⟩, ⟨by (with_reducible repeat (first | apply Kd.R_alloc | apply Kd.R_drewN | apply Kd.R_drew)); exact HO_11.out⟩, ⟨by (with_reducible repeat (first | apply Kd.R_alloc | apply Kd.R_drewN | apply Kd.R_drew)); exact HO_14.out⟩, ⟨by (with_reducible repeat (first | apply Kd.R_alloc | apply Kd.R_drewN | apply Kd.R_drew)); exact Kd.R_mono HO791.out (fun _ hk => ⟨hk.1.2, hk.2⟩)⟩, ⟨by (with_reducible repeat (first | refine blk_drewN ?_ _ | refine blk_drew ?_ | refine blk_alloc ?_ _)); exact BK725.out⟩, ⟨by repeat (first | (with_reducible first | exact HB.out | apply below_alloc | apply pw_below_drewN | apply below_drew1 | refine below_set ?_ GE725.out) | exact HB.out)⟩⟩
                                       ·rw [if_neg c124] at H
                                        have c124b0 : (t789 == 0) = false := beq_eq_false_iff_ne.mpr c124
                                        have c124b1 : (t789 != 0) = true := bne_iff_ne.mpr c124
                                        (first | rw [c124b0] | (simp only [i64_w, i32_w]; rw [c124b0]) | skip)
                                        have H' := Aside0.mk H
                                        clear H
                                        go_wp2
                                        repeat (go_quiet (fail); try go_wp2)
                                        go_meet
                                        case rel => exact ⟨_, (true), (by first | rfl | (simp; done) | (simp [*]; done)), H', ⟨by have := HJ4.out; have := HJ9.out; have := HJ14.out; have := HJ31.out; have := HK5.out; have := HK6.out; have := HK7.out; have := HJ100.out; have := HK9.out; first | omega | exact Nat.le_refl _⟩, ⟨by (with_reducible repeat (first | apply Kd.R_alloc | apply Kd.R_drewN | apply Kd.R_drew)); exact HO_11.out⟩, ⟨by (with_reducible repeat (first | apply Kd.R_alloc | apply Kd.R_drewN | apply Kd.R_drew)); exact HO_14.out⟩, ⟨by (with_reducible repeat (first | apply Kd.R_alloc | apply Kd.R_drewN | apply Kd.R_drew)); exact Kd.R_mono HO791.out (fun _ hk => ⟨hk.1.2, hk.2⟩)⟩, ⟨by (with_reducible repeat (first | refine blk_drewN ?_ _ | refine blk_drew ?_ | refine blk_alloc ?_ _)); exact BK725.out⟩, ⟨by repeat (first | (with_reducible first | exact HB.out | apply below_alloc | apply pw_below_drewN | apply below_drew1 | refine below_set ?_ GE725.out) | exact HB.out)⟩⟩
                                      case rest =>
                                       as_aux_lemma =>
                                       clear HC122 c107b0 c119b0 c119b1 c120b0 c120b1 hx787_0 p787 q787
                                       obtain ⟨kq, x298_121, rfl, HA, HJ121, HO_11, HO_14, HO_32, BK725, HB⟩ := hcut
                                       cases kq with
                                       | zero => exact absurd HA.out (by simp [verditertop_topSecrets.j9])
                                       | succ kj121 =>
                                        have H := HA.out
                                        clear HA
                                        simp only [verditertop_topSecrets.j9] at H
                                        by_cases c125 : x298_121 = true
                                        ·subst c125
                                         have H1 : (some true) = some r := by rw [if_pos rfl] at H; exact H
                                         clear H
                                         have H := H1
                                         clear H1
                                         obtain rfl := Option.some.inj H
                                         go_wp2
                                         repeat (go_quiet (fail); try go_wp2)
                                         go_ret
                                         exact ⟨by first | rfl | (simp [errW_none, errW_some] <;> rfl) | (simp only [← hji22]; first | rfl | (simp [errW_none, errW_some] <;> rfl)) | (simp [*, errW_none, errW_some] <;> rfl), by repeat (first | (with_reducible first | exact HB.out | apply below_alloc | apply pw_below_drewN | apply below_drew1 | refine below_set ?_ GE725.out) | exact HB.out)⟩
                                        ·replace c125 := Bool.eq_false_iff.mpr c125
                                         subst c125
                                         have H1 : ((secret_Add.f t728 t788).bind fun bt792 => (if bt792.2 = 0 then (verditertop_topSecrets.j10 kj121 l0_0 l0_1 ji22 y739 bt792.1 ((bt792.1.length : Int) != 12)) else (verditertop_topSecrets.j10 kj121 l0_0 l0_1 ji22 y739 bt792.1 true))) = some r := by rw [if_neg (show ¬ (false = true) by decide)] at H; exact H
                                         clear H
                                         have H := H1
                                         clear H1
                                         replace H := Option.bind_eq_some_iff.mp H
                                         obtain ⟨⟨t792, t793⟩, A1260, H⟩ := H
                                         replace H : (if t793 = 0 then (verditertop_topSecrets.j10 kj121 l0_0 l0_1 ji22 y739 t792 ((t792.length : Int) != 12)) else (verditertop_topSecrets.j10 kj121 l0_0 l0_1 ji22 y739 t792 true)) = some r := H
                                         have A126 := Aside0.mk A1260
                                         clear A1260
                                         have HC127 := Aside0.mk H
                                         clear H
                                         obtain ⟨Ao128, co128, eo128⟩ := Kd.R_slice HO_32.out
                                         subst eo128
                                         iterate 8 (go_upto_region 54 with (first | (go_at_call 57; (with_reducible refine (secret_Add.calls _ _ t728 _ _ t788 t792 t793 _ ?side1 ?side2 ?side3 ?side4 A126.out).mono ?_); (case side1 => repeat (first | exact (Kd.R_reads' HO_11.out).2.2 | (with_reducible refine Kd.C_alloc ?_ _) | (with_reducible refine Kd.C_drewN ?_ _) | (with_reducible refine Kd.C_drew ?_))); (case side2 => exact (Kd.R_reads' HO_11.out).2.1); (case side3 => repeat (first | exact (Kd.R_reads' HO_32.out).2.2 | (with_reducible refine Kd.C_alloc ?_ _) | (with_reducible refine Kd.C_drewN ?_ _) | (with_reducible refine Kd.C_drew ?_))); (case side4 => exact (Kd.R_reads' HO_32.out).2.1); rintro e w129 ⟨v794, rfl, ho0, hb⟩; have n0_ := Aside0.mk (Kd.R_elder' (by (with_reducible repeat (first | apply Kd.R_alloc | apply Kd.R_drewN | apply Kd.R_drew)); exact HO_11.out) (Kd.R_base ho0) hb); have n1_ := Aside0.mk (Kd.R_elder' (by (with_reducible repeat (first | apply Kd.R_alloc | apply Kd.R_drewN | apply Kd.R_drew)); exact HO_14.out) (Kd.R_base ho0) hb); have n2_ := Aside0.mk (Kd.R_elder' (by (with_reducible repeat (first | apply Kd.R_alloc | apply Kd.R_drewN | apply Kd.R_drew)); exact HO_32.out) (Kd.R_base ho0) hb); have n3_ := Aside0.mk (Kd.R_lower (Kd.R_new' (Kd.R_new' (Kd.R_new' ho0 (Kd.R_lt (by (with_reducible repeat (first | apply Kd.R_alloc | apply Kd.R_drewN | apply Kd.R_drew)); exact HO_11.out))) (Kd.R_lt (by (with_reducible repeat (first | apply Kd.R_alloc | apply Kd.R_drewN | apply Kd.R_drew)); exact HO_14.out))) (Kd.R_lt (by (with_reducible repeat (first | apply Kd.R_alloc | apply Kd.R_drewN | apply Kd.R_drew)); exact HO_32.out))) (below_size (by repeat (first | (with_reducible first | exact HB.out | apply below_alloc | apply pw_below_drewN | apply below_drew1 | refine below_set ?_ GE725.out) | exact HB.out)))); have n4_ := Aside0.mk (blk_below (g := gb725) (o := .cells #[.slice (some ad787) l0_0.length c0_0, .slice A0_1 l0_1.length c0_1] 31 (0, 0)) (by (with_reducible repeat (first | refine blk_drewN ?_ _ | refine blk_drew ?_ | refine blk_alloc ?_ _)); exact BK725.out) hb); have n5_ := Aside0.mk (below_step (by repeat (first | (with_reducible first | exact HB.out | apply below_alloc | apply pw_below_drewN | apply below_drew1 | refine below_set ?_ GE725.out) | exact HB.out)) hb); clear HO_11; clear HO_14; clear HO_32; clear BK725; clear HB; have HO_11 := n0_; have HO_14 := n1_; have HO_32 := n2_; have HO795 := n3_; have BK725 := n4_; have HB := n5_; clear n0_ n1_ n2_ n3_ n4_ n5_; (try clear hb); (try clear hb2); (try clear hk); (try clear hi); (try clear ho0))); try go_quiet (fail))
                                         (try simp only [Act.put, List.setIfInBounds_toArray, List.set_cons_zero, List.set_cons_succ])
                                         go_cut [311] (fun v311 wc => ∃ (kq : Nat) (x311_126 : Bool), v311 = .bool x311_126 ∧ Aside0 (verditertop_topSecrets.j10 kq l0_0 l0_1 ji22 y739 t792 x311_126 = some r) ∧ Aside0 (kq ≤ kj121) ∧ Aside0 (Kd.R k43 43 wc w.heap.size (fun k_ => some k_ ≠ (v794 : Value).ownBlock) (.slice Ao38 y739.length co38) y739) ∧ Aside0 (Kd.R k43 43 wc w.heap.size (fun k_ => some k_ ≠ ((.slice Ao38 y739.length co38) : Value).ownBlock) v794 t792) ∧ Aside0 (wc.heap[gb725]? = some (.cells #[(.slice (some ad787) l0_0.length c0_0), (.slice A0_1 l0_1.length c0_1)] 31 (0, 0))) ∧ Aside0 (Below w.heap.size w wc))
                                         case first =>
                                          as_aux_lemma =>
                                          have H := HC127.out
                                          clear HC127
                                          by_cases c130 : t793 = 0
                                          ·rw [if_pos c130] at H
                                           have c130b0 : (t793 == 0) = true := beq_iff_eq.mpr c130
                                           have c130b1 : (t793 != 0) = false := bne_eq_false_iff_eq.mpr c130
                                           clear c130
                                           (first | rw [c130b0] | (simp only [i64_w, i32_w]; rw [c130b0]) | skip)
                                           have H' := Aside0.mk H
                                           clear H
                                           obtain ⟨Ao131, co131, eo131⟩ := Kd.R_slice HO795.out
                                           subst eo131
                                           go_wp2
                                           repeat (go_quiet (fail); try go_wp2)
                                           go_meet
                                           case rel => exact ⟨_, (((t792.length : Int) != 12)), (by first | rfl | (simp; done) | (simp [*]; done)), H', ⟨by have := HJ4.out; have := HJ9.out; have := HJ14.out; have := HJ31.out; have := HK5.out; have := HK6.out; have := HK7.out; have := HJ100.out; have := HK9.out; have := HJ121.out; first | omega | exact Nat.le_refl _⟩, ⟨by (with_reducible repeat (first | apply Kd.R_alloc | apply Kd.R_drewN | apply Kd.R_drew)); exact Kd.R_mono HO_14.out (fun _ hk => hk.2)⟩, ⟨by (with_reducible repeat (first | apply Kd.R_alloc | apply Kd.R_drewN | apply Kd.R_drew)); exact Kd.R_mono HO795.out (fun _ hk => hk.1.2)⟩, ⟨by (with_reducible repeat (first | refine blk_drewN ?_ _ | refine blk_drew ?_ | refine blk_alloc ?_ _)); exact BK725.out⟩, ⟨by repeat (first | (with_reducible first | exact HB.out | apply below_alloc | apply pw_below_drewN | apply below_drew1 | refine below_set ?_ GE725.out) | exact HB.out)⟩⟩
                                          ·rw [if_neg c130] at H
                                           have c130b0 : (t793 == 0) = false := beq_eq_false_iff_ne.mpr c130
                                           have c130b1 : (t793 != 0) = true := bne_iff_ne.mpr c130
                                           (first | rw [c130b0] | (simp only [i64_w, i32_w]; rw [c130b0]) | skip)
                                           exact absurd (show r = false by first | exact no_j0 H | exact no_j2 H | exact no_j3 H | exact no_j7 H | exact no_j10 H | exact no_j11 H) (by rw [HRT.out]; decide)
                                         case rest =>
                                          as_aux_lemma =>
                                          clear HC127
                                          obtain ⟨kq, x311_126, rfl, HA, HJ126, HO_14, HO_33, BK725, HB⟩ := hcut
                                          cases kq with
                                          | zero => exact absurd HA.out (by simp [verditertop_topSecrets.j10])
                                          | succ kj126 =>
                                           have H := HA.out
                                           clear HA
                                           simp only [verditertop_topSecrets.j10] at H
                                           by_cases c132 : x311_126 = true
                                           ·subst c132
                                            have H1 : (some false) = some r := by rw [if_pos rfl] at H; exact H
                                            clear H
                                            have H := H1
                                            clear H1
                                            exact absurd (Option.some.inj H) (by rw [HRT.out]; decide)
                                           ·replace c132 := Bool.eq_false_iff.mpr c132
                                            subst c132
                                            have H1 : ((some (([] : List (S43)) : List (S43))).bind fun y796 => (if 0 ≤ ji22 then (if ji22 ≤ (wrap64 (ji22 + (l0_0.length : Int))) then (if (wrap64 (ji22 + (l0_0.length : Int))) ≤ (t792.length : Int) then ((some ((t792.take ((wrap64 (ji22 + (l0_0.length : Int))) : Int).toNat).drop (ji22 : Int).toNat : List (S43))).bind fun y799 => (if y796.length + y799.length < 8796093022208 then ((secret_Secret.f (y796 ++ y799)).bind fun bt806 => (if bt806.2 = 0 then (if (l0_1.length : Int) = 0 then (verditertop_topSecrets.j11 kj126 l0_0 l0_1 y739 true) else (if 0 < (l0_0.length : Int) then (if 0 < (l0_1.length : Int) then (verditertop_topSecrets.j11 kj126 l0_0 l0_1 y739 (bt806.1 != (Int.tmod (wrap64 ((rd l0_0 0) + (rd l0_1 0))) 251))) else (none)) else (none))) else (verditertop_topSecrets.j11 kj126 l0_0 l0_1 y739 true))) else (none))) else (none)) else (none)) else (none))) = some r := by rw [if_neg (show ¬ (false = true) by decide)] at H; exact H
                                            clear H
                                            have H := H1
                                            clear H1
                                            obtain ⟨y796, hy796⟩ : ∃ y_ : List (S43), y_ = (([] : List (S43))) := ⟨_, rfl⟩
                                            replace H : (if 0 ≤ ji22 then (if ji22 ≤ (wrap64 (ji22 + (l0_0.length : Int))) then (if (wrap64 (ji22 + (l0_0.length : Int))) ≤ (t792.length : Int) then ((some ((t792.take ((wrap64 (ji22 + (l0_0.length : Int))) : Int).toNat).drop (ji22 : Int).toNat : List (S43))).bind fun y799 => (if y796.length + y799.length < 8796093022208 then ((secret_Secret.f (y796 ++ y799)).bind fun bt806 => (if bt806.2 = 0 then (if (l0_1.length : Int) = 0 then (verditertop_topSecrets.j11 kj126 l0_0 l0_1 y739 true) else (if 0 < (l0_0.length : Int) then (if 0 < (l0_1.length : Int) then (verditertop_topSecrets.j11 kj126 l0_0 l0_1 y739 (bt806.1 != (Int.tmod (wrap64 ((rd l0_0 0) + (rd l0_1 0))) 251))) else (none)) else (none))) else (verditertop_topSecrets.j11 kj126 l0_0 l0_1 y739 true))) else (none))) else (none)) else (none)) else (none)) = some r := by first | (rw [hy796]; with_reducible exact H) | (have H2_ := (Option.bind_some _ _).symm.trans H; rw [hy796]; with_reducible exact H2_) | (have H2_ := (Option.bind_some _ _).symm.trans H; with_reducible exact H2_) | with_reducible exact H | (rw [hy796]; exact H) | exact H
                                            have Ny796 := Aside0.mk hy796
                                            clear hy796
                                            by_cases c133 : 0 ≤ ji22
                                            ·rw [if_pos c133] at H
                                             have c133b0 := eq_true c133
                                             have c133b1 : decide (0 ≤ ji22) = true := decide_eq_true c133
                                             clear c133
                                             by_cases c134 : ji22 ≤ (wrap64 (ji22 + (l0_0.length : Int)))
                                             ·rw [if_pos c134] at H
                                              have c134b0 := eq_true c134
                                              have c134b1 : decide (ji22 ≤ (wrap64 (ji22 + (l0_0.length : Int)))) = true := decide_eq_true c134
                                              by_cases c135 : (wrap64 (ji22 + (l0_0.length : Int))) ≤ (t792.length : Int)
                                              ·rw [if_pos c135] at H
                                               have c135b0 := eq_true c135
                                               have c135b1 : decide ((wrap64 (ji22 + (l0_0.length : Int))) ≤ (t792.length : Int)) = true := decide_eq_true c135
                                               obtain ⟨y799, hy799⟩ : ∃ y_ : List (S43), y_ = ((t792.take ((wrap64 (ji22 + (l0_0.length : Int))) : Int).toNat).drop (ji22 : Int).toNat) := ⟨_, rfl⟩
                                               replace H : (if y796.length + y799.length < 8796093022208 then ((secret_Secret.f (y796 ++ y799)).bind fun bt806 => (if bt806.2 = 0 then (if (l0_1.length : Int) = 0 then (verditertop_topSecrets.j11 kj126 l0_0 l0_1 y739 true) else (if 0 < (l0_0.length : Int) then (if 0 < (l0_1.length : Int) then (verditertop_topSecrets.j11 kj126 l0_0 l0_1 y739 (bt806.1 != (Int.tmod (wrap64 ((rd l0_0 0) + (rd l0_1 0))) 251))) else (none)) else (none))) else (verditertop_topSecrets.j11 kj126 l0_0 l0_1 y739 true))) else (none)) = some r := by first | (rw [hy799]; with_reducible exact H) | (have H2_ := (Option.bind_some _ _).symm.trans H; rw [hy799]; with_reducible exact H2_) | (have H2_ := (Option.bind_some _ _).symm.trans H; with_reducible exact H2_) | with_reducible exact H | (rw [hy799]; exact H) | exact H
                                               have Ny799 := Aside0.mk hy799
                                               clear hy799
                                               by_cases c136 : y796.length + y799.length < 8796093022208
                                               ·rw [if_pos c136] at H
                                                have LMc136 := Aside0.mk c136
                                                clear c136
                                                obtain ⟨y803, hy803⟩ : ∃ y_ : List (S43), y_ = (y796 ++ y799) := ⟨_, rfl⟩
                                                replace H : ((secret_Secret.f y803).bind fun bt806 => (if bt806.2 = 0 then (if (l0_1.length : Int) = 0 then (verditertop_topSecrets.j11 kj126 l0_0 l0_1 y739 true) else (if 0 < (l0_0.length : Int) then (if 0 < (l0_1.length : Int) then (verditertop_topSecrets.j11 kj126 l0_0 l0_1 y739 (bt806.1 != (Int.tmod (wrap64 ((rd l0_0 0) + (rd l0_1 0))) 251))) else (none)) else (none))) else (verditertop_topSecrets.j11 kj126 l0_0 l0_1 y739 true))) = some r := by first | (rw [hy803]; with_reducible exact H) | (have H2_ := (Option.bind_some _ _).symm.trans H; rw [hy803]; with_reducible exact H2_) | (have H2_ := (Option.bind_some _ _).symm.trans H; with_reducible exact H2_) | with_reducible exact H | (rw [hy803]; exact H) | exact H
                                                have Ny803 := Aside0.mk hy803
                                                clear hy803
                                                replace H := Option.bind_eq_some_iff.mp H
                                                obtain ⟨⟨t806, t807⟩, A1370, H⟩ := H
                                                replace H : (if t807 = 0 then (if (l0_1.length : Int) = 0 then (verditertop_topSecrets.j11 kj126 l0_0 l0_1 y739 true) else (if 0 < (l0_0.length : Int) then (if 0 < (l0_1.length : Int) then (verditertop_topSecrets.j11 kj126 l0_0 l0_1 y739 (t806 != (Int.tmod (wrap64 ((rd l0_0 0) + (rd l0_1 0))) 251))) else (none)) else (none))) else (verditertop_topSecrets.j11 kj126 l0_0 l0_1 y739 true)) = some r := H
                                                have A137 := Aside0.mk A1370
                                                clear A1370
                                                have HC138 := Aside0.mk H
                                                clear H
                                                iterate 8 (go_upto_region 57 with (first | ((with_reducible refine gate_dst (N := 313) rfl ?_); (try (refine gate_guard (by rfl) ?_; dsimp only)); refine Kd.R_lit k43 _ 43 ?hg (N := 313) ?hd (xs := ([] : List (S43))) (inner := []) (ok := fun _ => True) (okp := fun _ => True) ?hr ?hp (fun _ hk => hk) trivial (Below.refl _ _) (Nat.le_refl _) (by simp) ?_; (case hd => rfl); (case hg => rfl); (case hr => first | (go_simp; done) | (go_simp; rfl)); (case hp => exact (Reps.none _ _)); intro v797 w139 ho140 hb hg_ hnew_; clear hg_ hnew_; (first | rw [← Ny796.out] at ho140 | (simp only [Int.reduceToNat] at ho140; rw [← Ny796.out] at ho140)); have n0_ := Aside0.mk (Kd.R_elder' (by (with_reducible repeat (first | apply Kd.R_alloc | apply Kd.R_drewN | apply Kd.R_drew)); exact HO_14.out) (Kd.R_base ho140) hb); have n1_ := Aside0.mk (Kd.R_elder' (by (with_reducible repeat (first | apply Kd.R_alloc | apply Kd.R_drewN | apply Kd.R_drew)); exact HO_33.out) (Kd.R_base ho140) hb); have n2_ := Aside0.mk (Kd.R_lower (Kd.R_new' (Kd.R_new' ho140 (Kd.R_lt (by (with_reducible repeat (first | apply Kd.R_alloc | apply Kd.R_drewN | apply Kd.R_drew)); exact HO_14.out))) (Kd.R_lt (by (with_reducible repeat (first | apply Kd.R_alloc | apply Kd.R_drewN | apply Kd.R_drew)); exact HO_33.out))) (below_size (by repeat (first | (with_reducible first | exact HB.out | apply below_alloc | apply pw_below_drewN | apply below_drew1 | refine below_set ?_ GE725.out) | exact HB.out)))); have n3_ := Aside0.mk (blk_below (g := gb725) (o := .cells #[.slice (some ad787) l0_0.length c0_0, .slice A0_1 l0_1.length c0_1] 31 (0, 0)) (by (with_reducible repeat (first | refine blk_drewN ?_ _ | refine blk_drew ?_ | refine blk_alloc ?_ _)); exact BK725.out) hb); have n4_ := Aside0.mk (below_step (by repeat (first | (with_reducible first | exact HB.out | apply below_alloc | apply pw_below_drewN | apply below_drew1 | refine below_set ?_ GE725.out) | exact HB.out)) hb); clear HO_14; clear HO_33; clear BK725; clear HB; have HO_14 := n0_; have HO_33 := n1_; have HO798 := n2_; have BK725 := n3_; have HB := n4_; clear n0_ n1_ n2_ n3_ n4_; clear hb ho140; obtain ⟨Ao142, co142, eo142⟩ := Kd.R_slice HO_33.out; subst eo142; have q141 : ((wrap64 (ji22 + (l0_0.length : Int))) : Int) ≤ ((t792.length : Int) : Int) := of_decide_eq_true (by first | (with_reducible assumption) | assumption); obtain ⟨i0141, hi0141, _, hsz141, _⟩ := info_parts info43; have hroom141 : t792.length ≤ co142 := (Kd.R_reads' HO_33.out).2.1; have hC141 : Kd.C k43 _ Ao142 t792.length t792 := (Kd.R_reads' HO_33.out).2.2; have ql141 : (ji22 : Int) ≤ ((wrap64 (ji22 + (l0_0.length : Int))) : Int) := of_decide_eq_true (by first | (with_reducible assumption) | assumption); have q0141 : (0 : Int) ≤ (ji22 : Int) := of_decide_eq_true (by first | (with_reducible assumption) | assumption); have hcut141 := cut_mid (P := Try.prog) 22 43 .i64 .i64 Try.underlying22 hi0141 2 hsz141 Ao142 t792.length co142 ji22 (wrap64 (ji22 + (l0_0.length : Int))) q0141 ql141 q141 hroom141; have hr141 := Kd.C_mid (lo := (ji22 : Int).toNat) (hi := ((wrap64 (ji22 + (l0_0.length : Int))) : Int).toNat) (c := co142) hC141 (by omega) (by omega) hroom141; obtain ⟨A141, hA141⟩ : ∃ A1, A1 = (if co142 = (ji22 : Int).toNat then Ao142 else (Ao142 : Option Addr).map (·.add ((ji22 : Int).toNat * 2))) := ⟨_, rfl⟩; obtain ⟨c141, hc141⟩ : ∃ c1, c1 = co142 - (ji22 : Int).toNat := ⟨_, rfl⟩; have hy141 : y799.length = ((wrap64 (ji22 + (l0_0.length : Int))) : Int).toNat - (ji22 : Int).toNat := (by rw [Ny799.out, List.length_drop, List.length_take] <;> omega); rw [show ((t792).take ((wrap64 (ji22 + (l0_0.length : Int))) : Int).toNat).drop (ji22 : Int).toNat = y799 from Ny799.out.symm] at hr141; replace hr141 : Kd.C k43 _ A141 y799.length y799 := (by rw [hA141]; exact hr141); rw [← hy141, ← hA141, ← hc141] at hcut141; have HR802 := Aside0.mk hr141; have HC802 := Aside0.mk (show y799.length ≤ c141 from by rw [hy141, hc141]; exact Nat.sub_le_sub_right (Nat.le_trans (by omega) hroom141) _); clear hr141 hC141 hroom141 hi0141 hsz141 hc141; have KY141 := Aside0.mk hy141; have KA141 := Aside0.mk hA141; clear hy141 hA141; have KL141 := Aside0.mk (show ((wrap64 (ji22 + (l0_0.length : Int))) : Int).toNat ≤ t792.length from by omega); have KM141 := Aside0.mk (show (ji22 : Int).toNat ≤ ((wrap64 (ji22 + (l0_0.length : Int))) : Int).toNat from by omega); replace q141 := eq_true q141) | ((with_reducible refine gate_builtin (b := .append) (xs := #[.tmp 313, .tmp 320]) rfl ?_); (try (refine gate_guard (by rfl) ?_; dsimp only)); at_builtin; refine Kd.R_append_rows k43 (w0 := w) w.heap.size rfl (.tmp 313) (.tmp 320) 22 43 (.agg #[(.int .i64 0), (.int .i64 0)]) 16 rfl Try.underlying22 info43 rfl (by decide) (by omega) v797 y796 y799 _ _ _ (fun k_ => some k_ ≠ (.slice Ao38 y739.length co38 : Value).ownBlock ∧ some k_ ≠ (.slice Ao142 t792.length co142 : Value).ownBlock) (fun _ => False) rfl rfl ?aO ?aR (fun _ _ h => h) (fun _ h => h.elim) ?aF ?aB ?aS ?aL ?_; (case aR => repeat (first | exact (by repeat (first | (with_reducible exact HR802.out) | (with_reducible refine Kd.C_alloc ?_ _) | (with_reducible refine Kd.C_drewN ?_ _) | (with_reducible refine Kd.C_drew ?_) | exact HR802.out)) | (with_reducible refine Kd.C_alloc ?_ _) | (with_reducible refine Kd.C_drewN ?_ _) | (with_reducible refine Kd.C_drew ?_))); (case aB => exact (by repeat (first | (with_reducible first | exact HB.out | apply below_alloc | apply pw_below_drewN | apply below_drew1 | refine below_set ?_ GE725.out) | exact HB.out))); (case aF => exact (fun k_ hk => ⟨Kd.fresh' (Kd.R_lt (by (with_reducible repeat (first | apply Kd.R_alloc | apply Kd.R_drewN | apply Kd.R_drew)); exact HO_14.out)) k_ hk, Kd.fresh' (Kd.R_lt (by (with_reducible repeat (first | apply Kd.R_alloc | apply Kd.R_drewN | apply Kd.R_drew)); exact HO_33.out)) k_ hk⟩)); (case aO => exact (by (with_reducible repeat (first | apply Kd.R_alloc | apply Kd.R_drewN | apply Kd.R_drew)); exact Kd.R_mono HO798.out (fun _ hk => ⟨hk.1.2, hk.2⟩))); (case aS => exact (below_size (by repeat (first | (with_reducible first | exact HB.out | apply below_alloc | apply pw_below_drewN | apply below_drew1 | refine below_set ?_ GE725.out) | exact HB.out)))); (case aL => have := LMc136.out; omega); intro v804 w143 ho hb hg hat; rw [← Ny803.out] at ho; have n0_ := Aside0.mk (Kd.R_after (ok := (fun k_ => some k_ ≠ (.slice Ao142 t792.length co142 : Value).ownBlock)) (by (with_reducible repeat (first | apply Kd.R_alloc | apply Kd.R_drewN | apply Kd.R_drew)); exact HO_14.out) hg hat); have n1_ := Aside0.mk (Kd.R_after (ok := (fun k_ => some k_ ≠ (.slice Ao38 y739.length co38 : Value).ownBlock)) (by (with_reducible repeat (first | apply Kd.R_alloc | apply Kd.R_drewN | apply Kd.R_drew)); exact HO_33.out) hg hat); have n2_ := Aside0.mk (blk_grown (g := gb725) (o := .cells #[.slice (some ad787) l0_0.length c0_0, .slice A0_1 l0_1.length c0_1] 31 (0, 0)) (by (with_reducible repeat (first | refine blk_drewN ?_ _ | refine blk_drew ?_ | refine blk_alloc ?_ _)); exact BK725.out) hg (Kd.R_ne HO798.out BK725.out (by decide))); have n3_ := Aside0.mk (hb); have n4_ := Aside0.mk ((show Kd.C k43 w143 A141 y799.length y799 from by rw [Ny799.out, KA141.out]; exact Kd.C_mid (lo := (ji22 : Int).toNat) (hi := ((wrap64 (ji22 + (l0_0.length : Int))) : Int).toNat) (c := co142) ((Kd.R_reads' (Kd.R_after (ok := (fun k_ => some k_ ≠ (.slice Ao38 y739.length co38 : Value).ownBlock)) (by (with_reducible repeat (first | apply Kd.R_alloc | apply Kd.R_drewN | apply Kd.R_drew)); exact HO_33.out) hg hat)).2.2) KM141.out KL141.out ((Kd.R_reads' (Kd.R_after (ok := (fun k_ => some k_ ≠ (.slice Ao38 y739.length co38 : Value).ownBlock)) (by (with_reducible repeat (first | apply Kd.R_alloc | apply Kd.R_drewN | apply Kd.R_drew)); exact HO_33.out) hg hat)).2.1))); have n5_ := Aside0.mk (ho); clear HO_14; clear HO_33; clear BK725; clear HB; clear HR802; clear HO798; have HO_14 := n0_; have HO_33 := n1_; have BK725 := n2_; have HB := n3_; have HR802 := n4_; have HO805 := n5_; clear n0_ n1_ n2_ n3_ n4_ n5_; clear ho hb hg hat; obtain ⟨Ao144, co144, eo144⟩ := Kd.R_slice HO805.out; subst eo144) | (go_at_call 58; (with_reducible refine (secret_Secret.calls _ _ y803 t806 t807 _ ?side1 ?side2 A137.out).mono ?_); (case side1 => repeat (first | exact (Kd.R_reads' HO805.out).2.2 | (with_reducible refine Kd.C_alloc ?_ _) | (with_reducible refine Kd.C_drewN ?_ _) | (with_reducible refine Kd.C_drew ?_))); (case side2 => exact (Kd.R_reads' HO805.out).2.1); rintro e w145 ⟨rfl, hb⟩; have n0_ := Aside0.mk (Kd.R_below (by (with_reducible repeat (first | apply Kd.R_alloc | apply Kd.R_drewN | apply Kd.R_drew)); exact HO_14.out) hb); have n1_ := Aside0.mk (Kd.R_below (by (with_reducible repeat (first | apply Kd.R_alloc | apply Kd.R_drewN | apply Kd.R_drew)); exact HO_33.out) hb); have n2_ := Aside0.mk (Kd.R_below (by (with_reducible repeat (first | apply Kd.R_alloc | apply Kd.R_drewN | apply Kd.R_drew)); exact HO805.out) hb); have n3_ := Aside0.mk (blk_below (g := gb725) (o := .cells #[.slice (some ad787) l0_0.length c0_0, .slice A0_1 l0_1.length c0_1] 31 (0, 0)) (by (with_reducible repeat (first | refine blk_drewN ?_ _ | refine blk_drew ?_ | refine blk_alloc ?_ _)); exact BK725.out) hb); have n4_ := Aside0.mk (Kd.C_below (by repeat (first | (with_reducible exact HR802.out) | (with_reducible refine Kd.C_alloc ?_ _) | (with_reducible refine Kd.C_drewN ?_ _) | (with_reducible refine Kd.C_drew ?_) | exact HR802.out)) hb); have n5_ := Aside0.mk (below_step (by repeat (first | (with_reducible first | exact HB.out | apply below_alloc | apply pw_below_drewN | apply below_drew1 | refine below_set ?_ GE725.out) | exact HB.out)) hb); clear HO_14; clear HO_33; clear HO805; clear BK725; clear HR802; clear HB; have HO_14 := n0_; have HO_33 := n1_; have HO805 := n2_; have BK725 := n3_; have HR802 := n4_; have HB := n5_; clear n0_ n1_ n2_ n3_ n4_ n5_; (try clear hb); (try clear hb2); (try clear hk); (try clear hi))); try go_quiet (fail))
                                                (try simp only [Act.put, List.setIfInBounds_toArray, List.set_cons_zero, List.set_cons_succ])
                                                go_cut [343] (fun v343 wc => ∃ (kq : Nat) (x343_137 : Bool), v343 = .bool x343_137 ∧ Aside0 (verditertop_topSecrets.j11 kq l0_0 l0_1 y739 x343_137 = some r) ∧ Aside0 (kq ≤ kj126) ∧ Aside0 (Kd.R k43 43 wc w.heap.size (fun _ => True) (.slice Ao38 y739.length co38) y739) ∧ Aside0 (wc.heap[gb725]? = some (.cells #[(.slice (some ad787) l0_0.length c0_0), (.slice A0_1 l0_1.length c0_1)] 31 (0, 0))) ∧ Aside0 (Below w.heap.size w wc))
                                                case first =>
                                                 as_aux_lemma =>
                                                 have H := HC138.out
                                                 clear HC138
                                                 by_cases c146 : t807 = 0
                                                 ·rw [if_pos c146] at H
                                                  have c146b0 : (t807 == 0) = true := beq_iff_eq.mpr c146
                                                  have c146b1 : (t807 != 0) = false := bne_eq_false_iff_eq.mpr c146
                                                  clear c146
                                                  (first | rw [c146b0] | (simp only [i64_w, i32_w]; rw [c146b0]) | skip)
                                                  by_cases c147 : (l0_1.length : Int) = 0
                                                  ·rw [if_pos c147] at H
                                                   have c147b0 : ((l0_1.length : Int) == 0) = true := beq_iff_eq.mpr c147
                                                   have c147b1 : ((l0_1.length : Int) != 0) = false := bne_eq_false_iff_eq.mpr c147
                                                   clear c147
                                                   exact absurd (show r = false by first | exact no_j0 H | exact no_j2 H | exact no_j3 H | exact no_j7 H | exact no_j10 H | exact no_j11 H) (by rw [HRT.out]; decide)
                                                  ·rw [if_neg c147] at H
                                                   have c147b0 : ((l0_1.length : Int) == 0) = false := beq_eq_false_iff_ne.mpr c147
                                                   have c147b1 : ((l0_1.length : Int) != 0) = true := bne_iff_ne.mpr c147
                                                   have c147b2 : ¬ (l0_1 = []) := fun h_ => c147 (by rw [h_]; rfl)
                                                   by_cases c148 : 0 < (l0_0.length : Int)
                                                   ·rw [if_pos c148] at H
                                                    have c148b0 : decide (0 < (l0_0.length : Int)) = true := decide_eq_true c148
                                                    have c148b1 : decide (0 < l0_0.length) = true := decide_eq_true (by omega)
                                                    clear c148
                                                    by_cases c149 : 0 < (l0_1.length : Int)
                                                    ·rw [if_pos c149] at H
                                                     have c149b0 : decide (0 < (l0_1.length : Int)) = true := decide_eq_true c149
                                                     have c149b1 : decide (0 < l0_1.length) = true := decide_eq_true (by omega)
                                                     clear c149
                                                     have H' := Aside0.mk H
                                                     clear H
                                                     have p808 : 0 ≤ (0 : Int) := (by omega)
                                                     have q808 : 0 < (l0_0.length : Int) := of_decide_eq_true (by first | (with_reducible assumption) | assumption)
                                                     obtain ⟨ad808, e808, hx808_0⟩ := Kd.at_int HR0_0.out 0 p808 q808
                                                     obtain rfl : ad787 = ad808 := (by injection e808)
                                                     have qi808 : (0 < l0_0.length) = True := eq_true (by omega)
                                                     (try rw [show ((0 : Int)).toNat = 0 from rfl] at hx808_0)
                                                     (try rw [Addr.add_zero'] at hx808_0)
                                                     replace hx808_0 := (HB.out.cell (World.block_lt_of_cell? w _ hx808_0)).trans hx808_0
                                                     replace p808 := eq_true p808
                                                     replace q808 := eq_true q808
                                                     have p809 : 0 ≤ (0 : Int) := (by omega)
                                                     have q809 : 0 < (l0_1.length : Int) := of_decide_eq_true (by first | (with_reducible assumption) | assumption)
                                                     obtain ⟨ad809, e809, hx809_0⟩ := Kd.at_int HR0_1.out 0 p809 q809
                                                     cases e809
                                                     have qi809 : (0 < l0_1.length) = True := eq_true (by omega)
                                                     (try rw [show ((0 : Int)).toNat = 0 from rfl] at hx809_0)
                                                     (try rw [Addr.add_zero'] at hx809_0)
                                                     replace hx809_0 := (HB.out.cell (World.block_lt_of_cell? w _ hx809_0)).trans hx809_0
                                                     replace p809 := eq_true p809
                                                     replace q809 := eq_true q809
                                                     go_wp2
                                                     repeat (go_quiet (fail); try go_wp2)
                                                     go_meet
                                                     case rel => exact ⟨_, ((t806 != (Int.tmod (wrap64 ((rd l0_0 0) + (rd l0_1 0))) 251))), (by first | rfl | (simp; done) | (simp [*]; done)), H', ⟨by have := HJ4.out; have := HJ9.out; have := HJ14.out; have := HJ31.out; have := HK5.out; have := HK6.out; have := HK7.out; have := HJ100.out; have := HK9.out; have := HJ121.out; have := HJ126.out; first | omega | exact Nat.le_refl _⟩, ⟨by (with_reducible repeat (first | apply Kd.R_alloc | apply Kd.R_drewN | apply Kd.R_drew)); exact Kd.R_mono HO_14.out (fun _ hk => trivial)⟩, ⟨by (with_reducible repeat (first | refine blk_drewN ?_ _ | refine blk_drew ?_ | refine blk_alloc ?_ _)); exact BK725.out⟩, ⟨by repeat (first | (with_reducible first | exact HB.out | apply below_alloc | apply pw_below_drewN | apply below_drew1 | refine below_set ?_ GE725.out) | exact HB.out)⟩⟩
                                                    ·rw [if_neg c149] at H
                                                     exact absurd H (by simp)
                                                   ·rw [if_neg c148] at H
                                                    exact absurd H (by simp)
                                                 ·rw [if_neg c146] at H
                                                  have c146b0 : (t807 == 0) = false := beq_eq_false_iff_ne.mpr c146
                                                  have c146b1 : (t807 != 0) = true := bne_iff_ne.mpr c146
                                                  (first | rw [c146b0] | (simp only [i64_w, i32_w]; rw [c146b0]) | skip)
                                                  exact absurd (show r = false by first | exact no_j0 H | exact no_j2 H | exact no_j3 H | exact no_j7 H | exact no_j10 H | exact no_j11 H) (by rw [HRT.out]; decide)
                                                case rest =>
                                                 as_aux_lemma =>
                                                 clear HC138 c133b0 c133b1 c134 c134b0 c134b1 c135 c135b0 c135b1 q141 q0141
                                                 obtain ⟨kq, x343_137, rfl, HA, HJ137, HO_14, BK725, HB⟩ := hcut
                                                 cases kq with
                                                 | zero => exact absurd HA.out (by simp [verditertop_topSecrets.j11])
                                                 | succ kj137 =>
                                                  have H := HA.out
                                                  clear HA
                                                  simp only [verditertop_topSecrets.j11] at H
                                                  by_cases c150 : x343_137 = true
                                                  ·subst c150
                                                   have H1 : (some false) = some r := by rw [if_pos rfl] at H; exact H
                                                   clear H
                                                   have H := H1
                                                   clear H1
                                                   exact absurd (Option.some.inj H) (by rw [HRT.out]; decide)
                                                  ·replace c150 := Bool.eq_false_iff.mpr c150
                                                   subst c150
                                                   have H1 : ((some (([0] : List Int) : List Int)).bind fun y810 => (if 1 ≤ (l0_1.length : Int) then (if y810.length + (l0_1.drop 1).length < 17592186044416 then ((secret_Renew.f y739 (y810 ++ (l0_1.drop 1))).bind fun bt817 => ((secret_Secret.f bt817.1).bind fun bt821 => (if bt817.2 = 0 then (if bt821.2 = 0 then (if 0 < (l0_0.length : Int) then (some (bt821.1 == (rd l0_0 0))) else (none)) else (some false)) else (some false)))) else (none)) else (none))) = some r := by rw [if_neg (show ¬ (false = true) by decide)] at H; exact H
                                                   clear H
                                                   have H := H1
                                                   clear H1
                                                   obtain ⟨y810, hy810⟩ : ∃ y_ : List Int, y_ = (([0] : List Int)) := ⟨_, rfl⟩
                                                   replace H : (if 1 ≤ (l0_1.length : Int) then (if y810.length + (l0_1.drop 1).length < 17592186044416 then ((secret_Renew.f y739 (y810 ++ (l0_1.drop 1))).bind fun bt817 => ((secret_Secret.f bt817.1).bind fun bt821 => (if bt817.2 = 0 then (if bt821.2 = 0 then (if 0 < (l0_0.length : Int) then (some (bt821.1 == (rd l0_0 0))) else (none)) else (some false)) else (some false)))) else (none)) else (none)) = some r := by first | (rw [hy810]; with_reducible exact H) | (have H2_ := (Option.bind_some _ _).symm.trans H; rw [hy810]; with_reducible exact H2_) | (have H2_ := (Option.bind_some _ _).symm.trans H; with_reducible exact H2_) | with_reducible exact H | (rw [hy810]; exact H) | exact H
                                                   have Ny810 := Aside0.mk hy810
                                                   clear hy810
                                                   by_cases c151 : 1 ≤ (l0_1.length : Int)
                                                   ·rw [if_pos c151] at H
                                                    have c151b0 := eq_true c151
                                                    have c151b1 : decide (1 ≤ (l0_1.length : Int)) = true := decide_eq_true c151
                                                    clear c151
                                                    by_cases c152 : y810.length + (l0_1.drop 1).length < 17592186044416
                                                    ·rw [if_pos c152] at H
                                                     have LMc152 := Aside0.mk c152
                                                     clear c152
                                                     obtain ⟨y814, hy814⟩ : ∃ y_ : List Int, y_ = (y810 ++ (l0_1.drop 1)) := ⟨_, rfl⟩
                                                     replace H : ((secret_Renew.f y739 y814).bind fun bt817 => ((secret_Secret.f bt817.1).bind fun bt821 => (if bt817.2 = 0 then (if bt821.2 = 0 then (if 0 < (l0_0.length : Int) then (some (bt821.1 == (rd l0_0 0))) else (none)) else (some false)) else (some false)))) = some r := by first | (rw [hy814]; with_reducible exact H) | (have H2_ := (Option.bind_some _ _).symm.trans H; rw [hy814]; with_reducible exact H2_) | (have H2_ := (Option.bind_some _ _).symm.trans H; with_reducible exact H2_) | with_reducible exact H | (rw [hy814]; exact H) | exact H
                                                     have Ny814 := Aside0.mk hy814
                                                     clear hy814
                                                     replace H := Option.bind_eq_some_iff.mp H
                                                     obtain ⟨⟨t817, t818⟩, A1530, H⟩ := H
                                                     replace H : ((secret_Secret.f t817).bind fun bt821 => (if t818 = 0 then (if bt821.2 = 0 then (if 0 < (l0_0.length : Int) then (some (bt821.1 == (rd l0_0 0))) else (none)) else (some false)) else (some false))) = some r := H
                                                     have A153 := Aside0.mk A1530
                                                     clear A1530
                                                     replace H := Option.bind_eq_some_iff.mp H
                                                     obtain ⟨⟨t821, t822⟩, A1540, H⟩ := H
                                                     replace H : (if t818 = 0 then (if t822 = 0 then (if 0 < (l0_0.length : Int) then (some (t821 == (rd l0_0 0))) else (none)) else (some false)) else (some false)) = some r := H
                                                     have A154 := Aside0.mk A1540
                                                     clear A1540
                                                     by_cases c155 : t818 = 0
                                                     ·rw [if_pos c155] at H
                                                      have c155b0 : (t818 == 0) = true := beq_iff_eq.mpr c155
                                                      have c155b1 : (t818 != 0) = false := bne_eq_false_iff_eq.mpr c155
                                                      clear c155
                                                      by_cases c156 : t822 = 0
                                                      ·rw [if_pos c156] at H
                                                       have c156b0 : (t822 == 0) = true := beq_iff_eq.mpr c156
                                                       have c156b1 : (t822 != 0) = false := bne_eq_false_iff_eq.mpr c156
                                                       clear c156
                                                       by_cases c157 : 0 < (l0_0.length : Int)
                                                       ·rw [if_pos c157] at H
                                                        have c157b0 : decide (0 < (l0_0.length : Int)) = true := decide_eq_true c157
                                                        have c157b1 : decide (0 < l0_0.length) = true := decide_eq_true (by omega)
                                                        clear c157
                                                        obtain rfl := Option.some.inj H
                                                        go_wp2_with (first | ((with_reducible refine gate_dst (N := 346) rfl ?_); (try (refine gate_guard (by rfl) ?_; dsimp only)); refine Kd.R_lit (Kd.int .i64) _ 3 ?hg (N := 346) ?hd (xs := ([0] : List Int)) (inner := [.int .i64 0]) (ok := fun _ => True) (okp := fun _ => True) ?hr ?hp (fun _ hk => hk) trivial (Below.refl _ _) (Nat.le_refl _) (by simp) ?_; (case hd => rfl); (case hg => rfl); (case hr => first | (go_simp; done) | (go_simp; rfl)); (case hp => exact (Reps.one (show Kd.M (Kd.int .i64) _ _ _ 0 [.int .i64 0] from rfl) (Reps.none _ _))); intro v811 w158 ho159 hb hg_ hnew_; clear hg_ hnew_; (first | rw [← Ny810.out] at ho159 | (simp only [Int.reduceToNat] at ho159; rw [← Ny810.out] at ho159)); have n0_ := Aside0.mk (Kd.R_below (by (with_reducible repeat (first | apply Kd.R_alloc | apply Kd.R_drewN | apply Kd.R_drew)); exact HO_14.out) hb); have n1_ := Aside0.mk (Kd.R_lower ho159 (below_size (by repeat (first | (with_reducible first | exact HB.out | apply below_alloc | apply pw_below_drewN | apply below_drew1 | refine below_set ?_ GE725.out) | exact HB.out)))); have n2_ := Aside0.mk (blk_below (g := gb725) (o := .cells #[.slice (some ad787) l0_0.length c0_0, .slice A0_1 l0_1.length c0_1] 31 (0, 0)) (by (with_reducible repeat (first | refine blk_drewN ?_ _ | refine blk_drew ?_ | refine blk_alloc ?_ _)); exact BK725.out) hb); have n3_ := Aside0.mk (below_step (by repeat (first | (with_reducible first | exact HB.out | apply below_alloc | apply pw_below_drewN | apply below_drew1 | refine below_set ?_ GE725.out) | exact HB.out)) hb); clear HO_14; clear BK725; clear HB; have HO_14 := n0_; have HO812 := n1_; have BK725 := n2_; have HB := n3_; clear n0_ n1_ n2_ n3_; clear hb ho159; obtain ⟨i0160, hi0160, _, hsz160, _⟩ := info_parts info3; obtain ⟨A160, hcut160, hA160, hC160⟩ := print_drop_of (P := Try.prog) (Value.int .i64) 0 26 3 .i64 Try.underlying26 hi0160 hsz160 A0_1 c0_1 l0_1 1 (by omega) (of_decide_eq_true (by first | (with_reducible assumption) | assumption)) HC0_1.out; have HR813 := Aside0.mk (Kd.C_of_reads (h1 := fun _ => rfl) (hA160 _ (Kd.reads_of_C HR0_1.out))); have HC813 := Aside0.mk hC160; clear hA160 hC160 hi0160 hsz160) | ((with_reducible refine gate_builtin (b := .append) (xs := #[.tmp 346, .tmp 348]) rfl ?_); (try (refine gate_guard (by rfl) ?_; dsimp only)); at_builtin; refine Kd.R_append_rows (Kd.int .i64) (w0 := w) w.heap.size rfl (.tmp 346) (.tmp 348) 26 3 (.int .i64 0) 8 rfl Try.underlying26 info3 rfl (by decide) (by omega) v811 y810 (l0_1.drop 1) _ _ _ (fun _ => True) (fun _ => False) rfl rfl ?aO ?aR (fun _ _ h => h) (fun _ h => h.elim) ?aF ?aB ?aS ?aL ?_; (case aR => first | (rw [← show (l0_1.drop 1).length = (l0_1.length - 1) from List.length_drop]; repeat (first | exact (Kd.C_below HR813.out HB.out) | (with_reducible refine Kd.C_alloc ?_ _) | (with_reducible refine Kd.C_drewN ?_ _) | (with_reducible refine Kd.C_drew ?_))) | (repeat (first | exact (Kd.C_below HR813.out HB.out) | (with_reducible refine Kd.C_alloc ?_ _) | (with_reducible refine Kd.C_drewN ?_ _) | (with_reducible refine Kd.C_drew ?_)))); (case aB => exact (by repeat (first | (with_reducible first | exact HB.out | apply below_alloc | apply pw_below_drewN | apply below_drew1 | refine below_set ?_ GE725.out) | exact HB.out))); (case aF => exact (fun _ _ => trivial)); (case aO => exact (by (with_reducible repeat (first | apply Kd.R_alloc | apply Kd.R_drewN | apply Kd.R_drew)); exact HO812.out)); (case aS => exact (below_size (by repeat (first | (with_reducible first | exact HB.out | apply below_alloc | apply pw_below_drewN | apply below_drew1 | refine below_set ?_ GE725.out) | exact HB.out)))); (case aL => have := LMc152.out; have hlx_ := (show (l0_1.drop 1).length = (l0_1.length - 1) from List.length_drop); omega); intro v815 w161 ho hb hg hat; rw [← Ny814.out] at ho; have n0_ := Aside0.mk (Kd.R_over' (by (with_reducible repeat (first | apply Kd.R_alloc | apply Kd.R_drewN | apply Kd.R_drew)); exact HO_14.out) (Kd.R_typed (by (with_reducible repeat (first | apply Kd.R_alloc | apply Kd.R_drewN | apply Kd.R_drew)); exact HO812.out)) (by decide) hg); have n1_ := Aside0.mk (blk_grown (g := gb725) (o := .cells #[.slice (some ad787) l0_0.length c0_0, .slice A0_1 l0_1.length c0_1] 31 (0, 0)) (by (with_reducible repeat (first | refine blk_drewN ?_ _ | refine blk_drew ?_ | refine blk_alloc ?_ _)); exact BK725.out) hg (Kd.R_ne HO812.out BK725.out (by decide))); have n2_ := Aside0.mk (hb); have n3_ := Aside0.mk (ho); clear HO_14; clear BK725; clear HB; clear HO812; have HO_14 := n0_; have BK725 := n1_; have HB := n2_; have HO816 := n3_; clear n0_ n1_ n2_ n3_; clear ho hb hg hat; obtain ⟨Ao162, co162, eo162⟩ := Kd.R_slice HO816.out; subst eo162) | (go_at_call 59; (with_reducible refine (secret_Renew.calls _ _ y739 _ _ y814 t817 t818 _ ?side1 ?side2 ?side3 ?side4 A153.out).mono ?_); (case side1 => repeat (first | exact (Kd.R_reads' HO_14.out).2.2 | (with_reducible refine Kd.C_alloc ?_ _) | (with_reducible refine Kd.C_drewN ?_ _) | (with_reducible refine Kd.C_drew ?_))); (case side2 => exact (Kd.R_reads' HO_14.out).2.1); (case side3 => repeat (first | exact (Kd.R_reads' HO816.out).2.2 | (with_reducible refine Kd.C_alloc ?_ _) | (with_reducible refine Kd.C_drewN ?_ _) | (with_reducible refine Kd.C_drew ?_))); (case side4 => exact (Kd.R_reads' HO816.out).2.1); rintro e w163 ⟨v819, rfl, ho0, hb⟩; have n0_ := Aside0.mk (Kd.R_elder' (by (with_reducible repeat (first | apply Kd.R_alloc | apply Kd.R_drewN | apply Kd.R_drew)); exact HO_14.out) (Kd.R_base ho0) hb); have n1_ := Aside0.mk (Kd.R_below (by (with_reducible repeat (first | apply Kd.R_alloc | apply Kd.R_drewN | apply Kd.R_drew)); exact HO816.out) hb); have n2_ := Aside0.mk (Kd.R_lower (Kd.R_new' ho0 (Kd.R_lt (by (with_reducible repeat (first | apply Kd.R_alloc | apply Kd.R_drewN | apply Kd.R_drew)); exact HO_14.out))) (below_size (by repeat (first | (with_reducible first | exact HB.out | apply below_alloc | apply pw_below_drewN | apply below_drew1 | refine below_set ?_ GE725.out) | exact HB.out)))); have n3_ := Aside0.mk (blk_below (g := gb725) (o := .cells #[.slice (some ad787) l0_0.length c0_0, .slice A0_1 l0_1.length c0_1] 31 (0, 0)) (by (with_reducible repeat (first | refine blk_drewN ?_ _ | refine blk_drew ?_ | refine blk_alloc ?_ _)); exact BK725.out) hb); have n4_ := Aside0.mk (below_step (by repeat (first | (with_reducible first | exact HB.out | apply below_alloc | apply pw_below_drewN | apply below_drew1 | refine below_set ?_ GE725.out) | exact HB.out)) hb); clear HO_14; clear HO816; clear BK725; clear HB; have HO_14 := n0_; have HO816 := n1_; have HO820 := n2_; have BK725 := n3_; have HB := n4_; clear n0_ n1_ n2_ n3_ n4_; (try clear hb); (try clear hb2); (try clear hk); (try clear hi); (try clear ho0); obtain ⟨Ao164, co164, eo164⟩ := Kd.R_slice HO820.out; subst eo164) | (go_at_call 58; (with_reducible refine (secret_Secret.calls _ _ t817 t821 t822 _ ?side1 ?side2 A154.out).mono ?_); (case side1 => repeat (first | exact (Kd.R_reads' HO820.out).2.2 | (with_reducible refine Kd.C_alloc ?_ _) | (with_reducible refine Kd.C_drewN ?_ _) | (with_reducible refine Kd.C_drew ?_))); (case side2 => exact (Kd.R_reads' HO820.out).2.1); rintro e w165 ⟨rfl, hb⟩; have n0_ := Aside0.mk (Kd.R_below (by (with_reducible repeat (first | apply Kd.R_alloc | apply Kd.R_drewN | apply Kd.R_drew)); exact HO_14.out) hb); have n1_ := Aside0.mk (Kd.R_below (by (with_reducible repeat (first | apply Kd.R_alloc | apply Kd.R_drewN | apply Kd.R_drew)); exact HO816.out) hb); have n2_ := Aside0.mk (Kd.R_below (by (with_reducible repeat (first | apply Kd.R_alloc | apply Kd.R_drewN | apply Kd.R_drew)); exact HO820.out) hb); have n3_ := Aside0.mk (blk_below (g := gb725) (o := .cells #[.slice (some ad787) l0_0.length c0_0, .slice A0_1 l0_1.length c0_1] 31 (0, 0)) (by (with_reducible repeat (first | refine blk_drewN ?_ _ | refine blk_drew ?_ | refine blk_alloc ?_ _)); exact BK725.out) hb); have n4_ := Aside0.mk (below_step (by repeat (first | (with_reducible first | exact HB.out | apply below_alloc | apply pw_below_drewN | apply below_drew1 | refine below_set ?_ GE725.out) | exact HB.out)) hb); clear HO_14; clear HO816; clear HO820; clear BK725; clear HB; have HO_14 := n0_; have HO816 := n1_; have HO820 := n2_; have BK725 := n3_; have HB := n4_; clear n0_ n1_ n2_ n3_ n4_; (try clear hb); (try clear hb2); (try clear hk); (try clear hi); have p823 : 0 ≤ (0 : Int) := (by omega); have q823 : 0 < (l0_0.length : Int) := of_decide_eq_true (by first | (with_reducible assumption) | assumption); obtain ⟨ad823, e823, hx823_0⟩ := Kd.at_int HR0_0.out 0 p823 q823; obtain rfl : ad787 = ad823 := (by injection e823); have qi823 : (0 < l0_0.length) = True := eq_true (by omega); (try rw [show ((0 : Int)).toNat = 0 from rfl] at hx823_0); (try rw [Addr.add_zero'] at hx823_0); replace hx823_0 := (HB.out.cell (World.block_lt_of_cell? w _ hx823_0)).trans hx823_0; replace p823 := eq_true p823; replace q823 := eq_true q823))
                                                        repeat (go_quiet (fail); try go_wp2)
                                                        go_ret
                                                        exact ⟨by first | rfl | (simp [errW_none, errW_some] <;> rfl) | (simp only [← hji22]; first | rfl | (simp [errW_none, errW_some] <;> rfl)) | (simp [*, errW_none, errW_some] <;> rfl), by repeat (first | (with_reducible first | exact HB.out | apply below_alloc | apply pw_below_drewN | apply below_drew1 | refine below_set ?_ GE725.out) | exact HB.out)⟩
                                                       ·rw [if_neg c157] at H
                                                        exact absurd H (by simp)
                                                      ·rw [if_neg c156] at H
                                                       have c156b0 : (t822 == 0) = false := beq_eq_false_iff_ne.mpr c156
                                                       have c156b1 : (t822 != 0) = true := bne_iff_ne.mpr c156
                                                       exact absurd (Option.some.inj H) (by rw [HRT.out]; decide)
                                                     ·rw [if_neg c155] at H
                                                      have c155b0 : (t818 == 0) = false := beq_eq_false_iff_ne.mpr c155
                                                      have c155b1 : (t818 != 0) = true := bne_iff_ne.mpr c155
                                                      exact absurd (Option.some.inj H) (by rw [HRT.out]; decide)
                                                    ·rw [if_neg c152] at H
                                                     exact absurd H (by simp)
                                                   ·rw [if_neg c151] at H
                                                    exact absurd H (by simp)
                                               ·rw [if_neg c136] at H
                                                exact absurd H (by simp)
                                              ·rw [if_neg c135] at H
                                               exact absurd H (by simp)
                                             ·rw [if_neg c134] at H
                                              exact absurd H (by simp)
                                            ·rw [if_neg c133] at H
                                             exact absurd H (by simp)
                                     ·rw [if_neg c120] at H
                                      have c120b0 : (x30_9 == (rd l0_0 0)) = false := beq_eq_false_iff_ne.mpr c120
                                      have c120b1 : (x30_9 != (rd l0_0 0)) = true := bne_iff_ne.mpr c120
                                      exact absurd (Option.some.inj H) (by rw [HRT.out]; decide)
                                    ·rw [if_neg c119] at H
                                     exact absurd H (by simp)
                 ·rw [if_neg c29] at H
                  exact absurd H (by simp)
                ·rw [if_neg c28] at H
                 exact absurd H (by simp)
               ·rw [if_neg c26] at H
                exact absurd H (by simp)
              ·rw [if_neg c25] at H
               exact absurd H (by simp)
             ·rw [if_neg c24] at H
              exact absurd H (by simp)
            ·rw [if_neg c23] at H
             exact absurd H (by simp)
       ·rw [if_neg c14] at H
        have c14b0 : (t729 == 0) = false := beq_eq_false_iff_ne.mpr c14
        have c14b1 : (t729 != 0) = true := bne_iff_ne.mpr c14
        obtain rfl := Option.some.inj H
        go_wp2_with (first | (go_at_call 51; (with_reducible refine (secret_Share.calls kj9 _ _ l0_0 12 t728 t729 _ ?side1 ?side2 A13.out).mono ?_); (case side1 => repeat (first | exact (Kd.C_below HR0_0.out HB.out) | (with_reducible refine Kd.C_alloc ?_ _) | (with_reducible refine Kd.C_drewN ?_ _) | (with_reducible refine Kd.C_drew ?_))); (case side2 => exact HC0_0.out); rintro e w182 ⟨v730, rfl, ho0, hb⟩; have n0_ := Aside0.mk (Kd.R_lower ho0 (below_size (by repeat (first | (with_reducible first | exact HB.out | apply below_alloc | apply pw_below_drewN | apply below_drew1 | refine below_set ?_ GE725.out) | exact HB.out)))); have n1_ := Aside0.mk (blk_below (g := gb725) (o := .cells #[.slice A0_0 l0_0.length c0_0, .slice A0_1 l0_1.length c0_1] 31 (0, 0)) (by (with_reducible repeat (first | refine blk_drewN ?_ _ | refine blk_drew ?_ | refine blk_alloc ?_ _)); exact BK725.out) hb); have n2_ := Aside0.mk (below_step (by repeat (first | (with_reducible first | exact HB.out | apply below_alloc | apply pw_below_drewN | apply below_drew1 | refine below_set ?_ GE725.out) | exact HB.out)) hb); clear BK725; clear HB; have HO731 := n0_; have BK725 := n1_; have HB := n2_; clear n0_ n1_ n2_; (try clear hb); (try clear hb2); (try clear hk); (try clear hi); (try clear ho0)))
        repeat (go_quiet (fail); try go_wp2)
        go_ret
        exact ⟨by first | rfl | (simp [errW_none, errW_some] <;> rfl) | (simp [*, errW_none, errW_some] <;> rfl), by repeat (first | (with_reducible first | exact HB.out | apply below_alloc | apply pw_below_drewN | apply below_drew1 | refine below_set ?_ GE725.out) | exact HB.out)⟩

end Go.Proofs.Ythlbjdiicmojfaa.P
