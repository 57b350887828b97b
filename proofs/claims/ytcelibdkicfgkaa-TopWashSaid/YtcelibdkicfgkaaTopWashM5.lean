/- Parts of the proof of the law TopWash: walks of functions that it reaches, and plain facts about numbers, lists and curves; without a condition. -/
import Derived.Test.YtcelibdkicfgkaaTopWashM1
import Derived.Test.YtcelibdkicfgkaaTopWashM2
import Derived.Test.YtcelibdkicfgkaaTopWashM3
import Derived.Test.YtcelibdkicfgkaaTopWashM4
/-! Part PF6. -/
-- Written for this claim by wip/print_more.py (a session's program that runs the kit's printer with hand-proved functions beside). Lean checks it.
namespace Go.Proofs.Ytcelibdkicfgkaa.P
open Go.RowKit Go.Proofs.YtcelibdkicfgkaaW.PrintWords Go.Proofs.YtcelibdkicfgkaaW.PrintLast Go.Proofs.YtcelibdkicfgkaaW.PrintMore
attribute [local go_sem] max2_int min2_int max_two min_two max_three min_three max_four min_four   -- for this text's walks alone
set_option linter.unusedVariables false
set_option linter.unusedSimpArgs false

attribute [local go_sem high] eqA34
def verditertop_topWash.T20 : Bool × List (List Nat × List Nat) := (true, [([], []), ([], []), ([], []), ([1, 2], [1, 2]), ([3], [3]), ([], []), ([], []), ([5, 6], [5, 6]), ([7], [7]), ([4, 8], [4, 8]), ([0, 9, 9], [0, 9]), ([10, 10, 0, 1, 2, 3, 4, 5, 6, 7, 8, 9, 10], [10])])
def verditertop_topWash.B20 : List Nat := [0, 0, 0, 6, 14, 0, 0, 96, 224, 510, 1023, 2047]
theorem verditertop_topWash.tab20 : rtab .any (opsOf Try.f6 20) = verditertop_topWash.T20 := by kernel_rfl
theorem verditertop_topWash.bits20 : waitsOk verditertop_topWash.T20.2 verditertop_topWash.B20 = true := by kernel_rfl
def verditertop_topWash.T29 : Bool × List (List Nat × List Nat) := (true, [([], []), ([], []), ([0, 1], [0, 1]), ([2], [2]), ([3], [3]), ([4], [4]), ([5], [5]), ([6], [6]), ([6], [6]), ([7, 8, 6], [6, 7, 8]), ([9, 6], [6, 9]), ([10, 6], [6, 10]), ([11, 6], [6, 11]), ([6, 12], [6, 12]), ([13, 6], [13]), ([14], [14]), ([14], [14]), ([15, 16, 14], [14, 15, 16]), ([17, 14], [14, 17]), ([18, 14], [14, 18]), ([19, 14], [14, 19]), ([14, 20], [14, 20]), ([21, 14], [21]), ([22], [22]), ([22], [22]), ([23, 24, 22], [22, 23, 24]), ([25, 22], [22, 25]), ([26, 22], [22, 26]), ([22], [22]), ([22], [22]), ([28, 29, 22], [22, 28, 29]), ([30, 22], [22, 30]), ([31, 22], [22, 31]), ([27, 32, 22], [22, 27, 32]), ([22], [22]), ([22], [22]), ([34, 35, 22], [22, 34, 35]), ([36, 22], [22, 36]), ([37, 22], [22, 37]), ([22], [22]), ([22], [22]), ([39, 40, 22], [22, 39, 40]), ([41, 22], [22, 41]), ([42, 22], [22, 42]), ([38, 43, 22], [22, 38, 43]), ([33, 44, 22], [22, 33, 44]), ([22, 45], [22, 45])])
def verditertop_topWash.B29 : List Nat := [0, 0, 3, 7, 15, 31, 63, 127, 127, 511, 1023, 2047, 4095, 8191, 16383, 32767, 32767, 131071, 262143, 524287, 1048575, 2097151, 4194303, 8388607, 8388607, 33554431, 67108863, 134217727, 8388607, 8388607, 813694975, 1887436799, 4034920447, 8589934591, 8388607, 8388607, 51547996159, 120267472895, 257706426367, 8388607, 8388607, 1649275830271, 3848299085823, 8246345596927, 17575014563839, 35184372088831, 70368744177663]
theorem verditertop_topWash.tab29 : rtab .any (opsOf Try.f6 29) = verditertop_topWash.T29 := by kernel_rfl
theorem verditertop_topWash.bits29 : waitsOk verditertop_topWash.T29.2 verditertop_topWash.B29 = true := by kernel_rfl
def verditertop_topWash.T41 : Bool × List (List Nat × List Nat) := (true, [([], []), ([], []), ([], []), ([1, 2], [1, 2]), ([3], [3]), ([4], [4]), ([], []), ([], []), ([6, 7], [6, 7]), ([8], [8]), ([9], [9]), ([], []), ([], []), ([11, 12], [11, 12]), ([13], [13]), ([14], [14]), ([10, 15], [10, 15]), ([5, 16], [5, 16]), ([0, 17], [0, 17]), ([18, 0, 1, 2, 3, 4, 5, 6, 7, 8, 9, 10, 11, 12, 13, 14, 15, 16, 17, 18], [0, 18])])
def verditertop_topWash.B41 : List Nat := [0, 0, 0, 6, 14, 30, 0, 0, 192, 448, 960, 0, 0, 6144, 14336, 30720, 65472, 131070, 262143, 524287]
theorem verditertop_topWash.tab41 : rtab .any (opsOf Try.f6 41) = verditertop_topWash.T41 := by kernel_rfl
theorem verditertop_topWash.bits41 : waitsOk verditertop_topWash.T41.2 verditertop_topWash.B41 = true := by kernel_rfl
theorem no_j0 {k r x2 x161000 x161001 x161002 x162000 x162001} (h : verditertop_topWash.j0 k x2 true x161000 x161001 x161002 x162000 x162001 = some r) : r = false := by
  cases k with
  | zero => simp [verditertop_topWash.j0] at h
  | succ k => rw [verditertop_topWash.j0, if_pos rfl] at h; exact (Option.some.inj h).symm
theorem no_j9 {k r x18 x19 x21 x161000 x161001 x161002} (h : verditertop_topWash.j9 k x18 x19 x21 true x161000 x161001 x161002 = some r) : r = false := by
  cases k with
  | zero => simp [verditertop_topWash.j9] at h
  | succ k => rw [verditertop_topWash.j9, if_pos rfl] at h; exact (Option.some.inj h).symm
theorem no_j6 {k r x12 x13 x161000 x161001 x161002} (h : verditertop_topWash.j6 k x12 x13 true x161000 x161001 x161002 = some r) : r = false := by
  cases k with
  | zero => simp [verditertop_topWash.j6] at h
  | succ k => rw [verditertop_topWash.j6, if_pos rfl] at h; exact (Option.some.inj h).symm
theorem no_j2 {k r x9 x10 x11 x12 x13 x14 x161000 x161001 x161002} (h : verditertop_topWash.j2 k x9 x10 x11 x12 x13 x14 true x161000 x161001 x161002 = some r) : r = false := by
  cases k with
  | zero => simp [verditertop_topWash.j2] at h
  | succ k => rw [verditertop_topWash.j2, if_pos rfl] at h; exact (Option.some.inj h).symm
theorem no_j4 {k r x9 x10 x11 x12 x13 x14 x16 x161000 x161001 x161002 x183000 x183001} (h : verditertop_topWash.j4 k x9 x10 x11 x12 x13 x14 x16 true x161000 x161001 x161002 x183000 x183001 = some r) : r = false := by
  cases k with
  | zero => simp [verditertop_topWash.j4] at h
  | succ k => rw [verditertop_topWash.j4, if_pos rfl] at h; exact (Option.some.inj h).symm
set_option maxHeartbeats 8000000 in
set_option maxRecDepth 100000 in
theorem verditertop_topWash.calls (k : Nat) (A0_0 : Option Addr) (c0_0 : Nat) (l0_0 : List (S61)) (A0_1 : Option Addr) (c0_1 : Nat) (l0_1 : List (S61)) (A0_2 : Option Addr) (c0_2 : Nat) (l0_2 : List (S56)) (a1_0 : Int) (a1_1 : Int) (a2 : Int) (r : Bool) (w : World) (hr0_0 : Kd.C k61 w A0_0 l0_0.length l0_0) (hc0_0 : l0_0.length ≤ c0_0) (hr0_1 : Kd.C k61 w A0_1 l0_1.length l0_1) (hc0_1 : l0_1.length ≤ c0_1) (hr0_2 : Kd.C k56 w A0_2 l0_2.length l0_2) (hc0_2 : l0_2.length ≤ c0_2) (h : verditertop_topWash.f k l0_0 l0_1 l0_2 a1_0 a1_1 a2 = some r) (hrt : r = true) :
  Calls Try.prog 6 #[.agg #[.slice A0_0 l0_0.length c0_0, .slice A0_1 l0_1.length c0_1, .slice A0_2 l0_2.length c0_2], .agg #[.int .i64 a1_0, .int .i64 a1_1], .int .i64 a2] w fun e w' => e = .returned (.bool r) ∧ Below w.heap.size w w' := by
 have HRT := Aside0.mk hrt
 clear hrt
 have hu25 := Try.underlying25
 have hu27 := Try.underlying27
 have hu34 := Try.underlying34
 have HR0_0 := Aside0.mk hr0_0
 have HC0_0 := Aside0.mk hc0_0
 clear hr0_0 hc0_0
 have HR0_1 := Aside0.mk hr0_1
 have HC0_1 := Aside0.mk hc0_1
 clear hr0_1 hc0_1
 have HR0_2 := Aside0.mk hr0_2
 have HC0_2 := Aside0.mk hc0_2
 clear hr0_2 hc0_2
 have HB := Aside0.mk (Below.refl w.heap.size w)
 have H : ((wash_Part.f k 3 2 10).bind fun bt162 => (if bt162.2.2 = 0 then (verditertop_topWash.j0 k a2 (!(bt162.1 == 3) || (!(bt162.2.1 == 5))) l0_0 l0_1 l0_2 a1_0 a1_1) else (verditertop_topWash.j0 k a2 true l0_0 l0_1 l0_2 a1_0 a1_1))) = some r := h
 clear h
 replace H := Option.bind_eq_some_iff.mp H
 obtain ⟨⟨t162, t163, t164⟩, A40, H⟩ := H
 replace H : (if t164 = 0 then (verditertop_topWash.j0 k a2 (!(t162 == 3) || (!(t163 == 5))) l0_0 l0_1 l0_2 a1_0 a1_1) else (verditertop_topWash.j0 k a2 true l0_0 l0_1 l0_2 a1_0 a1_1)) = some r := H
 have A4 := Aside0.mk A40
 clear A40
 have HC5 := Aside0.mk H
 clear H
 go_enter Try.func6, Try.ntmps6
 go_upto_region 2 with (first | ((with_reducible refine gate_dst (N := 3) rfl ?_); (try (refine gate_guard (by rfl) ?_; dsimp only)); refine box_event ?hg (N := 3) ?hd (cs := #[.slice A0_0 l0_0.length c0_0, .slice A0_1 l0_1.length c0_1, .slice A0_2 l0_2.length c0_2]) (t := 25) ?hr ?_; (case hd => rfl); (case hg => rfl); (case hr => first | (go_simp; done) | (go_simp; rfl)); intro gb160 hg w6 hbox hb; have n0_ := Aside0.mk (below_step (by repeat (first | (with_reducible first | exact HB.out | apply below_alloc | apply pw_below_drewN | apply below_drew1) | exact HB.out)) hb); have n1_ := Aside0.mk (hbox); have n2_ := Aside0.mk ((by rw [hg]; exact (below_size (by repeat (first | (with_reducible first | exact HB.out | apply below_alloc | apply pw_below_drewN | apply below_drew1) | exact HB.out))) : w.heap.size ≤ gb160)); have n3_ := Aside0.mk ((by rw [hg]; exact (below_size (by repeat (first | (with_reducible first | exact HB.out | apply below_alloc | apply pw_below_drewN | apply below_drew1) | exact HB.out))) : w.heap.size ≤ gb160)); clear HB; have HB := n0_; have BK160 := n1_; have GW160 := n2_; have GE160 := n3_; clear n0_ n1_ n2_ n3_; clear hb hbox hg) | ((with_reducible refine gate_dst (N := 4) rfl ?_); (try (refine gate_guard (by rfl) ?_; dsimp only)); refine box_event ?hg (N := 4) ?hd (cs := #[.int .i64 a1_0, .int .i64 a1_1]) (t := 27) ?hr ?_; (case hd => rfl); (case hg => rfl); (case hr => first | (go_simp; done) | (go_simp; rfl)); intro gb161 hg w7 hbox hb; have n0_ := Aside0.mk (blk_below (g := gb160) (o := .cells #[.slice A0_0 l0_0.length c0_0, .slice A0_1 l0_1.length c0_1, .slice A0_2 l0_2.length c0_2] 25 (0, 0)) (by (with_reducible repeat (first | refine blk_drewN ?_ _ | refine blk_drew ?_ | refine blk_alloc ?_ _)); exact BK160.out) hb); have n1_ := Aside0.mk (below_step (by repeat (first | (with_reducible first | exact HB.out | apply below_alloc | apply pw_below_drewN | apply below_drew1 | refine below_set ?_ GE160.out) | exact HB.out)) hb); have n2_ := Aside0.mk (hbox); have n3_ := Aside0.mk ((by rw [hg]; exact (below_size (by repeat (first | (with_reducible first | exact HB.out | apply below_alloc | apply pw_below_drewN | apply below_drew1 | refine below_set ?_ GE160.out) | exact HB.out))) : w.heap.size ≤ gb161)); have n4_ := Aside0.mk ((by rw [hg]; exact (below_size (by repeat (first | (with_reducible first | exact HB.out | apply below_alloc | apply pw_below_drewN | apply below_drew1 | refine below_set ?_ GE160.out) | exact HB.out))) : w.heap.size ≤ gb161)); have n5_ := Aside0.mk ((by rw [hg]; exact Nat.ne_of_lt (blk_lt (g := gb160) (o := .cells #[.slice A0_0 l0_0.length c0_0, .slice A0_1 l0_1.length c0_1, .slice A0_2 l0_2.length c0_2] 25 (0, 0)) (by (with_reducible repeat (first | refine blk_drewN ?_ _ | refine blk_drew ?_ | refine blk_alloc ?_ _)); exact BK160.out)) : gb160 ≠ gb161)); have n6_ := Aside0.mk ((by rw [hg]; exact Nat.ne_of_gt (blk_lt (g := gb160) (o := .cells #[.slice A0_0 l0_0.length c0_0, .slice A0_1 l0_1.length c0_1, .slice A0_2 l0_2.length c0_2] 25 (0, 0)) (by (with_reducible repeat (first | refine blk_drewN ?_ _ | refine blk_drew ?_ | refine blk_alloc ?_ _)); exact BK160.out)) : gb161 ≠ gb160)); clear BK160; clear HB; have BK160 := n0_; have HB := n1_; have BK161 := n2_; have GW161 := n3_; have GE161 := n4_; have NB160_161 := n5_; have NB161_160 := n6_; clear n0_ n1_ n2_ n3_ n4_ n5_ n6_; clear hb hbox hg) | ((with_reducible refine gate_callee (f := 9) rfl ?_); refine goesL_ (some 32) rfl rfl Try.func9 (by kernel_rfl) rfl #[.int .i64 3, .int .i64 2, .int .i64 10] rfl (by (try simp only [List.map_toArray, List.map_cons, List.map_nil]); first | done | rfl | (simp only [List.length_drop, List.length_take]; rfl)) ?_; (with_reducible refine (wash_Part.calls k 3 2 10 t162 t163 t164 _ A4.out).mono ?_); rintro e w8 ⟨rfl, hb⟩; refine ⟨_, rfl, ?_⟩; have n0_ := Aside0.mk (blk_below (g := gb160) (o := .cells #[.slice A0_0 l0_0.length c0_0, .slice A0_1 l0_1.length c0_1, .slice A0_2 l0_2.length c0_2] 25 (0, 0)) (by (with_reducible repeat (first | refine blk_drewN ?_ _ | refine blk_drew ?_ | refine blk_alloc ?_ _)); exact BK160.out) hb); have n1_ := Aside0.mk (blk_below (g := gb161) (o := .cells #[.int .i64 a1_0, .int .i64 a1_1] 27 (0, 0)) (by (with_reducible repeat (first | refine blk_drewN ?_ _ | refine blk_drew ?_ | refine blk_alloc ?_ _)); exact BK161.out) hb); have n2_ := Aside0.mk (below_step (by repeat (first | (with_reducible first | exact HB.out | apply below_alloc | apply pw_below_drewN | apply below_drew1 | refine below_set ?_ GE160.out | refine below_set ?_ GE161.out) | exact HB.out)) hb); clear BK160; clear BK161; clear HB; have BK160 := n0_; have BK161 := n1_; have HB := n2_; clear n0_ n1_ n2_; (try clear hb); (try clear hb2); (try clear hk); (try clear hi)) | ((with_reducible refine gate_dst (N := 7) rfl ?_); (try (refine gate_guard (by rfl) ?_; dsimp only)); refine box_event ?hg (N := 7) ?hd (cs := #[.int .i64 0, .int .i64 0]) (t := 34) ?hr ?_; (case hd => rfl); (case hg => rfl); (case hr => first | (go_simp; done) | (go_simp; rfl)); intro gb165 hg w9 hbox hb; have n0_ := Aside0.mk (blk_below (g := gb160) (o := .cells #[.slice A0_0 l0_0.length c0_0, .slice A0_1 l0_1.length c0_1, .slice A0_2 l0_2.length c0_2] 25 (0, 0)) (by (with_reducible repeat (first | refine blk_drewN ?_ _ | refine blk_drew ?_ | refine blk_alloc ?_ _)); exact BK160.out) hb); have n1_ := Aside0.mk (blk_below (g := gb161) (o := .cells #[.int .i64 a1_0, .int .i64 a1_1] 27 (0, 0)) (by (with_reducible repeat (first | refine blk_drewN ?_ _ | refine blk_drew ?_ | refine blk_alloc ?_ _)); exact BK161.out) hb); have n2_ := Aside0.mk (below_step (by repeat (first | (with_reducible first | exact HB.out | apply below_alloc | apply pw_below_drewN | apply below_drew1 | refine below_set ?_ GE160.out | refine below_set ?_ GE161.out) | exact HB.out)) hb); have n3_ := Aside0.mk (hbox); have n4_ := Aside0.mk ((by rw [hg]; exact (below_size (by repeat (first | (with_reducible first | exact HB.out | apply below_alloc | apply pw_below_drewN | apply below_drew1 | refine below_set ?_ GE160.out | refine below_set ?_ GE161.out) | exact HB.out))) : w.heap.size ≤ gb165)); have n5_ := Aside0.mk ((by rw [hg]; exact (below_size (by repeat (first | (with_reducible first | exact HB.out | apply below_alloc | apply pw_below_drewN | apply below_drew1 | refine below_set ?_ GE160.out | refine below_set ?_ GE161.out) | exact HB.out))) : w.heap.size ≤ gb165)); have n6_ := Aside0.mk ((by rw [hg]; exact Nat.ne_of_lt (blk_lt (g := gb160) (o := .cells #[.slice A0_0 l0_0.length c0_0, .slice A0_1 l0_1.length c0_1, .slice A0_2 l0_2.length c0_2] 25 (0, 0)) (by (with_reducible repeat (first | refine blk_drewN ?_ _ | refine blk_drew ?_ | refine blk_alloc ?_ _)); exact BK160.out)) : gb160 ≠ gb165)); have n7_ := Aside0.mk ((by rw [hg]; exact Nat.ne_of_gt (blk_lt (g := gb160) (o := .cells #[.slice A0_0 l0_0.length c0_0, .slice A0_1 l0_1.length c0_1, .slice A0_2 l0_2.length c0_2] 25 (0, 0)) (by (with_reducible repeat (first | refine blk_drewN ?_ _ | refine blk_drew ?_ | refine blk_alloc ?_ _)); exact BK160.out)) : gb165 ≠ gb160)); have n8_ := Aside0.mk ((by rw [hg]; exact Nat.ne_of_lt (blk_lt (g := gb161) (o := .cells #[.int .i64 a1_0, .int .i64 a1_1] 27 (0, 0)) (by (with_reducible repeat (first | refine blk_drewN ?_ _ | refine blk_drew ?_ | refine blk_alloc ?_ _)); exact BK161.out)) : gb161 ≠ gb165)); have n9_ := Aside0.mk ((by rw [hg]; exact Nat.ne_of_gt (blk_lt (g := gb161) (o := .cells #[.int .i64 a1_0, .int .i64 a1_1] 27 (0, 0)) (by (with_reducible repeat (first | refine blk_drewN ?_ _ | refine blk_drew ?_ | refine blk_alloc ?_ _)); exact BK161.out)) : gb165 ≠ gb161)); clear BK160; clear BK161; clear HB; have BK160 := n0_; have BK161 := n1_; have HB := n2_; have BK165 := n3_; have GW165 := n4_; have GE165 := n5_; have NB160_165 := n6_; have NB165_160 := n7_; have NB161_165 := n8_; have NB165_161 := n9_; clear n0_ n1_ n2_ n3_ n4_ n5_ n6_ n7_ n8_ n9_; clear hb hbox hg; have hnb10 := NB165_160.out; have hnc10 := NB160_165.out; have hnb11 := NB165_161.out; have hnc11 := NB161_165.out; have hcz12_0 : w9.cell? ⟨gb165, 0, none⟩ = some (.int .i64 0) := (blk_cell BK165.out 0).trans rfl; have hcz12_1 : w9.cell? ⟨gb165, 1, none⟩ = some (.int .i64 0) := (blk_cell BK165.out 1).trans rfl; have hfz12_0 := blk_frozen BK165.out 0; have hfz12_1 := blk_frozen BK165.out 1))
 (try simp only [Act.put, List.setIfInBounds_toArray, List.set_cons_zero, List.set_cons_succ])
 go_cut [41] (fun v41 wc => ∃ (kq : Nat) (x41_4 : Bool), v41 = .bool x41_4 ∧ Aside0 (verditertop_topWash.j0 kq a2 x41_4 l0_0 l0_1 l0_2 a1_0 a1_1 = some r) ∧ Aside0 (kq ≤ k) ∧ Aside0 (wc.heap[gb160]? = some (.cells #[(.slice A0_0 l0_0.length c0_0), (.slice A0_1 l0_1.length c0_1), (.slice A0_2 l0_2.length c0_2)] 25 (0, 0))) ∧ Aside0 (wc.heap[gb161]? = some (.cells #[.int .i64 a1_0, .int .i64 a1_1] 27 (0, 0))) ∧ Aside0 (wc.heap[gb165]? = some (.cells #[.int .i64 t162, .int .i64 t163] 34 (0, 0))) ∧ Aside0 (Below w.heap.size w wc))
 case first =>
  as_aux_lemma =>
  have H := HC5.out
  clear HC5
  by_cases c13 : t164 = 0
  ·rw [if_pos c13] at H
   have c13b0 : (t164 == 0) = true := beq_iff_eq.mpr c13
   have c13b1 : (t164 != 0) = false := bne_eq_false_iff_eq.mpr c13
   clear c13
   (first | rw [c13b0] | (simp only [i64_w, i32_w]; rw [c13b0]) | skip)
   have H' := Aside0.mk H
   clear H
   have hnb14 := NB165_160.out
   have hnc14 := NB160_165.out
   have hnb15 := NB165_161.out
   have hnc15 := NB161_165.out
   have hcz16_0 : w9.cell? ⟨gb165, 0, none⟩ = some (.int .i64 0) := (blk_cell BK165.out 0).trans rfl
   have hcz16_1 : w9.cell? ⟨gb165, 1, none⟩ = some (.int .i64 0) := (blk_cell BK165.out 1).trans rfl
   have hfz16_0 := blk_frozen BK165.out 0
   have hfz16_1 := blk_frozen BK165.out 1
   go_wp2
   go_meet
   case rel => exact ⟨_, ((!(t162 == 3) || (!(t163 == 5)))), (by first | rfl | (simp; done) | (simp [*]; done)), H', ⟨by first | omega | exact Nat.le_refl _⟩, ⟨by (with_reducible repeat (first | refine blk_drewN ?_ _ | refine blk_drew ?_ | refine blk_alloc ?_ _)); refine blk_far ?_ NB160_165.out _; (with_reducible repeat (first | refine blk_drewN ?_ _ | refine blk_drew ?_ | refine blk_alloc ?_ _)); refine blk_far ?_ NB160_165.out _; (with_reducible repeat (first | refine blk_drewN ?_ _ | refine blk_drew ?_ | refine blk_alloc ?_ _)); exact BK160.out⟩, ⟨by (with_reducible repeat (first | refine blk_drewN ?_ _ | refine blk_drew ?_ | refine blk_alloc ?_ _)); refine blk_far ?_ NB161_165.out _; (with_reducible repeat (first | refine blk_drewN ?_ _ | refine blk_drew ?_ | refine blk_alloc ?_ _)); refine blk_far ?_ NB161_165.out _; (with_reducible repeat (first | refine blk_drewN ?_ _ | refine blk_drew ?_ | refine blk_alloc ?_ _)); exact BK161.out⟩, ⟨by (with_reducible repeat (first | refine blk_drewN ?_ _ | refine blk_drew ?_ | refine blk_alloc ?_ _)); refine blk_put (cs := #[.int .i64 t162, .int .i64 0]) ?_ 1 _ rfl; (with_reducible repeat (first | refine blk_drewN ?_ _ | refine blk_drew ?_ | refine blk_alloc ?_ _)); refine blk_put (cs := #[.int .i64 0, .int .i64 0]) ?_ 0 _ rfl; (with_reducible repeat (first | refine blk_drewN ?_ _ | refine blk_drew ?_ | refine blk_alloc ?_ _)); exact BK165.out⟩, ⟨by repeat (first | (with_reducible first | exact HB.out | apply below_alloc | apply pw_below_drewN | apply below_drew1 | refine below_set ?_ GE160.out | refine below_set ?_ GE161.out | refine below_set ?_ GE165.out) | exact HB.out)⟩⟩
  ·rw [if_neg c13] at H
   have c13b0 : (t164 == 0) = false := beq_eq_false_iff_ne.mpr c13
   have c13b1 : (t164 != 0) = true := bne_iff_ne.mpr c13
   (first | rw [c13b0] | (simp only [i64_w, i32_w]; rw [c13b0]) | skip)
   exact absurd (show r = false by first | exact no_j0 H | exact no_j9 H | exact no_j6 H | exact no_j2 H | exact no_j4 H) (by rw [HRT.out]; decide)
 case rest =>
  as_aux_lemma =>
  clear HC5 hcz12_0 hcz12_1 hfz12_0 hfz12_1
  obtain ⟨kq, x41_4, rfl, HA, HJ4, BK160, BK161, BK165, HB⟩ := hcut
  cases kq with
  | zero => exact absurd HA.out (by simp [verditertop_topWash.j0])
  | succ kj4 =>
   have H := HA.out
   clear HA
   simp only [verditertop_topWash.j0] at H
   by_cases c17 : x41_4 = true
   ·subst c17
    have H1 : (some false) = some r := by rw [if_pos rfl] at H; exact H
    clear H
    have H := H1
    clear H1
    exact absurd (Option.some.inj H) (by rw [HRT.out]; decide)
   ·replace c17 := Bool.eq_false_iff.mpr c17
    subst c17
    have H1 : ((verditerlaw01_Long.f l0_0).bind fun t166 => (if t166 = true then (verditertop_topWash.j1 kj4 a2 true l0_0 l0_1 l0_2 a1_0 a1_1) else ((verditerlaw01_Long.f l0_1).bind fun t167 => (if t167 = true then (verditertop_topWash.j1 kj4 a2 true l0_0 l0_1 l0_2 a1_0 a1_1) else (verditertop_topWash.j1 kj4 a2 (decide ((l0_2.length : Int) > 60)) l0_0 l0_1 l0_2 a1_0 a1_1))))) = some r := by rw [if_neg (show ¬ (false = true) by decide)] at H; exact H
    clear H
    have H := H1
    clear H1
    have HC18 := Aside0.mk H
    clear H
    go_upto_region 4 with (fail)
    go_cut [55] (fun v55 wc => ∃ (kq : Nat) (x55_17 : Bool), v55 = .bool x55_17 ∧ Aside0 (verditertop_topWash.j1 kq a2 x55_17 l0_0 l0_1 l0_2 a1_0 a1_1 = some r) ∧ Aside0 (kq ≤ kj4) ∧ Aside0 (wc.heap[gb160]? = some (.cells #[(.slice A0_0 l0_0.length c0_0), (.slice A0_1 l0_1.length c0_1), (.slice A0_2 l0_2.length c0_2)] 25 (0, 0))) ∧ Aside0 (wc.heap[gb161]? = some (.cells #[.int .i64 a1_0, .int .i64 a1_1] 27 (0, 0))) ∧ Aside0 (wc.heap[gb165]? = some (.cells #[.int .i64 t162, .int .i64 t163] 34 (0, 0))) ∧ Aside0 (Below w.heap.size w wc))
    case first =>
     as_aux_lemma =>
     have H := HC18.out
     clear HC18
     replace H := Option.bind_eq_some_iff.mp H
     obtain ⟨t166, A190, H⟩ := H
     replace H : (if t166 = true then (verditertop_topWash.j1 kj4 a2 true l0_0 l0_1 l0_2 a1_0 a1_1) else ((verditerlaw01_Long.f l0_1).bind fun t167 => (if t167 = true then (verditertop_topWash.j1 kj4 a2 true l0_0 l0_1 l0_2 a1_0 a1_1) else (verditertop_topWash.j1 kj4 a2 (decide ((l0_2.length : Int) > 60)) l0_0 l0_1 l0_2 a1_0 a1_1)))) = some r := H
     have A19 := Aside0.mk A190
     clear A190
     by_cases c20 : t166 = true
     ·subst c20
      have H1 : (verditertop_topWash.j1 kj4 a2 true l0_0 l0_1 l0_2 a1_0 a1_1) = some r := by rw [if_pos rfl] at H; exact H
      clear H
      have H := H1
      clear H1
      have H' := Aside0.mk H
      clear H
      have hnb21 := NB160_161.out
      have hnc21 := NB161_160.out
      have hnb22 := NB160_165.out
      have hnc22 := NB165_160.out
      have hcz23_0 : wc.cell? ⟨gb160, 0, none⟩ = some (.slice A0_0 l0_0.length c0_0) := (blk_cell BK160.out 0).trans rfl
      have hcz23_1 : wc.cell? ⟨gb160, 1, none⟩ = some (.slice A0_1 l0_1.length c0_1) := (blk_cell BK160.out 1).trans rfl
      have hcz23_2 : wc.cell? ⟨gb160, 2, none⟩ = some (.slice A0_2 l0_2.length c0_2) := (blk_cell BK160.out 2).trans rfl
      have hfz23_0 := blk_frozen BK160.out 0
      have hfz23_1 := blk_frozen BK160.out 1
      have hfz23_2 := blk_frozen BK160.out 2
      go_wp2_with (first | ((with_reducible refine gate_callee (f := 10) rfl ?_); refine goesL_ (some 44) rfl rfl Try.func10 (by kernel_rfl) rfl #[.slice A0_0 l0_0.length c0_0] rfl (by (try simp only [List.map_toArray, List.map_cons, List.map_nil]); first | done | rfl | (simp only [List.length_drop, List.length_take]; rfl)) ?_; (with_reducible refine (verditerlaw01_Long.calls _ _ l0_0 true _ ?side1 ?side2 A19.out).mono ?_); (case side1 => repeat (first | exact (Kd.C_below HR0_0.out HB.out) | (with_reducible refine Kd.C_alloc ?_ _) | (with_reducible refine Kd.C_drewN ?_ _) | (with_reducible refine Kd.C_drew ?_))); (case side2 => exact HC0_0.out); rintro e w' ⟨rfl, ⟨nd, rfl⟩⟩; refine ⟨_, rfl, ?_⟩))
      go_meet
      case rel => exact ⟨_, (true), (by first | rfl | (simp; done) | (simp [*]; done)), H', ⟨by have := HJ4.out; first | omega | exact Nat.le_refl _⟩, ⟨by (with_reducible repeat (first | refine blk_drewN ?_ _ | refine blk_drew ?_ | refine blk_alloc ?_ _)); exact BK160.out⟩, ⟨by (with_reducible repeat (first | refine blk_drewN ?_ _ | refine blk_drew ?_ | refine blk_alloc ?_ _)); exact BK161.out⟩, ⟨by (with_reducible repeat (first | refine blk_drewN ?_ _ | refine blk_drew ?_ | refine blk_alloc ?_ _)); exact BK165.out⟩, ⟨by repeat (first | (with_reducible first | exact HB.out | apply below_alloc | apply pw_below_drewN | apply below_drew1 | refine below_set ?_ GE160.out | refine below_set ?_ GE161.out | refine below_set ?_ GE165.out) | exact HB.out)⟩⟩
     ·replace c20 := Bool.eq_false_iff.mpr c20
      subst c20
      have H1 : ((verditerlaw01_Long.f l0_1).bind fun t167 => (if t167 = true then (verditertop_topWash.j1 kj4 a2 true l0_0 l0_1 l0_2 a1_0 a1_1) else (verditertop_topWash.j1 kj4 a2 (decide ((l0_2.length : Int) > 60)) l0_0 l0_1 l0_2 a1_0 a1_1))) = some r := by rw [if_neg (show ¬ (false = true) by decide)] at H; exact H
      clear H
      have H := H1
      clear H1
      replace H := Option.bind_eq_some_iff.mp H
      obtain ⟨t167, A240, H⟩ := H
      replace H : (if t167 = true then (verditertop_topWash.j1 kj4 a2 true l0_0 l0_1 l0_2 a1_0 a1_1) else (verditertop_topWash.j1 kj4 a2 (decide ((l0_2.length : Int) > 60)) l0_0 l0_1 l0_2 a1_0 a1_1)) = some r := H
      have A24 := Aside0.mk A240
      clear A240
      by_cases c25 : t167 = true
      ·subst c25
       have H1 : (verditertop_topWash.j1 kj4 a2 true l0_0 l0_1 l0_2 a1_0 a1_1) = some r := by rw [if_pos rfl] at H; exact H
       clear H
       have H := H1
       clear H1
       have H' := Aside0.mk H
       clear H
       have hnb26 := NB160_161.out
       have hnc26 := NB161_160.out
       have hnb27 := NB160_165.out
       have hnc27 := NB165_160.out
       have hcz28_0 : wc.cell? ⟨gb160, 0, none⟩ = some (.slice A0_0 l0_0.length c0_0) := (blk_cell BK160.out 0).trans rfl
       have hcz28_1 : wc.cell? ⟨gb160, 1, none⟩ = some (.slice A0_1 l0_1.length c0_1) := (blk_cell BK160.out 1).trans rfl
       have hcz28_2 : wc.cell? ⟨gb160, 2, none⟩ = some (.slice A0_2 l0_2.length c0_2) := (blk_cell BK160.out 2).trans rfl
       have hfz28_0 := blk_frozen BK160.out 0
       have hfz28_1 := blk_frozen BK160.out 1
       have hfz28_2 := blk_frozen BK160.out 2
       go_wp2_with (first | ((with_reducible refine gate_callee (f := 10) rfl ?_); refine goesL_ (some 44) rfl rfl Try.func10 (by kernel_rfl) rfl #[.slice A0_0 l0_0.length c0_0] rfl (by (try simp only [List.map_toArray, List.map_cons, List.map_nil]); first | done | rfl | (simp only [List.length_drop, List.length_take]; rfl)) ?_; (with_reducible refine (verditerlaw01_Long.calls _ _ l0_0 false _ ?side1 ?side2 A19.out).mono ?_); (case side1 => repeat (first | exact (Kd.C_below HR0_0.out HB.out) | (with_reducible refine Kd.C_alloc ?_ _) | (with_reducible refine Kd.C_drewN ?_ _) | (with_reducible refine Kd.C_drew ?_))); (case side2 => exact HC0_0.out); rintro e w' ⟨rfl, ⟨nd, rfl⟩⟩; refine ⟨_, rfl, ?_⟩) | (go_at_call 10; (with_reducible refine (verditerlaw01_Long.calls _ _ l0_1 true _ ?side1 ?side2 A24.out).mono ?_); (case side1 => repeat (first | exact (Kd.C_below HR0_1.out (by repeat (first | (with_reducible first | exact HB.out | apply below_alloc | apply pw_below_drewN | apply below_drew1 | refine below_set ?_ GE160.out | refine below_set ?_ GE161.out | refine below_set ?_ GE165.out) | exact HB.out))) | (with_reducible refine Kd.C_alloc ?_ _) | (with_reducible refine Kd.C_drewN ?_ _) | (with_reducible refine Kd.C_drew ?_))); (case side2 => exact HC0_1.out); rintro e w' ⟨rfl, ⟨nd, rfl⟩⟩))
       go_meet
       case rel => exact ⟨_, (true), (by first | rfl | (simp; done) | (simp [*]; done)), H', ⟨by have := HJ4.out; first | omega | exact Nat.le_refl _⟩, ⟨by (with_reducible repeat (first | refine blk_drewN ?_ _ | refine blk_drew ?_ | refine blk_alloc ?_ _)); exact BK160.out⟩, ⟨by (with_reducible repeat (first | refine blk_drewN ?_ _ | refine blk_drew ?_ | refine blk_alloc ?_ _)); exact BK161.out⟩, ⟨by (with_reducible repeat (first | refine blk_drewN ?_ _ | refine blk_drew ?_ | refine blk_alloc ?_ _)); exact BK165.out⟩, ⟨by repeat (first | (with_reducible first | exact HB.out | apply below_alloc | apply pw_below_drewN | apply below_drew1 | refine below_set ?_ GE160.out | refine below_set ?_ GE161.out | refine below_set ?_ GE165.out) | exact HB.out)⟩⟩
      ·replace c25 := Bool.eq_false_iff.mpr c25
       subst c25
       have H1 : (verditertop_topWash.j1 kj4 a2 (decide ((l0_2.length : Int) > 60)) l0_0 l0_1 l0_2 a1_0 a1_1) = some r := by rw [if_neg (show ¬ (false = true) by decide)] at H; exact H
       clear H
       have H := H1
       clear H1
       have H' := Aside0.mk H
       clear H
       have hnb29 := NB160_161.out
       have hnc29 := NB161_160.out
       have hnb30 := NB160_165.out
       have hnc30 := NB165_160.out
       have hcz31_0 : wc.cell? ⟨gb160, 0, none⟩ = some (.slice A0_0 l0_0.length c0_0) := (blk_cell BK160.out 0).trans rfl
       have hcz31_1 : wc.cell? ⟨gb160, 1, none⟩ = some (.slice A0_1 l0_1.length c0_1) := (blk_cell BK160.out 1).trans rfl
       have hcz31_2 : wc.cell? ⟨gb160, 2, none⟩ = some (.slice A0_2 l0_2.length c0_2) := (blk_cell BK160.out 2).trans rfl
       have hfz31_0 := blk_frozen BK160.out 0
       have hfz31_1 := blk_frozen BK160.out 1
       have hfz31_2 := blk_frozen BK160.out 2
       go_wp2_with (first | ((with_reducible refine gate_callee (f := 10) rfl ?_); refine goesL_ (some 44) rfl rfl Try.func10 (by kernel_rfl) rfl #[.slice A0_0 l0_0.length c0_0] rfl (by (try simp only [List.map_toArray, List.map_cons, List.map_nil]); first | done | rfl | (simp only [List.length_drop, List.length_take]; rfl)) ?_; (with_reducible refine (verditerlaw01_Long.calls _ _ l0_0 false _ ?side1 ?side2 A19.out).mono ?_); (case side1 => repeat (first | exact (Kd.C_below HR0_0.out HB.out) | (with_reducible refine Kd.C_alloc ?_ _) | (with_reducible refine Kd.C_drewN ?_ _) | (with_reducible refine Kd.C_drew ?_))); (case side2 => exact HC0_0.out); rintro e w' ⟨rfl, ⟨nd, rfl⟩⟩; refine ⟨_, rfl, ?_⟩) | (go_at_call 10; (with_reducible refine (verditerlaw01_Long.calls _ _ l0_1 false _ ?side1 ?side2 A24.out).mono ?_); (case side1 => repeat (first | exact (Kd.C_below HR0_1.out (by repeat (first | (with_reducible first | exact HB.out | apply below_alloc | apply pw_below_drewN | apply below_drew1 | refine below_set ?_ GE160.out | refine below_set ?_ GE161.out | refine below_set ?_ GE165.out) | exact HB.out))) | (with_reducible refine Kd.C_alloc ?_ _) | (with_reducible refine Kd.C_drewN ?_ _) | (with_reducible refine Kd.C_drew ?_))); (case side2 => exact HC0_1.out); rintro e w' ⟨rfl, ⟨nd, rfl⟩⟩))
       go_meet
       case rel => exact ⟨_, (decide ((l0_2.length : Int) > 60)), (by first | rfl | (simp; done) | (simp [*]; done)), H', ⟨by have := HJ4.out; first | omega | exact Nat.le_refl _⟩, ⟨by (with_reducible repeat (first | refine blk_drewN ?_ _ | refine blk_drew ?_ | refine blk_alloc ?_ _)); exact BK160.out⟩, ⟨by (with_reducible repeat (first | refine blk_drewN ?_ _ | refine blk_drew ?_ | refine blk_alloc ?_ _)); exact BK161.out⟩, ⟨by (with_reducible repeat (first | refine blk_drewN ?_ _ | refine blk_drew ?_ | refine blk_alloc ?_ _)); exact BK165.out⟩, ⟨by repeat (first | (with_reducible first | exact HB.out | apply below_alloc | apply pw_below_drewN | apply below_drew1 | refine below_set ?_ GE160.out | refine below_set ?_ GE161.out | refine below_set ?_ GE165.out) | exact HB.out)⟩⟩
    case rest =>
     as_aux_lemma =>
     clear HC18
     obtain ⟨kq, x55_17, rfl, HA, HJ17, BK160, BK161, BK165, HB⟩ := hcut
     cases kq with
     | zero => exact absurd HA.out (by simp [verditertop_topWash.j1])
     | succ kj17 =>
      have H := HA.out
      clear HA
      simp only [verditertop_topWash.j1] at H
      by_cases c32 : x55_17 = true
      ·subst c32
       have H1 : (some true) = some r := by rw [if_pos rfl] at H; exact H
       clear H
       have H := H1
       clear H1
       obtain rfl := Option.some.inj H
       go_wp2
       go_ret
       exact ⟨by first | rfl | (simp [errW_none, errW_some] <;> rfl) | (simp [*, errW_none, errW_some] <;> rfl), by repeat (first | (with_reducible first | exact HB.out | apply below_alloc | apply pw_below_drewN | apply below_drew1 | refine below_set ?_ GE160.out | refine below_set ?_ GE161.out | refine below_set ?_ GE165.out) | exact HB.out)⟩
      ·replace c32 := Bool.eq_false_iff.mpr c32
       subst c32
       have H1 : ((wash_Mass.f kj17 l0_0).bind fun bt168 => (if bt168.2 = 0 then ((wash_Settle.f l0_0 a1_0 a1_1).bind fun bt171 => ((wash_Wash.f l0_0 a1_0 a1_1 a2).bind fun bt178 => (if bt171.2.2 = 0 then (if (bt171.1.length : Int) = (l0_0.length : Int) then (verditertop_topWash.j2 kj17 bt168.1 bt171.2.2 bt171.1 bt171.2.1 bt178.1 bt178.2 ((bt171.2.1.length : Int) != (l0_0.length : Int)) l0_0 l0_1 l0_2) else (verditertop_topWash.j2 kj17 bt168.1 bt171.2.2 bt171.1 bt171.2.1 bt178.1 bt178.2 true l0_0 l0_1 l0_2)) else (verditertop_topWash.j5 kj17 bt171.2.2 bt171.2.1 bt178.1 bt178.2 l0_0 l0_1 l0_2)))) else ((wash_Validate.f kj17 l0_0).bind fun t170 => (some (t170 == bt168.2))))) = some r := by rw [if_neg (show ¬ (false = true) by decide)] at H; exact H
       clear H
       have H := H1
       clear H1
       replace H := Option.bind_eq_some_iff.mp H
       obtain ⟨⟨t168, t169⟩, A330, H⟩ := H
       replace H : (if t169 = 0 then ((wash_Settle.f l0_0 a1_0 a1_1).bind fun bt171 => ((wash_Wash.f l0_0 a1_0 a1_1 a2).bind fun bt178 => (if bt171.2.2 = 0 then (if (bt171.1.length : Int) = (l0_0.length : Int) then (verditertop_topWash.j2 kj17 t168 bt171.2.2 bt171.1 bt171.2.1 bt178.1 bt178.2 ((bt171.2.1.length : Int) != (l0_0.length : Int)) l0_0 l0_1 l0_2) else (verditertop_topWash.j2 kj17 t168 bt171.2.2 bt171.1 bt171.2.1 bt178.1 bt178.2 true l0_0 l0_1 l0_2)) else (verditertop_topWash.j5 kj17 bt171.2.2 bt171.2.1 bt178.1 bt178.2 l0_0 l0_1 l0_2)))) else ((wash_Validate.f kj17 l0_0).bind fun t170 => (some (t170 == t169)))) = some r := H
       have A33 := Aside0.mk A330
       clear A330
       by_cases c34 : t169 = 0
       ·rw [if_pos c34] at H
        have c34b0 : (t169 == 0) = true := beq_iff_eq.mpr c34
        have c34b1 : (t169 != 0) = false := bne_eq_false_iff_eq.mpr c34
        clear c34
        replace H := Option.bind_eq_some_iff.mp H
        obtain ⟨⟨t171, t172, t173⟩, A350, H⟩ := H
        replace H : ((wash_Wash.f l0_0 a1_0 a1_1 a2).bind fun bt178 => (if t173 = 0 then (if (t171.length : Int) = (l0_0.length : Int) then (verditertop_topWash.j2 kj17 t168 t173 t171 t172 bt178.1 bt178.2 ((t172.length : Int) != (l0_0.length : Int)) l0_0 l0_1 l0_2) else (verditertop_topWash.j2 kj17 t168 t173 t171 t172 bt178.1 bt178.2 true l0_0 l0_1 l0_2)) else (verditertop_topWash.j5 kj17 t173 t172 bt178.1 bt178.2 l0_0 l0_1 l0_2))) = some r := H
        have A35 := Aside0.mk A350
        clear A350
        replace H := Option.bind_eq_some_iff.mp H
        obtain ⟨⟨t178, t179⟩, A360, H⟩ := H
        replace H : (if t173 = 0 then (if (t171.length : Int) = (l0_0.length : Int) then (verditertop_topWash.j2 kj17 t168 t173 t171 t172 t178 t179 ((t172.length : Int) != (l0_0.length : Int)) l0_0 l0_1 l0_2) else (verditertop_topWash.j2 kj17 t168 t173 t171 t172 t178 t179 true l0_0 l0_1 l0_2)) else (verditertop_topWash.j5 kj17 t173 t172 t178 t179 l0_0 l0_1 l0_2)) = some r := H
        have A36 := Aside0.mk A360
        clear A360
        have HC37 := Aside0.mk H
        clear H
        have hnb38 := NB160_161.out
        have hnc38 := NB161_160.out
        have hnb39 := NB160_165.out
        have hnc39 := NB165_160.out
        have hcz40_0 : wc.cell? ⟨gb160, 0, none⟩ = some (.slice A0_0 l0_0.length c0_0) := (blk_cell BK160.out 0).trans rfl
        have hcz40_1 : wc.cell? ⟨gb160, 1, none⟩ = some (.slice A0_1 l0_1.length c0_1) := (blk_cell BK160.out 1).trans rfl
        have hcz40_2 : wc.cell? ⟨gb160, 2, none⟩ = some (.slice A0_2 l0_2.length c0_2) := (blk_cell BK160.out 2).trans rfl
        have hfz40_0 := blk_frozen BK160.out 0
        have hfz40_1 := blk_frozen BK160.out 1
        have hfz40_2 := blk_frozen BK160.out 2
        go_upto_if 92 with (first | ((with_reducible refine gate_callee (f := 11) rfl ?_); refine goesL_ (some 59) rfl rfl Try.func11 (by kernel_rfl) rfl #[.slice A0_0 l0_0.length c0_0] rfl (by (try simp only [List.map_toArray, List.map_cons, List.map_nil]); first | done | rfl | (simp only [List.length_drop, List.length_take]; rfl)) ?_; (with_reducible refine (wash_Mass.calls kj17 _ _ l0_0 t168 t169 _ ?side1 ?side2 A33.out).mono ?_); (case side1 => repeat (first | exact (Kd.C_below HR0_0.out HB.out) | (with_reducible refine Kd.C_alloc ?_ _) | (with_reducible refine Kd.C_drewN ?_ _) | (with_reducible refine Kd.C_drew ?_))); (case side2 => exact HC0_0.out); rintro e w41 ⟨rfl, hb⟩; refine ⟨_, rfl, ?_⟩; have n0_ := Aside0.mk (blk_below (g := gb160) (o := .cells #[.slice A0_0 l0_0.length c0_0, .slice A0_1 l0_1.length c0_1, .slice A0_2 l0_2.length c0_2] 25 (0, 0)) (by (with_reducible repeat (first | refine blk_drewN ?_ _ | refine blk_drew ?_ | refine blk_alloc ?_ _)); exact BK160.out) hb); have n1_ := Aside0.mk (blk_below (g := gb161) (o := .cells #[.int .i64 a1_0, .int .i64 a1_1] 27 (0, 0)) (by (with_reducible repeat (first | refine blk_drewN ?_ _ | refine blk_drew ?_ | refine blk_alloc ?_ _)); exact BK161.out) hb); have n2_ := Aside0.mk (blk_below (g := gb165) (o := .cells #[.int .i64 t162, .int .i64 t163] 34 (0, 0)) (by (with_reducible repeat (first | refine blk_drewN ?_ _ | refine blk_drew ?_ | refine blk_alloc ?_ _)); exact BK165.out) hb); have n3_ := Aside0.mk (below_step (by repeat (first | (with_reducible first | exact HB.out | apply below_alloc | apply pw_below_drewN | apply below_drew1 | refine below_set ?_ GE160.out | refine below_set ?_ GE161.out | refine below_set ?_ GE165.out) | exact HB.out)) hb); clear BK160; clear BK161; clear BK165; clear HB; have BK160 := n0_; have BK161 := n1_; have BK165 := n2_; have HB := n3_; clear n0_ n1_ n2_ n3_; (try clear hb); (try clear hb2); (try clear hk); (try clear hi); have hcz42_0 : w41.cell? ⟨gb160, 0, none⟩ = some (.slice A0_0 l0_0.length c0_0) := (blk_cell BK160.out 0).trans rfl; have hcz42_1 : w41.cell? ⟨gb160, 1, none⟩ = some (.slice A0_1 l0_1.length c0_1) := (blk_cell BK160.out 1).trans rfl; have hcz42_2 : w41.cell? ⟨gb160, 2, none⟩ = some (.slice A0_2 l0_2.length c0_2) := (blk_cell BK160.out 2).trans rfl; have hfz42_0 := blk_frozen BK160.out 0; have hfz42_1 := blk_frozen BK160.out 1; have hfz42_2 := blk_frozen BK160.out 2; have hnb43 := NB161_165.out; have hnc43 := NB165_161.out; have hcz44_0 : w41.cell? ⟨gb161, 0, none⟩ = some (.int .i64 a1_0) := (blk_cell BK161.out 0).trans rfl; have hcz44_1 : w41.cell? ⟨gb161, 1, none⟩ = some (.int .i64 a1_1) := (blk_cell BK161.out 1).trans rfl; have hfz44_0 := blk_frozen BK161.out 0; have hfz44_1 := blk_frozen BK161.out 1) | ((with_reducible refine gate_callee (f := 13) rfl ?_); refine goesL_ (some 76) rfl rfl Try.func13 (by kernel_rfl) rfl #[.slice A0_0 l0_0.length c0_0, .int .i64 a1_0, .int .i64 a1_1] rfl (by (try simp only [List.map_toArray, List.map_cons, List.map_nil]); first | done | rfl | (simp only [List.length_drop, List.length_take]; rfl)) ?_; (with_reducible refine (wash_Settle.calls _ _ l0_0 a1_0 a1_1 t171 t172 t173 _ ?side1 ?side2 A35.out).mono ?_); (case side1 => repeat (first | exact (Kd.C_below HR0_0.out HB.out) | (with_reducible refine Kd.C_alloc ?_ _) | (with_reducible refine Kd.C_drewN ?_ _) | (with_reducible refine Kd.C_drew ?_))); (case side2 => exact HC0_0.out); rintro e w45 ⟨v174, v176, rfl, ho0, ho1, hb⟩; refine ⟨_, rfl, ?_⟩; have n0_ := Aside0.mk (Kd.R_lower (Kd.R_newB ho0 (g := gb165) (o := .cells #[.int .i64 t162, .int .i64 t163] 34 (0, 0)) (by (with_reducible repeat (first | refine blk_drewN ?_ _ | refine blk_drew ?_ | refine blk_alloc ?_ _)); exact BK165.out)) (below_size (by repeat (first | (with_reducible first | exact HB.out | apply below_alloc | apply pw_below_drewN | apply below_drew1 | refine below_set ?_ GE160.out | refine below_set ?_ GE161.out | refine below_set ?_ GE165.out) | exact HB.out)))); have n1_ := Aside0.mk (Kd.R_lower (Kd.R_newB ho1 (g := gb165) (o := .cells #[.int .i64 t162, .int .i64 t163] 34 (0, 0)) (by (with_reducible repeat (first | refine blk_drewN ?_ _ | refine blk_drew ?_ | refine blk_alloc ?_ _)); exact BK165.out)) (below_size (by repeat (first | (with_reducible first | exact HB.out | apply below_alloc | apply pw_below_drewN | apply below_drew1 | refine below_set ?_ GE160.out | refine below_set ?_ GE161.out | refine below_set ?_ GE165.out) | exact HB.out)))); have n2_ := Aside0.mk (blk_below (g := gb160) (o := .cells #[.slice A0_0 l0_0.length c0_0, .slice A0_1 l0_1.length c0_1, .slice A0_2 l0_2.length c0_2] 25 (0, 0)) (by (with_reducible repeat (first | refine blk_drewN ?_ _ | refine blk_drew ?_ | refine blk_alloc ?_ _)); exact BK160.out) hb); have n3_ := Aside0.mk (blk_below (g := gb161) (o := .cells #[.int .i64 a1_0, .int .i64 a1_1] 27 (0, 0)) (by (with_reducible repeat (first | refine blk_drewN ?_ _ | refine blk_drew ?_ | refine blk_alloc ?_ _)); exact BK161.out) hb); have n4_ := Aside0.mk (blk_below (g := gb165) (o := .cells #[.int .i64 t162, .int .i64 t163] 34 (0, 0)) (by (with_reducible repeat (first | refine blk_drewN ?_ _ | refine blk_drew ?_ | refine blk_alloc ?_ _)); exact BK165.out) hb); have n5_ := Aside0.mk (below_step (by repeat (first | (with_reducible first | exact HB.out | apply below_alloc | apply pw_below_drewN | apply below_drew1 | refine below_set ?_ GE160.out | refine below_set ?_ GE161.out | refine below_set ?_ GE165.out) | exact HB.out)) hb); clear BK160; clear BK161; clear BK165; clear HB; have HO175 := n0_; have HO177 := n1_; have BK160 := n2_; have BK161 := n3_; have BK165 := n4_; have HB := n5_; clear n0_ n1_ n2_ n3_ n4_ n5_; (try clear hb); (try clear hb2); (try clear hk); (try clear hi); (try clear ho0); (try clear ho1); have hcz46_0 : w45.cell? ⟨gb160, 0, none⟩ = some (.slice A0_0 l0_0.length c0_0) := (blk_cell BK160.out 0).trans rfl; have hcz46_1 : w45.cell? ⟨gb160, 1, none⟩ = some (.slice A0_1 l0_1.length c0_1) := (blk_cell BK160.out 1).trans rfl; have hcz46_2 : w45.cell? ⟨gb160, 2, none⟩ = some (.slice A0_2 l0_2.length c0_2) := (blk_cell BK160.out 2).trans rfl; have hfz46_0 := blk_frozen BK160.out 0; have hfz46_1 := blk_frozen BK160.out 1; have hfz46_2 := blk_frozen BK160.out 2; have hcz47_0 : w45.cell? ⟨gb161, 0, none⟩ = some (.int .i64 a1_0) := (blk_cell BK161.out 0).trans rfl; have hcz47_1 : w45.cell? ⟨gb161, 1, none⟩ = some (.int .i64 a1_1) := (blk_cell BK161.out 1).trans rfl; have hfz47_0 := blk_frozen BK161.out 0; have hfz47_1 := blk_frozen BK161.out 1) | ((with_reducible refine gate_callee (f := 14) rfl ?_); refine goesL_ (some 88) rfl rfl Try.func14 (by kernel_rfl) rfl #[.slice A0_0 l0_0.length c0_0, .int .i64 a1_0, .int .i64 a1_1, .int .i64 a2] rfl (by (try simp only [List.map_toArray, List.map_cons, List.map_nil]); first | done | rfl | (simp only [List.length_drop, List.length_take]; rfl)) ?_; (with_reducible refine (wash_Wash.calls _ _ l0_0 a1_0 a1_1 a2 t178 t179 _ ?side1 ?side2 A36.out).mono ?_); (case side1 => repeat (first | exact (Kd.C_below HR0_0.out HB.out) | (with_reducible refine Kd.C_alloc ?_ _) | (with_reducible refine Kd.C_drewN ?_ _) | (with_reducible refine Kd.C_drew ?_))); (case side2 => exact HC0_0.out); rintro e w48 ⟨v180, rfl, ho0, hb⟩; refine ⟨_, rfl, ?_⟩; have n0_ := Aside0.mk (Kd.R_elder' (by (with_reducible repeat (first | apply Kd.R_alloc | apply Kd.R_drewN | apply Kd.R_drew)); exact HO175.out) (Kd.R_base ho0) hb); have n1_ := Aside0.mk (Kd.R_elder' (by (with_reducible repeat (first | apply Kd.R_alloc | apply Kd.R_drewN | apply Kd.R_drew)); exact HO177.out) (Kd.R_base ho0) hb); have n2_ := Aside0.mk (Kd.R_lower (Kd.R_newB (Kd.R_new' (Kd.R_new' ho0 (Kd.R_lt (by (with_reducible repeat (first | apply Kd.R_alloc | apply Kd.R_drewN | apply Kd.R_drew)); exact HO175.out))) (Kd.R_lt (by (with_reducible repeat (first | apply Kd.R_alloc | apply Kd.R_drewN | apply Kd.R_drew)); exact HO177.out))) (g := gb165) (o := .cells #[.int .i64 t162, .int .i64 t163] 34 (0, 0)) (by (with_reducible repeat (first | refine blk_drewN ?_ _ | refine blk_drew ?_ | refine blk_alloc ?_ _)); exact BK165.out)) (below_size (by repeat (first | (with_reducible first | exact HB.out | apply below_alloc | apply pw_below_drewN | apply below_drew1 | refine below_set ?_ GE160.out | refine below_set ?_ GE161.out | refine below_set ?_ GE165.out) | exact HB.out)))); have n3_ := Aside0.mk (blk_below (g := gb160) (o := .cells #[.slice A0_0 l0_0.length c0_0, .slice A0_1 l0_1.length c0_1, .slice A0_2 l0_2.length c0_2] 25 (0, 0)) (by (with_reducible repeat (first | refine blk_drewN ?_ _ | refine blk_drew ?_ | refine blk_alloc ?_ _)); exact BK160.out) hb); have n4_ := Aside0.mk (blk_below (g := gb161) (o := .cells #[.int .i64 a1_0, .int .i64 a1_1] 27 (0, 0)) (by (with_reducible repeat (first | refine blk_drewN ?_ _ | refine blk_drew ?_ | refine blk_alloc ?_ _)); exact BK161.out) hb); have n5_ := Aside0.mk (blk_below (g := gb165) (o := .cells #[.int .i64 t162, .int .i64 t163] 34 (0, 0)) (by (with_reducible repeat (first | refine blk_drewN ?_ _ | refine blk_drew ?_ | refine blk_alloc ?_ _)); exact BK165.out) hb); have n6_ := Aside0.mk (below_step (by repeat (first | (with_reducible first | exact HB.out | apply below_alloc | apply pw_below_drewN | apply below_drew1 | refine below_set ?_ GE160.out | refine below_set ?_ GE161.out | refine below_set ?_ GE165.out) | exact HB.out)) hb); clear HO175; clear HO177; clear BK160; clear BK161; clear BK165; clear HB; have HO175 := n0_; have HO177 := n1_; have HO181 := n2_; have BK160 := n3_; have BK161 := n4_; have BK165 := n5_; have HB := n6_; clear n0_ n1_ n2_ n3_ n4_ n5_ n6_; (try clear hb); (try clear hb2); (try clear hk); (try clear hi); (try clear ho0)))
        (try simp only [Act.put, List.setIfInBounds_toArray, List.set_cons_zero, List.set_cons_succ])
        go_cut [] (fun wc => ∃ (kq : Nat), Aside0 (verditertop_topWash.j5 kq t173 t172 t178 t179 l0_0 l0_1 l0_2 = some r) ∧ Aside0 (kq ≤ kj17) ∧ Aside0 (Kd.R k34 34 wc w.heap.size (fun k_ => some k_ ≠ (v180 : Value).ownBlock ∧ k_ ≠ gb165) v176 t172) ∧ Aside0 (Kd.R k34 34 wc w.heap.size (fun k_ => some k_ ≠ (v176 : Value).ownBlock ∧ k_ ≠ gb165) v180 t178) ∧ Aside0 (wc.heap[gb160]? = some (.cells #[(.slice A0_0 l0_0.length c0_0), (.slice A0_1 l0_1.length c0_1), (.slice A0_2 l0_2.length c0_2)] 25 (0, 0))) ∧ Aside0 (wc.heap[gb161]? = some (.cells #[.int .i64 a1_0, .int .i64 a1_1] 27 (0, 0))) ∧ Aside0 (wc.heap[gb165]? = some (.cells #[.int .i64 t162, .int .i64 t163] 34 (0, 0))) ∧ Aside0 (Below w.heap.size w wc))
        case first =>
         as_aux_lemma =>
         have H := HC37.out
         clear HC37
         by_cases c49 : t173 = 0
         ·rw [if_pos c49] at H
          have c49b0 : (t173 == 0) = true := beq_iff_eq.mpr c49
          have c49b1 : (t173 != 0) = false := bne_eq_false_iff_eq.mpr c49
          clear c49
          (first | rw [c49b0] | (simp only [i64_w, i32_w]; rw [c49b0]) | skip)
          have HC50 := Aside0.mk H
          clear H
          go_upto_region 12 with (fail)
          go_cut [106] (fun v106 wc => ∃ (kq : Nat) (x106_49 : Bool), v106 = .bool x106_49 ∧ Aside0 (verditertop_topWash.j2 kq t168 t173 t171 t172 t178 t179 x106_49 l0_0 l0_1 l0_2 = some r) ∧ Aside0 (kq ≤ kj17) ∧ Aside0 (Kd.R k34 34 wc w.heap.size (fun k_ => some k_ ≠ (v176 : Value).ownBlock ∧ some k_ ≠ (v180 : Value).ownBlock ∧ k_ ≠ gb165) v174 t171) ∧ Aside0 (Kd.R k34 34 wc w.heap.size (fun k_ => some k_ ≠ (v174 : Value).ownBlock ∧ some k_ ≠ (v180 : Value).ownBlock ∧ k_ ≠ gb165) v176 t172) ∧ Aside0 (Kd.R k34 34 wc w.heap.size (fun k_ => some k_ ≠ (v174 : Value).ownBlock ∧ some k_ ≠ (v176 : Value).ownBlock ∧ k_ ≠ gb165) v180 t178) ∧ Aside0 (wc.heap[gb160]? = some (.cells #[(.slice A0_0 l0_0.length c0_0), (.slice A0_1 l0_1.length c0_1), (.slice A0_2 l0_2.length c0_2)] 25 (0, 0))) ∧ Aside0 (wc.heap[gb161]? = some (.cells #[.int .i64 a1_0, .int .i64 a1_1] 27 (0, 0))) ∧ Aside0 (wc.heap[gb165]? = some (.cells #[.int .i64 t162, .int .i64 t163] 34 (0, 0))) ∧ Aside0 (Below w.heap.size w wc))
          case first =>
           as_aux_lemma =>
           have H := HC50.out
           clear HC50
           by_cases c51 : (t171.length : Int) = (l0_0.length : Int)
           ·rw [if_pos c51] at H
            have c51b0 : ((t171.length : Int) == (l0_0.length : Int)) = true := beq_iff_eq.mpr c51
            have c51b1 : ((t171.length : Int) != (l0_0.length : Int)) = false := bne_eq_false_iff_eq.mpr c51
            have c51b2 : (t171.length == l0_0.length) = true := by first | simpa using c51 | (simp at c51 ⊢; omega)
            clear c51
            (first | rw [c51b0] | (simp only [i64_w, i32_w]; rw [c51b0]) | skip)
            have H' := Aside0.mk H
            clear H
            obtain ⟨Ao52, co52, eo52⟩ := Kd.R_slice HO175.out
            subst eo52
            have hnb53 := NB160_161.out
            have hnc53 := NB161_160.out
            have hnb54 := NB160_165.out
            have hnc54 := NB165_160.out
            have hcz55_0 : w48.cell? ⟨gb160, 0, none⟩ = some (.slice A0_0 l0_0.length c0_0) := (blk_cell BK160.out 0).trans rfl
            have hcz55_1 : w48.cell? ⟨gb160, 1, none⟩ = some (.slice A0_1 l0_1.length c0_1) := (blk_cell BK160.out 1).trans rfl
            have hcz55_2 : w48.cell? ⟨gb160, 2, none⟩ = some (.slice A0_2 l0_2.length c0_2) := (blk_cell BK160.out 2).trans rfl
            have hfz55_0 := blk_frozen BK160.out 0
            have hfz55_1 := blk_frozen BK160.out 1
            have hfz55_2 := blk_frozen BK160.out 2
            obtain ⟨Ao56, co56, eo56⟩ := Kd.R_slice HO177.out
            subst eo56
            go_wp2
            go_meet
            case rel => exact ⟨_, (((t172.length : Int) != (l0_0.length : Int))), (by first | rfl | (simp; done) | (simp [*]; done)), H', ⟨by have := HJ4.out; have := HJ17.out; first | omega | exact Nat.le_refl _⟩, ⟨by (with_reducible repeat (first | apply Kd.R_alloc | apply Kd.R_drewN | apply Kd.R_drew)); exact Kd.R_mono HO175.out (fun _ hk => ⟨hk.1.1, ⟨hk.2, hk.1.2⟩⟩)⟩, ⟨by (with_reducible repeat (first | apply Kd.R_alloc | apply Kd.R_drewN | apply Kd.R_drew)); exact Kd.R_mono HO177.out (fun _ hk => ⟨hk.1.1, ⟨hk.2, hk.1.2⟩⟩)⟩, ⟨by (with_reducible repeat (first | apply Kd.R_alloc | apply Kd.R_drewN | apply Kd.R_drew)); exact Kd.R_mono HO181.out (fun _ hk => ⟨hk.1.1.2, ⟨hk.1.2, hk.2⟩⟩)⟩, ⟨by (with_reducible repeat (first | refine blk_drewN ?_ _ | refine blk_drew ?_ | refine blk_alloc ?_ _)); exact BK160.out⟩, ⟨by (with_reducible repeat (first | refine blk_drewN ?_ _ | refine blk_drew ?_ | refine blk_alloc ?_ _)); exact BK161.out⟩, ⟨by (with_reducible repeat (first | refine blk_drewN ?_ _ | refine blk_drew ?_ | refine blk_alloc ?_ _)); exact BK165.out⟩, ⟨by repeat (first | (with_reducible first | exact HB.out | apply below_alloc | apply pw_below_drewN | apply below_drew1 | refine below_set ?_ GE160.out | refine below_set ?_ GE161.out | refine below_set ?_ GE165.out) | exact HB.out)⟩⟩
           ·rw [if_neg c51] at H
            have c51b0 : ((t171.length : Int) == (l0_0.length : Int)) = false := beq_eq_false_iff_ne.mpr c51
            have c51b1 : ((t171.length : Int) != (l0_0.length : Int)) = true := bne_iff_ne.mpr c51
            have c51b2 : (t171.length == l0_0.length) = false := by first | simpa using c51 | (simp at c51 ⊢; omega)
            (first | rw [c51b0] | (simp only [i64_w, i32_w]; rw [c51b0]) | skip)
            exact absurd (show r = false by first | exact no_j0 H | exact no_j9 H | exact no_j6 H | exact no_j2 H | exact no_j4 H) (by rw [HRT.out]; decide)
          case rest =>
           as_aux_lemma =>
           clear HC50 c34b0 c34b1 c49b0 c49b1 hcz40_0 hcz40_1 hcz40_2 hcz42_0 hcz42_1 hcz42_2 hcz44_0 hcz44_1 hcz46_0 hcz46_1 hcz46_2 hcz47_0 hcz47_1 hfz40_0 hfz40_1 hfz40_2 hfz42_0 hfz42_1 hfz42_2 hfz44_0 hfz44_1 hfz46_0 hfz46_1 hfz46_2 hfz47_0 hfz47_1
           obtain ⟨kq, x106_49, rfl, HA, HJ49, HO_11, HO_12, HO_13, BK160, BK161, BK165, HB⟩ := hcut
           cases kq with
           | zero => exact absurd HA.out (by simp [verditertop_topWash.j2])
           | succ kj49 =>
            have H := HA.out
            clear HA
            simp only [verditertop_topWash.j2] at H
            by_cases c61 : x106_49 = true
            ·subst c61
             have H1 : (some false) = some r := by rw [if_pos rfl] at H; exact H
             clear H
             have H := H1
             clear H1
             exact absurd (Option.some.inj H) (by rw [HRT.out]; decide)
            ·replace c61 := Bool.eq_false_iff.mpr c61
             subst c61
             have H1 : (verditertop_topWash.l0 kj49 t168 t173 t171 t172 t178 t179 0 l0_0 l0_1 l0_2 0 1) = some r := by rw [if_neg (show ¬ (false = true) by decide)] at H; exact H
             clear H
             have H := H1
             clear H1
             have H' := Aside0.mk H
             clear H
             go_wp2_with (first | ((with_reducible refine gate_dst (N := 15) rfl ?_); (try (refine gate_guard (by rfl) ?_; dsimp only)); refine box_event ?hg (N := 15) ?hd (cs := #[.int .i64 0, .int .i64 0]) (t := 34) ?hr ?_; (case hd => rfl); (case hg => rfl); (case hr => first | (go_simp; done) | (go_simp; rfl)); intro gb182 hg w62 hbox hb; have n0_ := Aside0.mk (Kd.R_below (Kd.R_elderB (by (with_reducible repeat (first | apply Kd.R_alloc | apply Kd.R_drewN | apply Kd.R_drew)); exact HO_11.out) gb182 (Nat.le_of_eq hg.symm)) hb); have n1_ := Aside0.mk (Kd.R_below (Kd.R_elderB (by (with_reducible repeat (first | apply Kd.R_alloc | apply Kd.R_drewN | apply Kd.R_drew)); exact HO_12.out) gb182 (Nat.le_of_eq hg.symm)) hb); have n2_ := Aside0.mk (Kd.R_below (Kd.R_elderB (by (with_reducible repeat (first | apply Kd.R_alloc | apply Kd.R_drewN | apply Kd.R_drew)); exact HO_13.out) gb182 (Nat.le_of_eq hg.symm)) hb); have n3_ := Aside0.mk (blk_below (g := gb160) (o := .cells #[.slice A0_0 l0_0.length c0_0, .slice A0_1 l0_1.length c0_1, .slice A0_2 l0_2.length c0_2] 25 (0, 0)) (by (with_reducible repeat (first | refine blk_drewN ?_ _ | refine blk_drew ?_ | refine blk_alloc ?_ _)); exact BK160.out) hb); have n4_ := Aside0.mk (blk_below (g := gb161) (o := .cells #[.int .i64 a1_0, .int .i64 a1_1] 27 (0, 0)) (by (with_reducible repeat (first | refine blk_drewN ?_ _ | refine blk_drew ?_ | refine blk_alloc ?_ _)); exact BK161.out) hb); have n5_ := Aside0.mk (blk_below (g := gb165) (o := .cells #[.int .i64 t162, .int .i64 t163] 34 (0, 0)) (by (with_reducible repeat (first | refine blk_drewN ?_ _ | refine blk_drew ?_ | refine blk_alloc ?_ _)); exact BK165.out) hb); have n6_ := Aside0.mk (below_step (by repeat (first | (with_reducible first | exact HB.out | apply below_alloc | apply pw_below_drewN | apply below_drew1 | refine below_set ?_ GE160.out | refine below_set ?_ GE161.out | refine below_set ?_ GE165.out) | exact HB.out)) hb); have n7_ := Aside0.mk (hbox); have n8_ := Aside0.mk ((by rw [hg]; exact (below_size (by repeat (first | (with_reducible first | exact HB.out | apply below_alloc | apply pw_below_drewN | apply below_drew1 | refine below_set ?_ GE160.out | refine below_set ?_ GE161.out | refine below_set ?_ GE165.out) | exact HB.out))) : w.heap.size ≤ gb182)); have n9_ := Aside0.mk ((by rw [hg]; exact (below_size (by repeat (first | (with_reducible first | exact HB.out | apply below_alloc | apply pw_below_drewN | apply below_drew1 | refine below_set ?_ GE160.out | refine below_set ?_ GE161.out | refine below_set ?_ GE165.out) | exact HB.out))) : w.heap.size ≤ gb182)); have n10_ := Aside0.mk ((by rw [hg]; exact Nat.ne_of_lt (blk_lt (g := gb160) (o := .cells #[.slice A0_0 l0_0.length c0_0, .slice A0_1 l0_1.length c0_1, .slice A0_2 l0_2.length c0_2] 25 (0, 0)) (by (with_reducible repeat (first | refine blk_drewN ?_ _ | refine blk_drew ?_ | refine blk_alloc ?_ _)); exact BK160.out)) : gb160 ≠ gb182)); have n11_ := Aside0.mk ((by rw [hg]; exact Nat.ne_of_gt (blk_lt (g := gb160) (o := .cells #[.slice A0_0 l0_0.length c0_0, .slice A0_1 l0_1.length c0_1, .slice A0_2 l0_2.length c0_2] 25 (0, 0)) (by (with_reducible repeat (first | refine blk_drewN ?_ _ | refine blk_drew ?_ | refine blk_alloc ?_ _)); exact BK160.out)) : gb182 ≠ gb160)); have n12_ := Aside0.mk ((by rw [hg]; exact Nat.ne_of_lt (blk_lt (g := gb161) (o := .cells #[.int .i64 a1_0, .int .i64 a1_1] 27 (0, 0)) (by (with_reducible repeat (first | refine blk_drewN ?_ _ | refine blk_drew ?_ | refine blk_alloc ?_ _)); exact BK161.out)) : gb161 ≠ gb182)); have n13_ := Aside0.mk ((by rw [hg]; exact Nat.ne_of_gt (blk_lt (g := gb161) (o := .cells #[.int .i64 a1_0, .int .i64 a1_1] 27 (0, 0)) (by (with_reducible repeat (first | refine blk_drewN ?_ _ | refine blk_drew ?_ | refine blk_alloc ?_ _)); exact BK161.out)) : gb182 ≠ gb161)); have n14_ := Aside0.mk ((by rw [hg]; exact Nat.ne_of_lt (blk_lt (g := gb165) (o := .cells #[.int .i64 t162, .int .i64 t163] 34 (0, 0)) (by (with_reducible repeat (first | refine blk_drewN ?_ _ | refine blk_drew ?_ | refine blk_alloc ?_ _)); exact BK165.out)) : gb165 ≠ gb182)); have n15_ := Aside0.mk ((by rw [hg]; exact Nat.ne_of_gt (blk_lt (g := gb165) (o := .cells #[.int .i64 t162, .int .i64 t163] 34 (0, 0)) (by (with_reducible repeat (first | refine blk_drewN ?_ _ | refine blk_drew ?_ | refine blk_alloc ?_ _)); exact BK165.out)) : gb182 ≠ gb165)); clear HO_11; clear HO_12; clear HO_13; clear BK160; clear BK161; clear BK165; clear HB; have HO_11 := n0_; have HO_12 := n1_; have HO_13 := n2_; have BK160 := n3_; have BK161 := n4_; have BK165 := n5_; have HB := n6_; have BK182 := n7_; have GW182 := n8_; have GE182 := n9_; have NB160_182 := n10_; have NB182_160 := n11_; have NB161_182 := n12_; have NB182_161 := n13_; have NB165_182 := n14_; have NB182_165 := n15_; clear n0_ n1_ n2_ n3_ n4_ n5_ n6_ n7_ n8_ n9_ n10_ n11_ n12_ n13_ n14_ n15_; clear hb hbox hg; have hnb63 := NB182_160.out; have hnc63 := NB160_182.out; have hnb64 := NB182_161.out; have hnc64 := NB161_182.out; have hnb65 := NB182_165.out; have hnc65 := NB165_182.out; have hcz66_0 : w62.cell? ⟨gb182, 0, none⟩ = some (.int .i64 0) := (blk_cell BK182.out 0).trans rfl; have hcz66_1 : w62.cell? ⟨gb182, 1, none⟩ = some (.int .i64 0) := (blk_cell BK182.out 1).trans rfl; have hfz66_0 := blk_frozen BK182.out 0; have hfz66_1 := blk_frozen BK182.out 1))
             go_loopg [16] kj49 (fun kq v16 w' => ∃ (x16_4 : Int) (x183000_4 : Int) (x183001_4 : Int), v16 = .int .i64 x16_4 ∧ Aside0 (verditertop_topWash.l0 kq t168 t173 t171 t172 t178 t179 x16_4 l0_0 l0_1 l0_2 x183000_4 x183001_4 = some r) ∧ Aside0 (kq ≤ kj49) ∧ Aside0 (Kd.R k34 34 w' w.heap.size (fun k_ => some k_ ≠ (v176 : Value).ownBlock ∧ some k_ ≠ (v180 : Value).ownBlock ∧ k_ ≠ gb165 ∧ k_ ≠ gb182) v174 t171) ∧ Aside0 (Kd.R k34 34 w' w.heap.size (fun k_ => some k_ ≠ (v174 : Value).ownBlock ∧ some k_ ≠ (v180 : Value).ownBlock ∧ k_ ≠ gb165 ∧ k_ ≠ gb182) v176 t172) ∧ Aside0 (Kd.R k34 34 w' w.heap.size (fun k_ => some k_ ≠ (v174 : Value).ownBlock ∧ some k_ ≠ (v176 : Value).ownBlock ∧ k_ ≠ gb165 ∧ k_ ≠ gb182) v180 t178) ∧ Aside0 (w'.heap[gb160]? = some (.cells #[(.slice A0_0 l0_0.length c0_0), (.slice A0_1 l0_1.length c0_1), (.slice A0_2 l0_2.length c0_2)] 25 (0, 0))) ∧ Aside0 (w'.heap[gb161]? = some (.cells #[.int .i64 a1_0, .int .i64 a1_1] 27 (0, 0))) ∧ Aside0 (w'.heap[gb165]? = some (.cells #[.int .i64 t162, .int .i64 t163] 34 (0, 0))) ∧ Aside0 (w'.heap[gb182]? = some (.cells #[.int .i64 x183000_4, .int .i64 x183001_4] 34 (0, 0))) ∧ Aside0 (Below w.heap.size w w'))
             case atStart => exact ⟨(0), (0), (1), (by first | rfl | (simp; done) | (simp [*]; done)), H', ⟨Nat.le_refl _⟩, ⟨by (with_reducible repeat (first | apply Kd.R_alloc | apply Kd.R_drewN | apply Kd.R_drew)); exact Kd.R_mono (Kd.R_far (p := ⟨gb182, 1, none⟩) (Kd.R_far (p := ⟨gb182, 0, none⟩) (Kd.R_mono HO_11.out (fun k_ hk => (⟨hk, hk.2⟩ : _ ∧ k_ ≠ gb182))) (fun _ hk => hk.2) (.int .i64 0)) (fun _ hk => hk.2) (.int .i64 1)) (fun _ hk => ⟨hk.1.1.1, ⟨hk.1.1.2.1, ⟨hk.1.1.2.2, hk.1.2⟩⟩⟩)⟩, ⟨by (with_reducible repeat (first | apply Kd.R_alloc | apply Kd.R_drewN | apply Kd.R_drew)); exact Kd.R_mono (Kd.R_far (p := ⟨gb182, 1, none⟩) (Kd.R_far (p := ⟨gb182, 0, none⟩) (Kd.R_mono HO_12.out (fun k_ hk => (⟨hk, hk.2⟩ : _ ∧ k_ ≠ gb182))) (fun _ hk => hk.2) (.int .i64 0)) (fun _ hk => hk.2) (.int .i64 1)) (fun _ hk => ⟨hk.1.1.1, ⟨hk.1.1.2.1, ⟨hk.1.1.2.2, hk.1.2⟩⟩⟩)⟩, ⟨by (with_reducible repeat (first | apply Kd.R_alloc | apply Kd.R_drewN | apply Kd.R_drew)); exact Kd.R_mono (Kd.R_far (p := ⟨gb182, 1, none⟩) (Kd.R_far (p := ⟨gb182, 0, none⟩) (Kd.R_mono HO_13.out (fun k_ hk => (⟨hk, hk.2⟩ : _ ∧ k_ ≠ gb182))) (fun _ hk => hk.2) (.int .i64 0)) (fun _ hk => hk.2) (.int .i64 1)) (fun _ hk => ⟨hk.1.1.1, ⟨hk.1.1.2.1, ⟨hk.1.1.2.2, hk.1.2⟩⟩⟩)⟩, ⟨by (with_reducible repeat (first | refine blk_drewN ?_ _ | refine blk_drew ?_ | refine blk_alloc ?_ _)); refine blk_far ?_ NB160_182.out _; (with_reducible repeat (first | refine blk_drewN ?_ _ | refine blk_drew ?_ | refine blk_alloc ?_ _)); refine blk_far ?_ NB160_182.out _; (with_reducible repeat (first | refine blk_drewN ?_ _ | refine blk_drew ?_ | refine blk_alloc ?_ _)); exact BK160.out⟩, ⟨by (with_reducible repeat (first | refine blk_drewN ?_ _ | refine blk_drew ?_ | refine blk_alloc ?_ _)); refine blk_far ?_ NB161_182.out _; (with_reducible repeat (first | refine blk_drewN ?_ _ | refine blk_drew ?_ | refine blk_alloc ?_ _)); refine blk_far ?_ NB161_182.out _; (with_reducible repeat (first | refine blk_drewN ?_ _ | refine blk_drew ?_ | refine blk_alloc ?_ _)); exact BK161.out⟩, ⟨by (with_reducible repeat (first | refine blk_drewN ?_ _ | refine blk_drew ?_ | refine blk_alloc ?_ _)); refine blk_far ?_ NB165_182.out _; (with_reducible repeat (first | refine blk_drewN ?_ _ | refine blk_drew ?_ | refine blk_alloc ?_ _)); refine blk_far ?_ NB165_182.out _; (with_reducible repeat (first | refine blk_drewN ?_ _ | refine blk_drew ?_ | refine blk_alloc ?_ _)); exact BK165.out⟩, ⟨by (with_reducible repeat (first | refine blk_drewN ?_ _ | refine blk_drew ?_ | refine blk_alloc ?_ _)); refine blk_put (cs := #[.int .i64 0, .int .i64 0]) ?_ 1 _ rfl; (with_reducible repeat (first | refine blk_drewN ?_ _ | refine blk_drew ?_ | refine blk_alloc ?_ _)); refine blk_put (cs := #[.int .i64 0, .int .i64 0]) ?_ 0 _ rfl; (with_reducible repeat (first | refine blk_drewN ?_ _ | refine blk_drew ?_ | refine blk_alloc ?_ _)); exact BK182.out⟩, ⟨by repeat (first | (with_reducible first | exact HB.out | apply below_alloc | apply pw_below_drewN | apply below_drew1 | refine below_set ?_ GE160.out | refine below_set ?_ GE161.out | refine below_set ?_ GE165.out | refine below_set ?_ GE182.out) | exact HB.out)⟩⟩
             case round =>
              as_aux_lemma =>
              clear H' hcz66_0 hcz66_1 hfz66_0 hfz66_1
              obtain ⟨x16_4, x183000_4, x183001_4, rfl, HA, HK4, HO_11, HO_12, HO_13, BK160, BK161, BK165, BK182, HB⟩ := hrel
              cases gk with
              | zero => exact absurd HA.out (by simp [verditertop_topWash.l0])
              | succ k4 =>
               have H := HA.out
               clear HA
               simp only [verditertop_topWash.l0] at H
               by_cases c67 : x16_4 < (l0_0.length : Int)
               ·rw [if_pos c67] at H
                have c67b0 : decide (x16_4 < (l0_0.length : Int)) = true := decide_eq_true c67
                clear c67
                have HC68 := Aside0.mk H
                clear H
                have hnb69 := NB160_161.out
                have hnc69 := NB161_160.out
                have hnb70 := NB160_165.out
                have hnc70 := NB165_160.out
                have hnb71 := NB160_182.out
                have hnc71 := NB182_160.out
                have hcz72_0 : wr.cell? ⟨gb160, 0, none⟩ = some (.slice A0_0 l0_0.length c0_0) := (blk_cell BK160.out 0).trans rfl
                have hcz72_1 : wr.cell? ⟨gb160, 1, none⟩ = some (.slice A0_1 l0_1.length c0_1) := (blk_cell BK160.out 1).trans rfl
                have hcz72_2 : wr.cell? ⟨gb160, 2, none⟩ = some (.slice A0_2 l0_2.length c0_2) := (blk_cell BK160.out 2).trans rfl
                have hfz72_0 := blk_frozen BK160.out 0
                have hfz72_1 := blk_frozen BK160.out 1
                have hfz72_2 := blk_frozen BK160.out 2
                go_upto_region 18 with (fail)
                go_cut [154] (fun v154 wc => ∃ (kq : Nat) (x154_67 : Bool), v154 = .bool x154_67 ∧ Aside0 (verditertop_topWash.j4 kq t168 t173 t171 t172 t178 t179 x16_4 x154_67 l0_0 l0_1 l0_2 x183000_4 x183001_4 = some r) ∧ Aside0 (kq ≤ k4) ∧ Aside0 (Kd.R k34 34 wc w.heap.size (fun k_ => some k_ ≠ (v176 : Value).ownBlock ∧ some k_ ≠ (v180 : Value).ownBlock ∧ k_ ≠ gb165 ∧ k_ ≠ gb182) v174 t171) ∧ Aside0 (Kd.R k34 34 wc w.heap.size (fun k_ => some k_ ≠ (v174 : Value).ownBlock ∧ some k_ ≠ (v180 : Value).ownBlock ∧ k_ ≠ gb165 ∧ k_ ≠ gb182) v176 t172) ∧ Aside0 (Kd.R k34 34 wc w.heap.size (fun k_ => some k_ ≠ (v174 : Value).ownBlock ∧ some k_ ≠ (v176 : Value).ownBlock ∧ k_ ≠ gb165 ∧ k_ ≠ gb182) v180 t178) ∧ Aside0 (wc.heap[gb160]? = some (.cells #[(.slice A0_0 l0_0.length c0_0), (.slice A0_1 l0_1.length c0_1), (.slice A0_2 l0_2.length c0_2)] 25 (0, 0))) ∧ Aside0 (wc.heap[gb161]? = some (.cells #[.int .i64 a1_0, .int .i64 a1_1] 27 (0, 0))) ∧ Aside0 (wc.heap[gb165]? = some (.cells #[.int .i64 t162, .int .i64 t163] 34 (0, 0))) ∧ Aside0 (wc.heap[gb182]? = some (.cells #[.int .i64 x183000_4, .int .i64 x183001_4] 34 (0, 0))) ∧ Aside0 (Below w.heap.size w wc))
                case first =>
                 as_aux_lemma =>
                 have H := HC68.out
                 clear HC68
                 by_cases c73 : 0 ≤ x16_4
                 ·rw [if_pos c73] at H
                  have c73b0 : decide (0 ≤ x16_4) = true := decide_eq_true c73
                  clear c73
                  (first | rw [c73b0] | (simp only [i64_w, i32_w]; rw [c73b0]) | skip)
                  by_cases c74 : x16_4 < (t171.length : Int)
                  ·rw [if_pos c74] at H
                   have c74b0 : decide (x16_4 < (t171.length : Int)) = true := decide_eq_true c74
                   clear c74
                   by_cases c75 : ((rd_T34 t171 x16_4).f1) < 1
                   ·rw [if_pos c75] at H
                    have c75b0 : decide (((rd_T34 t171 x16_4).f1) < 1) = true := decide_eq_true c75
                    clear c75
                    exact absurd (show r = false by first | exact no_j0 H | exact no_j9 H | exact no_j6 H | exact no_j2 H | exact no_j4 H) (by rw [HRT.out]; decide)
                   ·rw [if_neg c75] at H
                    have c75b0 : decide (((rd_T34 t171 x16_4).f1) < 1) = false := decide_eq_false c75
                    clear c75
                    by_cases c77 : x16_4 < (t172.length : Int)
                    ·rw [if_pos c77] at H
                     have c77b0 : decide (x16_4 < (t172.length : Int)) = true := decide_eq_true c77
                     clear c77
                     by_cases c78 : ((rd_T34 t172 x16_4).f1) < 1
                     ·rw [if_pos c78] at H
                      have c78b0 : decide (((rd_T34 t172 x16_4).f1) < 1) = true := decide_eq_true c78
                      clear c78
                      exact absurd (show r = false by first | exact no_j0 H | exact no_j9 H | exact no_j6 H | exact no_j2 H | exact no_j4 H) (by rw [HRT.out]; decide)
                     ·rw [if_neg c78] at H
                      have c78b0 : decide (((rd_T34 t172 x16_4).f1) < 1) = false := decide_eq_false c78
                      clear c78
                      by_cases c81 : x183001_4 < 1
                      ·rw [if_pos c81] at H
                       have c81b0 : decide (x183001_4 < 1) = true := decide_eq_true c81
                       clear c81
                       exact absurd (show r = false by first | exact no_j0 H | exact no_j9 H | exact no_j6 H | exact no_j2 H | exact no_j4 H) (by rw [HRT.out]; decide)
                      ·rw [if_neg c81] at H
                       have c81b0 : decide (x183001_4 < 1) = false := decide_eq_false c81
                       clear c81
                       by_cases c88 : x183001_4 > 100000
                       ·rw [if_pos c88] at H
                        have c88b0 : decide (100000 < x183001_4) = true := decide_eq_true c88
                        clear c88
                        exact absurd (show r = false by first | exact no_j0 H | exact no_j9 H | exact no_j6 H | exact no_j2 H | exact no_j4 H) (by rw [HRT.out]; decide)
                       ·rw [if_neg c88] at H
                        have c88b0 : decide (100000 < x183001_4) = false := decide_eq_false c88
                        clear c88
                        by_cases c95 : ((rd_T34 t171 x16_4).f1) > 100
                        ·rw [if_pos c95] at H
                         have c95b0 : decide (100 < ((rd_T34 t171 x16_4).f1)) = true := decide_eq_true c95
                         clear c95
                         exact absurd (show r = false by first | exact no_j0 H | exact no_j9 H | exact no_j6 H | exact no_j2 H | exact no_j4 H) (by rw [HRT.out]; decide)
                        ·rw [if_neg c95] at H
                         have c95b0 : decide (100 < ((rd_T34 t171 x16_4).f1)) = false := decide_eq_false c95
                         clear c95
                         have H' := Aside0.mk H
                         clear H
                         obtain ⟨Ao102, co102, eo102⟩ := Kd.R_slice HO_11.out
                         subst eo102
                         have p185 : 0 ≤ (x16_4 : Int) := of_decide_eq_true (by first | (with_reducible assumption) | assumption)
                         have q185 : x16_4 < (t171.length : Int) := of_decide_eq_true (by first | (with_reducible assumption) | assumption)
                         obtain ⟨ad185, e185, hx185_0, hx185_1⟩ := at_T34 (Kd.R_reads' HO_11.out).2.2 x16_4 p185 q185
                         cases e185
                         replace p185 := eq_true p185
                         replace q185 := eq_true q185
                         obtain ⟨Ao103, co103, eo103⟩ := Kd.R_slice HO_12.out
                         subst eo103
                         have p186 : 0 ≤ (x16_4 : Int) := of_decide_eq_true (by first | (with_reducible assumption) | assumption)
                         have q186 : x16_4 < (t172.length : Int) := of_decide_eq_true (by first | (with_reducible assumption) | assumption)
                         obtain ⟨ad186, e186, hx186_0, hx186_1⟩ := at_T34 (Kd.R_reads' HO_12.out).2.2 x16_4 p186 q186
                         cases e186
                         replace p186 := eq_true p186
                         replace q186 := eq_true q186
                         have hnb104 := NB182_160.out
                         have hnc104 := NB160_182.out
                         have hnb105 := NB182_161.out
                         have hnc105 := NB161_182.out
                         have hnb106 := NB182_165.out
                         have hnc106 := NB165_182.out
                         have hcz107_0 : wr.cell? ⟨gb182, 0, none⟩ = some (.int .i64 x183000_4) := (blk_cell BK182.out 0).trans rfl
                         have hcz107_1 : wr.cell? ⟨gb182, 1, none⟩ = some (.int .i64 x183001_4) := (blk_cell BK182.out 1).trans rfl
                         have hfz107_0 := blk_frozen BK182.out 0
                         have hfz107_1 := blk_frozen BK182.out 1
                         have p187 : 0 ≤ (x16_4 : Int) := of_decide_eq_true (by first | (with_reducible assumption) | assumption)
                         have q187 : x16_4 < (t171.length : Int) := of_decide_eq_true (by first | (with_reducible assumption) | assumption)
                         obtain ⟨ad187, e187, hx187_0, hx187_1⟩ := at_T34 (Kd.R_reads' HO_11.out).2.2 x16_4 p187 q187
                         obtain rfl : ad185 = ad187 := (by injection e187)
                         replace p187 := eq_true p187
                         replace q187 := eq_true q187
                         have p188 : 0 ≤ (x16_4 : Int) := of_decide_eq_true (by first | (with_reducible assumption) | assumption)
                         have q188 : x16_4 < (t172.length : Int) := of_decide_eq_true (by first | (with_reducible assumption) | assumption)
                         obtain ⟨ad188, e188, hx188_0, hx188_1⟩ := at_T34 (Kd.R_reads' HO_12.out).2.2 x16_4 p188 q188
                         obtain rfl : ad186 = ad188 := (by injection e188)
                         replace p188 := eq_true p188
                         replace q188 := eq_true q188
                         go_wp2
                         go_meet
                         case rel => exact ⟨_, (decide (((rd_T34 t172 x16_4).f1) > 100)), (by first | rfl | (simp; done) | (simp [*]; done)), H', ⟨by have := HJ4.out; have := HJ17.out; have := HJ49.out; have := HK4.out; first | omega | exact Nat.le_refl _⟩, ⟨by (with_reducible repeat (first | apply Kd.R_alloc | apply Kd.R_drewN | apply Kd.R_drew)); exact HO_11.out⟩, ⟨by (with_reducible repeat (first | apply Kd.R_alloc | apply Kd.R_drewN | apply Kd.R_drew)); exact HO_12.out⟩, ⟨by (with_reducible repeat (first | apply Kd.R_alloc | apply Kd.R_drewN | apply Kd.R_drew)); exact HO_13.out⟩, ⟨by (with_reducible repeat (first | refine blk_drewN ?_ _ | refine blk_drew ?_ | refine blk_alloc ?_ _)); exact BK160.out⟩, ⟨by (with_reducible repeat (first | refine blk_drewN ?_ _ | refine blk_drew ?_ | refine blk_alloc ?_ _)); exact BK161.out⟩, ⟨by (with_reducible repeat (first | refine blk_drewN ?_ _ | refine blk_drew ?_ | refine blk_alloc ?_ _)); exact BK165.out⟩, ⟨by (with_reducible repeat (first | refine blk_drewN ?_ _ | refine blk_drew ?_ | refine blk_alloc ?_ _)); exact BK182.out⟩, ⟨by repeat (first | (with_reducible first | exact HB.out | apply below_alloc | apply pw_below_drewN | apply below_drew1 | refine below_set ?_ GE160.out | refine below_set ?_ GE161.out | refine below_set ?_ GE165.out | refine below_set ?_ GE182.out) | exact HB.out)⟩⟩
                    ·rw [if_neg c77] at H
                     exact absurd H (by simp)
                  ·rw [if_neg c74] at H
                   exact absurd H (by simp)
                 ·rw [if_neg c73] at H
                  exact absurd H (by simp)
                case rest =>
                 as_aux_lemma =>
                 clear HC68 c67b0 hcz72_0 hcz72_1 hcz72_2 hfz72_0 hfz72_1 hfz72_2
                 obtain ⟨kq, x154_67, rfl, HA, HJ67, HO_11, HO_12, HO_13, BK160, BK161, BK165, BK182, HB⟩ := hcut
                 cases kq with
                 | zero => exact absurd HA.out (by simp [verditertop_topWash.j4])
                 | succ kj67 =>
                  have H := HA.out
                  clear HA
                  simp only [verditertop_topWash.j4] at H
                  by_cases c108 : x154_67 = true
                  ·subst c108
                   have H1 : (some false) = some r := by rw [if_pos rfl] at H; exact H
                   clear H
                   have H := H1
                   clear H1
                   exact absurd (Option.some.inj H) (by rw [HRT.out]; decide)
                  ·replace c108 := Bool.eq_false_iff.mpr c108
                   subst c108
                   have H1 : (if 0 ≤ x16_4 then (if x16_4 < (t171.length : Int) then (if x16_4 < (t172.length : Int) then ((verditerref01_Add.f kj67 ((rd_T34 t171 x16_4).f0) ((rd_T34 t171 x16_4).f1) ((rd_T34 t172 x16_4).f0) ((rd_T34 t172 x16_4).f1)).bind fun bt191 => ((verditerref01_Add.f kj67 x183000_4 x183001_4 bt191.1 bt191.2).bind fun bt193 => (verditertop_topWash.l0 kj67 t168 t173 t171 t172 t178 t179 (wrap64 (x16_4 + 1)) l0_0 l0_1 l0_2 bt193.1 bt193.2))) else (none)) else (none)) else (none)) = some r := by rw [if_neg (show ¬ (false = true) by decide)] at H; exact H
                   clear H
                   have H := H1
                   clear H1
                   by_cases c109 : 0 ≤ x16_4
                   ·rw [if_pos c109] at H
                    have c109b0 : decide (0 ≤ x16_4) = true := decide_eq_true c109
                    clear c109
                    by_cases c110 : x16_4 < (t171.length : Int)
                    ·rw [if_pos c110] at H
                     have c110b0 : decide (x16_4 < (t171.length : Int)) = true := decide_eq_true c110
                     clear c110
                     by_cases c111 : x16_4 < (t172.length : Int)
                     ·rw [if_pos c111] at H
                      have c111b0 : decide (x16_4 < (t172.length : Int)) = true := decide_eq_true c111
                      clear c111
                      replace H := Option.bind_eq_some_iff.mp H
                      obtain ⟨⟨t191, t192⟩, A1120, H⟩ := H
                      replace H : ((verditerref01_Add.f kj67 x183000_4 x183001_4 t191 t192).bind fun bt193 => (verditertop_topWash.l0 kj67 t168 t173 t171 t172 t178 t179 (wrap64 (x16_4 + 1)) l0_0 l0_1 l0_2 bt193.1 bt193.2)) = some r := H
                      have A112 := Aside0.mk A1120
                      clear A1120
                      replace H := Option.bind_eq_some_iff.mp H
                      obtain ⟨⟨t193, t194⟩, A1130, H⟩ := H
                      replace H : (verditertop_topWash.l0 kj67 t168 t173 t171 t172 t178 t179 (wrap64 (x16_4 + 1)) l0_0 l0_1 l0_2 t193 t194) = some r := H
                      have A113 := Aside0.mk A1130
                      clear A1130
                      have H' := Aside0.mk H
                      clear H
                      try go_wp2
                      have n0_ := Aside0.mk (Kd.R_drew HO_11.out)
                      have n1_ := Aside0.mk (Kd.R_drew HO_12.out)
                      have n2_ := Aside0.mk (Kd.R_drew HO_13.out)
                      have n3_ := Aside0.mk (blk_drew BK160.out)
                      have n4_ := Aside0.mk (blk_drew BK161.out)
                      have n5_ := Aside0.mk (blk_drew BK165.out)
                      have n6_ := Aside0.mk (blk_drew BK182.out)
                      have n7_ := Aside0.mk (below_drew1 HB.out)
                      clear HO_11
                      clear HO_12
                      clear HO_13
                      clear BK160
                      clear BK161
                      clear BK165
                      clear BK182
                      clear HB
                      have HO_11 := n0_
                      have HO_12 := n1_
                      have HO_13 := n2_
                      have BK160 := n3_
                      have BK161 := n4_
                      have BK165 := n5_
                      have BK182 := n6_
                      have HB := n7_
                      clear n0_ n1_ n2_ n3_ n4_ n5_ n6_ n7_
                      obtain ⟨Ao115, co115, eo115⟩ := Kd.R_slice HO_11.out
                      (first | subst eo115 | (injection eo115 with f1_ f2_ f3_; have f4_ := f1_.symm; have f5_ := f3_.symm; clear f1_ f2_ f3_; subst f4_; subst f5_))
                      have p189 : 0 ≤ (x16_4 : Int) := of_decide_eq_true (by first | (with_reducible assumption) | assumption)
                      have q189 : x16_4 < (t171.length : Int) := of_decide_eq_true (by first | (with_reducible assumption) | assumption)
                      obtain ⟨ad189, e189, hx189_0, hx189_1⟩ := at_T34 (Kd.R_reads' HO_11.out).2.2 x16_4 p189 q189
                      cases e189
                      replace p189 := eq_true p189
                      replace q189 := eq_true q189
                      obtain ⟨Ao116, co116, eo116⟩ := Kd.R_slice HO_12.out
                      (first | subst eo116 | (injection eo116 with f1_ f2_ f3_; have f4_ := f1_.symm; have f5_ := f3_.symm; clear f1_ f2_ f3_; subst f4_; subst f5_))
                      have p190 : 0 ≤ (x16_4 : Int) := of_decide_eq_true (by first | (with_reducible assumption) | assumption)
                      have q190 : x16_4 < (t172.length : Int) := of_decide_eq_true (by first | (with_reducible assumption) | assumption)
                      obtain ⟨ad190, e190, hx190_0, hx190_1⟩ := at_T34 (Kd.R_reads' HO_12.out).2.2 x16_4 p190 q190
                      cases e190
                      replace p190 := eq_true p190
                      replace q190 := eq_true q190
                      refine start_ (n := 12) (S := fun w' => w'.cell? ⟨gb182, 0, none⟩ = some (.int .i64 x183000_4) ∧ w'.cell? ⟨gb182, 1, none⟩ = some (.int .i64 x183001_4) ∧ w'.cell? (ad189.add ((x16_4).toNat * 2)) = some (.int .i64 ((rd_T34 t171 x16_4).f0)) ∧ w'.cell? ⟨(ad189.add ((x16_4).toNat * 2)).block, (ad189.add ((x16_4).toNat * 2)).off + 1, none⟩ = some (.int .i64 ((rd_T34 t171 x16_4).f1)) ∧ w'.cell? (ad190.add ((x16_4).toNat * 2)) = some (.int .i64 ((rd_T34 t172 x16_4).f0)) ∧ w'.cell? ⟨(ad190.add ((x16_4).toNat * 2)).block, (ad190.add ((x16_4).toNat * 2)).off + 1, none⟩ = some (.int .i64 ((rd_T34 t172 x16_4).f1))) (ds := [11]) #[false, false, false, false, false, false, false, false, false, false, false, false] (by kernel_rfl) rfl rfl ⟨(blk_cell BK182.out 0).trans rfl, (blk_cell BK182.out 1).trans rfl, hx189_0, hx189_1, hx190_0, hx190_1⟩ (fun hHeld => ?_); refine with_tabW verditertop_topWash.tab20 verditertop_topWash.bits20 (fun HT_ HW_ => ?_)
                      generalize wc.drew = w114 at HO_11 HO_12 HO_13 BK160 BK161 BK165 BK182 HB hx189_0 hx189_1 hx190_0 hx190_1 hHeld ⊢
                      refine pure_ (i := 1) (N := some 156) (v := ?_) (a' := ?_) #[false, true, false, false, false, false, false, false, false, false, false, false] rfl rfl (any_of HT_.out (by kernel_rfl)) (fun _ _ _ h => h) (Or.inl ⟨by rfl, ?_⟩) ?_ ?_
                      rotate_left
                      ·intro w'
                       go_simp
                       with_reducible rfl
                      rotate_left
                      ·simp only [Act.put, List.setIfInBounds_toArray, List.set_cons_zero, List.set_cons_succ, i64_w, i32_w]
                       rfl
                      refine pure_ (i := 2) (N := some 157) (v := ?_) (a' := ?_) #[false, true, true, false, false, false, false, false, false, false, false, false] rfl rfl (any_of HT_.out (by kernel_rfl)) (fun _ _ _ h => h) (Or.inl ⟨by rfl, ?_⟩) ?_ ?_
                      rotate_left
                      ·intro w'
                       go_simp
                       with_reducible rfl
                      rotate_left
                      ·simp only [Act.put, List.setIfInBounds_toArray, List.set_cons_zero, List.set_cons_succ, i64_w, i32_w]
                       rfl
                      refine pure_ (i := 3) (N := some 158) (v := ?_) (a' := ?_) #[false, true, true, true, false, false, false, false, false, false, false, false] rfl rfl (any_of HT_.out (by kernel_rfl)) (fun _ _ _ h => h) (Or.inl ⟨by rfl, ?_⟩) ?_ ?_
                      rotate_left
                      ·intro w'
                       go_simp
                       with_reducible rfl
                      rotate_left
                      ·simp only [Act.put, List.setIfInBounds_toArray, List.set_cons_zero, List.set_cons_succ, i64_w, i32_w]
                       rfl
                      refine pure_ (i := 5) (N := some 160) (v := ?_) (a' := ?_) #[false, true, true, true, false, true, false, false, false, false, false, false] rfl rfl (any_of HT_.out (by kernel_rfl)) (fun _ _ _ h => h) (Or.inl ⟨by rfl, ?_⟩) ?_ ?_
                      rotate_left
                      ·intro w'
                       go_simp
                       with_reducible rfl
                      rotate_left
                      ·simp only [Act.put, List.setIfInBounds_toArray, List.set_cons_zero, List.set_cons_succ, i64_w, i32_w]
                       rfl
                      refine pure_ (i := 6) (N := some 161) (v := ?_) (a' := ?_) #[false, true, true, true, false, true, true, false, false, false, false, false] rfl rfl (any_of HT_.out (by kernel_rfl)) (fun _ _ _ h => h) (Or.inl ⟨by rfl, ?_⟩) ?_ ?_
                      rotate_left
                      ·intro w'
                       go_simp
                       with_reducible rfl
                      rotate_left
                      ·simp only [Act.put, List.setIfInBounds_toArray, List.set_cons_zero, List.set_cons_succ, i64_w, i32_w]
                       rfl
                      refine pure_ (i := 7) (N := some 162) (v := ?_) (a' := ?_) #[false, true, true, true, false, true, true, true, false, false, false, false] rfl rfl (any_of HT_.out (by kernel_rfl)) (fun _ _ _ h => h) (Or.inl ⟨by rfl, ?_⟩) ?_ ?_
                      rotate_left
                      ·intro w'
                       go_simp
                       with_reducible rfl
                      rotate_left
                      ·simp only [Act.put, List.setIfInBounds_toArray, List.set_cons_zero, List.set_cons_succ, i64_w, i32_w]
                       rfl
                      refine take_ (i := 0) (N := some 155) (v := ?_) (a' := ?_) #[true, true, true, true, false, true, true, true, false, false, false, false] rfl rfl (take_ofW HT_.out HW_.out (by kernel_rfl)) (fun _ _ _ h => h) (Or.inl ⟨by rfl, ?_⟩) hHeld ?_ ?_
                      rotate_left
                      ·rintro w' ⟨s0, s1, s2, s3, s4, s5⟩
                       go_simp
                       with_reducible rfl
                      rotate_left
                      ·simp only [Act.put, List.setIfInBounds_toArray, List.set_cons_zero, List.set_cons_succ, i64_w, i32_w]
                       rfl
                      refine take_ (i := 4) (N := some 159) (v := ?_) (a' := ?_) #[true, true, true, true, true, true, true, true, false, false, false, false] rfl rfl (take_ofW HT_.out HW_.out (by kernel_rfl)) (fun _ _ _ h => h) (Or.inl ⟨by rfl, ?_⟩) hHeld ?_ ?_
                      rotate_left
                      ·rintro w' ⟨s0, s1, s2, s3, s4, s5⟩
                       go_simp
                       with_reducible rfl
                      rotate_left
                      ·simp only [Act.put, List.setIfInBounds_toArray, List.set_cons_zero, List.set_cons_succ, i64_w, i32_w]
                       rfl
                      refine take_ (i := 8) (N := some 163) (v := ?_) (a' := ?_) #[true, true, true, true, true, true, true, true, true, false, false, false] rfl rfl (take_ofW HT_.out HW_.out (by kernel_rfl)) (fun _ _ _ h => h) (Or.inl ⟨by rfl, ?_⟩) hHeld ?_ ?_
                      rotate_left
                      ·rintro w' ⟨s0, s1, s2, s3, s4, s5⟩
                       go_simp
                       with_reducible rfl
                      rotate_left
                      ·simp only [Act.put, List.setIfInBounds_toArray, List.set_cons_zero, List.set_cons_succ, i64_w, i32_w]
                       rfl
                      refine one_ (i := 9) (N := some 164) #[true, true, true, true, true, true, true, true, true, true, false, false] rfl rfl (one_of HT_.out (by kernel_rfl)) (by decide) (fun K hK => ?_)
                      refine goes_ Try.func15 (by kernel_rfl) rfl #[.agg #[.int .i64 ((rd_T34 t171 x16_4).f0), .int .i64 ((rd_T34 t171 x16_4).f1)], .agg #[.int .i64 ((rd_T34 t172 x16_4).f0), .int .i64 ((rd_T34 t172 x16_4).f1)]] (by rfl) rfl rfl (by (try simp only [List.map_toArray, List.map_cons, List.map_nil]); first | done | rfl | (simp only [List.length_drop, List.length_take]; rfl)) ?_
                      with_reducible refine (verditerref01_Add.calls kj67 ((rd_T34 t171 x16_4).f0) ((rd_T34 t171 x16_4).f1) ((rd_T34 t172 x16_4).f0) ((rd_T34 t172 x16_4).f1) t191 t192 _ A112.out).mono ?_
                      rintro e w117 ⟨rfl, hb⟩
                      have HS2_ := (hb.cell (World.block_lt_of_cell? _ _ (hHeld.2.2.1))).trans (hHeld.2.2.1)
                      have HS3_ := (hb.cell (World.block_lt_of_cell? _ _ (hHeld.2.2.2.1))).trans (hHeld.2.2.2.1)
                      have HS4_ := (hb.cell (World.block_lt_of_cell? _ _ (hHeld.2.2.2.2.1))).trans (hHeld.2.2.2.2.1)
                      have HS5_ := (hb.cell (World.block_lt_of_cell? _ _ (hHeld.2.2.2.2.2))).trans (hHeld.2.2.2.2.2)
                      refine ⟨_, rfl, ?_⟩
                      have n0_ := Aside0.mk (Kd.R_below (by (with_reducible repeat (first | apply Kd.R_alloc | apply Kd.R_drewN | apply Kd.R_drew)); exact HO_11.out) hb)
                      have n1_ := Aside0.mk (Kd.R_below (by (with_reducible repeat (first | apply Kd.R_alloc | apply Kd.R_drewN | apply Kd.R_drew)); exact HO_12.out) hb)
                      have n2_ := Aside0.mk (Kd.R_below (by (with_reducible repeat (first | apply Kd.R_alloc | apply Kd.R_drewN | apply Kd.R_drew)); exact HO_13.out) hb)
                      have n3_ := Aside0.mk (blk_below (g := gb160) (o := .cells #[.slice A0_0 l0_0.length c0_0, .slice A0_1 l0_1.length c0_1, .slice A0_2 l0_2.length c0_2] 25 (0, 0)) (by (with_reducible repeat (first | refine blk_drewN ?_ _ | refine blk_drew ?_ | refine blk_alloc ?_ _)); exact BK160.out) hb)
                      have n4_ := Aside0.mk (blk_below (g := gb161) (o := .cells #[.int .i64 a1_0, .int .i64 a1_1] 27 (0, 0)) (by (with_reducible repeat (first | refine blk_drewN ?_ _ | refine blk_drew ?_ | refine blk_alloc ?_ _)); exact BK161.out) hb)
                      have n5_ := Aside0.mk (blk_below (g := gb165) (o := .cells #[.int .i64 t162, .int .i64 t163] 34 (0, 0)) (by (with_reducible repeat (first | refine blk_drewN ?_ _ | refine blk_drew ?_ | refine blk_alloc ?_ _)); exact BK165.out) hb)
                      have n6_ := Aside0.mk (blk_below (g := gb182) (o := .cells #[.int .i64 x183000_4, .int .i64 x183001_4] 34 (0, 0)) (by (with_reducible repeat (first | refine blk_drewN ?_ _ | refine blk_drew ?_ | refine blk_alloc ?_ _)); exact BK182.out) hb)
                      have n7_ := Aside0.mk (below_step (by repeat (first | (with_reducible first | exact HB.out | apply below_alloc | apply pw_below_drewN | apply below_drew1 | refine below_set ?_ GE160.out | refine below_set ?_ GE161.out | refine below_set ?_ GE165.out | refine below_set ?_ GE182.out) | exact HB.out)) hb)
                      clear HO_11
                      clear HO_12
                      clear HO_13
                      clear BK160
                      clear BK161
                      clear BK165
                      clear BK182
                      clear HB
                      have HO_11 := n0_
                      have HO_12 := n1_
                      have HO_13 := n2_
                      have BK160 := n3_
                      have BK161 := n4_
                      have BK165 := n5_
                      have BK182 := n6_
                      have HB := n7_
                      clear n0_ n1_ n2_ n3_ n4_ n5_ n6_ n7_
                      (try clear hb)
                      (try clear hb2)
                      (try clear hk)
                      (try clear hi)
                      refine hK.out _ _ ⟨(blk_cell BK182.out 0).trans rfl, (blk_cell BK182.out 1).trans rfl, HS2_, HS3_, HS4_, HS5_⟩ (fun hHeld => ?_)
                      clear hK K
                      refine norm_ (a' := ?_) ?_ ?_
                      rotate_left
                      ·show Act.put _ (some 164) _ = _
                       simp only [Act.put, List.setIfInBounds_toArray, List.set_cons_zero, List.set_cons_succ, i64_w, i32_w]
                       rfl
                      refine one_ (i := 10) (N := some 165) #[true, true, true, true, true, true, true, true, true, true, true, false] rfl rfl (one_of HT_.out (by kernel_rfl)) (by decide) (fun K hK => ?_)
                      refine goes_ Try.func15 (by kernel_rfl) rfl #[.agg #[.int .i64 x183000_4, .int .i64 x183001_4], .agg #[.int .i64 t191, .int .i64 t192]] (by rfl) rfl rfl (by (try simp only [List.map_toArray, List.map_cons, List.map_nil]); first | done | rfl | (simp only [List.length_drop, List.length_take]; rfl)) ?_
                      with_reducible refine (verditerref01_Add.calls kj67 x183000_4 x183001_4 t191 t192 t193 t194 _ A113.out).mono ?_
                      rintro e w118 ⟨rfl, hb⟩
                      have HS2_ := (hb.cell (World.block_lt_of_cell? _ _ (hHeld.2.2.1))).trans (hHeld.2.2.1)
                      have HS3_ := (hb.cell (World.block_lt_of_cell? _ _ (hHeld.2.2.2.1))).trans (hHeld.2.2.2.1)
                      have HS4_ := (hb.cell (World.block_lt_of_cell? _ _ (hHeld.2.2.2.2.1))).trans (hHeld.2.2.2.2.1)
                      have HS5_ := (hb.cell (World.block_lt_of_cell? _ _ (hHeld.2.2.2.2.2))).trans (hHeld.2.2.2.2.2)
                      refine ⟨_, rfl, ?_⟩
                      have n0_ := Aside0.mk (Kd.R_below (by (with_reducible repeat (first | apply Kd.R_alloc | apply Kd.R_drewN | apply Kd.R_drew)); exact HO_11.out) hb)
                      have n1_ := Aside0.mk (Kd.R_below (by (with_reducible repeat (first | apply Kd.R_alloc | apply Kd.R_drewN | apply Kd.R_drew)); exact HO_12.out) hb)
                      have n2_ := Aside0.mk (Kd.R_below (by (with_reducible repeat (first | apply Kd.R_alloc | apply Kd.R_drewN | apply Kd.R_drew)); exact HO_13.out) hb)
                      have n3_ := Aside0.mk (blk_below (g := gb160) (o := .cells #[.slice A0_0 l0_0.length c0_0, .slice A0_1 l0_1.length c0_1, .slice A0_2 l0_2.length c0_2] 25 (0, 0)) (by (with_reducible repeat (first | refine blk_drewN ?_ _ | refine blk_drew ?_ | refine blk_alloc ?_ _)); exact BK160.out) hb)
                      have n4_ := Aside0.mk (blk_below (g := gb161) (o := .cells #[.int .i64 a1_0, .int .i64 a1_1] 27 (0, 0)) (by (with_reducible repeat (first | refine blk_drewN ?_ _ | refine blk_drew ?_ | refine blk_alloc ?_ _)); exact BK161.out) hb)
                      have n5_ := Aside0.mk (blk_below (g := gb165) (o := .cells #[.int .i64 t162, .int .i64 t163] 34 (0, 0)) (by (with_reducible repeat (first | refine blk_drewN ?_ _ | refine blk_drew ?_ | refine blk_alloc ?_ _)); exact BK165.out) hb)
                      have n6_ := Aside0.mk (blk_below (g := gb182) (o := .cells #[.int .i64 x183000_4, .int .i64 x183001_4] 34 (0, 0)) (by (with_reducible repeat (first | refine blk_drewN ?_ _ | refine blk_drew ?_ | refine blk_alloc ?_ _)); exact BK182.out) hb)
                      have n7_ := Aside0.mk (below_step (by repeat (first | (with_reducible first | exact HB.out | apply below_alloc | apply pw_below_drewN | apply below_drew1 | refine below_set ?_ GE160.out | refine below_set ?_ GE161.out | refine below_set ?_ GE165.out | refine below_set ?_ GE182.out) | exact HB.out)) hb)
                      clear HO_11
                      clear HO_12
                      clear HO_13
                      clear BK160
                      clear BK161
                      clear BK165
                      clear BK182
                      clear HB
                      have HO_11 := n0_
                      have HO_12 := n1_
                      have HO_13 := n2_
                      have BK160 := n3_
                      have BK161 := n4_
                      have BK165 := n5_
                      have BK182 := n6_
                      have HB := n7_
                      clear n0_ n1_ n2_ n3_ n4_ n5_ n6_ n7_
                      (try clear hb)
                      (try clear hb2)
                      (try clear hk)
                      (try clear hi)
                      refine hK.out _ _ ⟨(blk_cell BK182.out 0).trans rfl, (blk_cell BK182.out 1).trans rfl, HS2_, HS3_, HS4_, HS5_⟩ (fun hHeld => ?_)
                      clear hK K
                      refine norm_ (a' := ?_) ?_ ?_
                      rotate_left
                      ·show Act.put _ (some 165) _ = _
                       simp only [Act.put, List.setIfInBounds_toArray, List.set_cons_zero, List.set_cons_succ, i64_w, i32_w]
                       rfl
                      refine last_ (i := 11) (N := none) #[true, true, true, true, true, true, true, true, true, true, true, true] rfl rfl (one_of HT_.out (by kernel_rfl)) (by decide) (fun K hK => ?_)
                      have hs119 : w118.cell? ⟨gb182, 0, none⟩ = some (.int .i64 x183000_4) := (blk_cell BK182.out 0).trans rfl
                      have hfs119 := blk_frozen BK182.out 0
                      have hns119_0 := NB160_182.out
                      have hns119_1 := NB161_182.out
                      have hns119_2 := NB165_182.out
                      have hms119_0 := NB182_160.out
                      have hms119_1 := NB182_161.out
                      have hms119_2 := NB182_165.out
                      have hs120 : w118.cell? ⟨gb182, 1, none⟩ = some (.int .i64 x183001_4) := (blk_cell BK182.out 1).trans rfl
                      have hfs120 := blk_frozen BK182.out 1
                      have hns120_0 := NB160_182.out
                      have hns120_1 := NB161_182.out
                      have hns120_2 := NB165_182.out
                      have hms120_0 := NB182_160.out
                      have hms120_1 := NB182_161.out
                      have hms120_2 := NB182_165.out
                      refine skip_ (w1 := ?_) (by rfl) rfl ?_ ?_
                      rotate_left
                      ·go_simp
                       rfl
                      refine hK.out _ _ ?_
                      clear hK K
                      refine done_ (done_of HT_.out (by kernel_rfl)) ?_
                      try go_wp2
                      go_roundg kj67
                      case measure => have := HJ4.out; have := HJ17.out; have := HJ49.out; have := HK4.out; have := HJ67.out; omega
                      case rel => exact ⟨(wrap64 (x16_4 + 1)), (t193), (t194), (by first | rfl | (simp; done) | (simp [*]; done)), H', ⟨by have := HJ4.out; have := HJ17.out; have := HJ49.out; have := HK4.out; have := HJ67.out; omega⟩, ⟨by (with_reducible repeat (first | apply Kd.R_alloc | apply Kd.R_drewN | apply Kd.R_drew)); exact Kd.R_mono (Kd.R_far (p := ⟨gb182, 1, none⟩) (Kd.R_far (p := ⟨gb182, 0, none⟩) (Kd.R_mono HO_11.out (fun k_ hk => (⟨hk, hk.2.2.2⟩ : _ ∧ k_ ≠ gb182))) (fun _ hk => hk.2) (.int .i64 t193)) (fun _ hk => hk.2) (.int .i64 t194)) (fun _ hk => ⟨hk.1.1, ⟨hk.1.2.1, ⟨hk.1.2.2.1, hk.1.2.2.2⟩⟩⟩)⟩, ⟨by (with_reducible repeat (first | apply Kd.R_alloc | apply Kd.R_drewN | apply Kd.R_drew)); exact Kd.R_mono (Kd.R_far (p := ⟨gb182, 1, none⟩) (Kd.R_far (p := ⟨gb182, 0, none⟩) (Kd.R_mono HO_12.out (fun k_ hk => (⟨hk, hk.2.2.2⟩ : _ ∧ k_ ≠ gb182))) (fun _ hk => hk.2) (.int .i64 t193)) (fun _ hk => hk.2) (.int .i64 t194)) (fun _ hk => ⟨hk.1.1, ⟨hk.1.2.1, ⟨hk.1.2.2.1, hk.1.2.2.2⟩⟩⟩)⟩, ⟨by (with_reducible repeat (first | apply Kd.R_alloc | apply Kd.R_drewN | apply Kd.R_drew)); exact Kd.R_mono (Kd.R_far (p := ⟨gb182, 1, none⟩) (Kd.R_far (p := ⟨gb182, 0, none⟩) (Kd.R_mono HO_13.out (fun k_ hk => (⟨hk, hk.2.2.2⟩ : _ ∧ k_ ≠ gb182))) (fun _ hk => hk.2) (.int .i64 t193)) (fun _ hk => hk.2) (.int .i64 t194)) (fun _ hk => ⟨hk.1.1, ⟨hk.1.2.1, ⟨hk.1.2.2.1, hk.1.2.2.2⟩⟩⟩)⟩, ⟨by (with_reducible repeat (first | refine blk_drewN ?_ _ | refine blk_drew ?_ | refine blk_alloc ?_ _)); refine blk_far ?_ NB160_182.out _; (with_reducible repeat (first | refine blk_drewN ?_ _ | refine blk_drew ?_ | refine blk_alloc ?_ _)); refine blk_far ?_ NB160_182.out _; (with_reducible repeat (first | refine blk_drewN ?_ _ | refine blk_drew ?_ | refine blk_alloc ?_ _)); exact BK160.out⟩, ⟨by (with_reducible repeat (first | refine blk_drewN ?_ _ | refine blk_drew ?_ | refine blk_alloc ?_ _)); refine blk_far ?_ NB161_182.out _; (with_reducible repeat (first | refine blk_drewN ?_ _ | refine blk_drew ?_ | refine blk_alloc ?_ _)); refine blk_far ?_ NB161_182.out _; (with_reducible repeat (first | refine blk_drewN ?_ _ | refine blk_drew ?_ | refine blk_alloc ?_ _)); exact BK161.out⟩, ⟨by (with_reducible repeat (first | refine blk_drewN ?_ _ | refine blk_drew ?_ | refine blk_alloc ?_ _)); refine blk_far ?_ NB165_182.out _; (with_reducible repeat (first | refine blk_drewN ?_ _ | refine blk_drew ?_ | refine blk_alloc ?_ _)); refine blk_far ?_ NB165_182.out _; (with_reducible repeat (first | refine blk_drewN ?_ _ | refine blk_drew ?_ | refine blk_alloc ?_ _)); exact BK165.out⟩, ⟨by (with_reducible repeat (first | refine blk_drewN ?_ _ | refine blk_drew ?_ | refine blk_alloc ?_ _)); refine blk_put (cs := #[.int .i64 t193, .int .i64 x183001_4]) ?_ 1 _ rfl; (with_reducible repeat (first | refine blk_drewN ?_ _ | refine blk_drew ?_ | refine blk_alloc ?_ _)); refine blk_put (cs := #[.int .i64 x183000_4, .int .i64 x183001_4]) ?_ 0 _ rfl; (with_reducible repeat (first | refine blk_drewN ?_ _ | refine blk_drew ?_ | refine blk_alloc ?_ _)); exact BK182.out⟩, ⟨by repeat (first | (with_reducible first | exact HB.out | apply below_alloc | apply pw_below_drewN | apply below_drew1 | refine below_set ?_ GE160.out | refine below_set ?_ GE161.out | refine below_set ?_ GE165.out | refine below_set ?_ GE182.out) | exact HB.out)⟩⟩
                     ·rw [if_neg c111] at H
                      exact absurd H (by simp)
                    ·rw [if_neg c110] at H
                     exact absurd H (by simp)
                   ·rw [if_neg c109] at H
                    exact absurd H (by simp)
               ·rw [if_neg c67] at H
                have c67b0 : decide (x16_4 < (l0_0.length : Int)) = false := decide_eq_false c67
                clear c67
                replace H := Option.bind_eq_some_iff.mp H
                obtain ⟨⟨t183, t184⟩, A1210, H⟩ := H
                replace H : (if (!(x183000_4 == t183) || (!(x183001_4 == t184))) = true then (some false) else (verditertop_topWash.j5 k4 t173 t172 t178 t179 l0_0 l0_1 l0_2)) = some r := H
                have A121 := Aside0.mk A1210
                clear A1210
                by_cases c122 : (!(x183000_4 == t183) || (!(x183001_4 == t184))) = true
                ·rw [if_pos c122] at H
                 have c122b0 : (!(x183000_4 == t183) || (!(x183001_4 == t184))) = true := c122
                 clear c122
                 exact absurd (Option.some.inj H) (by rw [HRT.out]; decide)
                ·rw [if_neg c122] at H
                 have c122b0 : (!(x183000_4 == t183) || (!(x183001_4 == t184))) = false := by simpa using c122
                 clear c122
                 have H' := Aside0.mk H
                 clear H
                 have hnb129 := NB160_161.out
                 have hnc129 := NB161_160.out
                 have hnb130 := NB160_165.out
                 have hnc130 := NB165_160.out
                 have hnb131 := NB160_182.out
                 have hnc131 := NB182_160.out
                 have hcz132_0 : wr.cell? ⟨gb160, 0, none⟩ = some (.slice A0_0 l0_0.length c0_0) := (blk_cell BK160.out 0).trans rfl
                 have hcz132_1 : wr.cell? ⟨gb160, 1, none⟩ = some (.slice A0_1 l0_1.length c0_1) := (blk_cell BK160.out 1).trans rfl
                 have hcz132_2 : wr.cell? ⟨gb160, 2, none⟩ = some (.slice A0_2 l0_2.length c0_2) := (blk_cell BK160.out 2).trans rfl
                 have hfz132_0 := blk_frozen BK160.out 0
                 have hfz132_1 := blk_frozen BK160.out 1
                 have hfz132_2 := blk_frozen BK160.out 2
                 try go_wp2
                 have n0_ := Aside0.mk (Kd.R_drew HO_11.out)
                 have n1_ := Aside0.mk (Kd.R_drew HO_12.out)
                 have n2_ := Aside0.mk (Kd.R_drew HO_13.out)
                 have n3_ := Aside0.mk (blk_drew BK160.out)
                 have n4_ := Aside0.mk (blk_drew BK161.out)
                 have n5_ := Aside0.mk (blk_drew BK165.out)
                 have n6_ := Aside0.mk (blk_drew BK182.out)
                 have n7_ := Aside0.mk (below_drew1 HB.out)
                 clear HO_11
                 clear HO_12
                 clear HO_13
                 clear BK160
                 clear BK161
                 clear BK165
                 clear BK182
                 clear HB
                 have HO_11 := n0_
                 have HO_12 := n1_
                 have HO_13 := n2_
                 have BK160 := n3_
                 have BK161 := n4_
                 have BK165 := n5_
                 have BK182 := n6_
                 have HB := n7_
                 clear n0_ n1_ n2_ n3_ n4_ n5_ n6_ n7_
                 refine start_ (n := 4) (S := fun w' => w'.cell? ⟨gb182, 0, none⟩ = some (.int .i64 x183000_4) ∧ w'.cell? ⟨gb182, 1, none⟩ = some (.int .i64 x183001_4)) (ds := []) #[false, false, false, false] (by kernel_rfl) rfl rfl ⟨(blk_cell BK182.out 0).trans rfl, (blk_cell BK182.out 1).trans rfl⟩ (fun hHeld => ?_)
                 generalize wr.drew = w133 at HO_11 HO_12 HO_13 BK160 BK161 BK165 BK182 HB hHeld ⊢
                 refine pure_ (i := 1) (N := some 167) (v := ?_) (a' := ?_) #[false, true, false, false] rfl rfl (by kernel_rfl) (fun _ _ _ h => h) (Or.inl ⟨by rfl, ?_⟩) ?_ ?_
                 rotate_left
                 ·intro w'
                  go_simp
                  with_reducible rfl
                 rotate_left
                 ·simp only [Act.put, List.setIfInBounds_toArray, List.set_cons_zero, List.set_cons_succ, i64_w, i32_w]
                  rfl
                 refine take_ (i := 0) (N := some 166) (v := ?_) (a' := ?_) #[true, true, false, false] rfl rfl (by kernel_rfl) (fun _ _ _ h => h) (Or.inl ⟨by rfl, ?_⟩) hHeld ?_ ?_
                 rotate_left
                 ·rintro w' ⟨s0, s1⟩
                  go_simp
                  with_reducible rfl
                 rotate_left
                 ·simp only [Act.put, List.setIfInBounds_toArray, List.set_cons_zero, List.set_cons_succ, i64_w, i32_w]
                  rfl
                 refine one_ (i := 2) (N := some 168) #[true, true, true, false] rfl rfl (by kernel_rfl) (by decide) (fun K hK => ?_)
                 refine goes_ Try.func16 (by kernel_rfl) rfl #[.int .i64 t168, .int .i64 1] (by rfl) rfl rfl (by (try simp only [List.map_toArray, List.map_cons, List.map_nil]); first | done | rfl | (simp only [List.length_drop, List.length_take]; rfl)) ?_
                 with_reducible refine (verditerref01_Ratio.calls k4 t168 1 t183 t184 _ A121.out).mono ?_
                 rintro e w134 ⟨rfl, hb⟩
                 refine ⟨_, rfl, ?_⟩
                 have n0_ := Aside0.mk (Kd.R_below (by (with_reducible repeat (first | apply Kd.R_alloc | apply Kd.R_drewN | apply Kd.R_drew)); exact HO_11.out) hb)
                 have n1_ := Aside0.mk (Kd.R_below (by (with_reducible repeat (first | apply Kd.R_alloc | apply Kd.R_drewN | apply Kd.R_drew)); exact HO_12.out) hb)
                 have n2_ := Aside0.mk (Kd.R_below (by (with_reducible repeat (first | apply Kd.R_alloc | apply Kd.R_drewN | apply Kd.R_drew)); exact HO_13.out) hb)
                 have n3_ := Aside0.mk (blk_below (g := gb160) (o := .cells #[.slice A0_0 l0_0.length c0_0, .slice A0_1 l0_1.length c0_1, .slice A0_2 l0_2.length c0_2] 25 (0, 0)) (by (with_reducible repeat (first | refine blk_drewN ?_ _ | refine blk_drew ?_ | refine blk_alloc ?_ _)); exact BK160.out) hb)
                 have n4_ := Aside0.mk (blk_below (g := gb161) (o := .cells #[.int .i64 a1_0, .int .i64 a1_1] 27 (0, 0)) (by (with_reducible repeat (first | refine blk_drewN ?_ _ | refine blk_drew ?_ | refine blk_alloc ?_ _)); exact BK161.out) hb)
                 have n5_ := Aside0.mk (blk_below (g := gb165) (o := .cells #[.int .i64 t162, .int .i64 t163] 34 (0, 0)) (by (with_reducible repeat (first | refine blk_drewN ?_ _ | refine blk_drew ?_ | refine blk_alloc ?_ _)); exact BK165.out) hb)
                 have n6_ := Aside0.mk (blk_below (g := gb182) (o := .cells #[.int .i64 x183000_4, .int .i64 x183001_4] 34 (0, 0)) (by (with_reducible repeat (first | refine blk_drewN ?_ _ | refine blk_drew ?_ | refine blk_alloc ?_ _)); exact BK182.out) hb)
                 have n7_ := Aside0.mk (below_step (by repeat (first | (with_reducible first | exact HB.out | apply below_alloc | apply pw_below_drewN | apply below_drew1 | refine below_set ?_ GE160.out | refine below_set ?_ GE161.out | refine below_set ?_ GE165.out | refine below_set ?_ GE182.out) | exact HB.out)) hb)
                 clear HO_11
                 clear HO_12
                 clear HO_13
                 clear BK160
                 clear BK161
                 clear BK165
                 clear BK182
                 clear HB
                 have HO_11 := n0_
                 have HO_12 := n1_
                 have HO_13 := n2_
                 have BK160 := n3_
                 have BK161 := n4_
                 have BK165 := n5_
                 have BK182 := n6_
                 have HB := n7_
                 clear n0_ n1_ n2_ n3_ n4_ n5_ n6_ n7_
                 (try clear hb)
                 (try clear hb2)
                 (try clear hk)
                 (try clear hi)
                 refine hK.out _ _ ⟨(blk_cell BK182.out 0).trans rfl, (blk_cell BK182.out 1).trans rfl⟩ (fun hHeld => ?_)
                 clear hK K
                 refine norm_ (a' := ?_) ?_ ?_
                 rotate_left
                 ·show Act.put _ (some 168) _ = _
                  simp only [Act.put, List.setIfInBounds_toArray, List.set_cons_zero, List.set_cons_succ, i64_w, i32_w]
                  rfl
                 refine pure_ (i := 3) (N := some 169) (v := ?_) (a' := ?_) #[true, true, true, true] rfl rfl (by kernel_rfl) (fun _ _ _ h => h) (Or.inl ⟨by rfl, ?_⟩) ?_ ?_
                 rotate_left
                 ·intro w'
                  go_simp
                  with_reducible rfl
                 rotate_left
                 ·simp only [Act.put, List.setIfInBounds_toArray, List.set_cons_zero, List.set_cons_succ, i64_w, i32_w]
                  rfl
                 refine done_ (by kernel_rfl) ?_
                 try go_wp2
                 go_meet
                 case rel => exact ⟨_, H', ⟨by have := HJ4.out; have := HJ17.out; have := HJ49.out; have := HK4.out; first | omega | exact Nat.le_refl _⟩, ⟨by (with_reducible repeat (first | apply Kd.R_alloc | apply Kd.R_drewN | apply Kd.R_drew)); exact Kd.R_mono HO_12.out (fun _ hk => ⟨hk.2.1, hk.2.2.1⟩)⟩, ⟨by (with_reducible repeat (first | apply Kd.R_alloc | apply Kd.R_drewN | apply Kd.R_drew)); exact Kd.R_mono HO_13.out (fun _ hk => ⟨hk.2.1, hk.2.2.1⟩)⟩, ⟨by (with_reducible repeat (first | refine blk_drewN ?_ _ | refine blk_drew ?_ | refine blk_alloc ?_ _)); exact BK160.out⟩, ⟨by (with_reducible repeat (first | refine blk_drewN ?_ _ | refine blk_drew ?_ | refine blk_alloc ?_ _)); exact BK161.out⟩, ⟨by (with_reducible repeat (first | refine blk_drewN ?_ _ | refine blk_drew ?_ | refine blk_alloc ?_ _)); exact BK165.out⟩, ⟨by repeat (first | (with_reducible first | exact HB.out | apply below_alloc | apply pw_below_drewN | apply below_drew1 | refine below_set ?_ GE160.out | refine below_set ?_ GE161.out | refine below_set ?_ GE165.out | refine below_set ?_ GE182.out) | exact HB.out)⟩⟩
         ·rw [if_neg c49] at H
          have c49b0 : (t173 == 0) = false := beq_eq_false_iff_ne.mpr c49
          have c49b1 : (t173 != 0) = true := bne_iff_ne.mpr c49
          (first | rw [c49b0] | (simp only [i64_w, i32_w]; rw [c49b0]) | skip)
          have H' := Aside0.mk H
          clear H
          go_wp2
          go_meet
          case rel => exact ⟨_, H', ⟨by have := HJ4.out; have := HJ17.out; first | omega | exact Nat.le_refl _⟩, ⟨by (with_reducible repeat (first | apply Kd.R_alloc | apply Kd.R_drewN | apply Kd.R_drew)); exact Kd.R_mono HO177.out (fun _ hk => ⟨hk.2, hk.1.2⟩)⟩, ⟨by (with_reducible repeat (first | apply Kd.R_alloc | apply Kd.R_drewN | apply Kd.R_drew)); exact Kd.R_mono HO181.out (fun _ hk => ⟨hk.1.2, hk.2⟩)⟩, ⟨by (with_reducible repeat (first | refine blk_drewN ?_ _ | refine blk_drew ?_ | refine blk_alloc ?_ _)); exact BK160.out⟩, ⟨by (with_reducible repeat (first | refine blk_drewN ?_ _ | refine blk_drew ?_ | refine blk_alloc ?_ _)); exact BK161.out⟩, ⟨by (with_reducible repeat (first | refine blk_drewN ?_ _ | refine blk_drew ?_ | refine blk_alloc ?_ _)); exact BK165.out⟩, ⟨by repeat (first | (with_reducible first | exact HB.out | apply below_alloc | apply pw_below_drewN | apply below_drew1 | refine below_set ?_ GE160.out | refine below_set ?_ GE161.out | refine below_set ?_ GE165.out) | exact HB.out)⟩⟩
        case rest =>
         as_aux_lemma =>
         clear HC37 hfz40_0 hfz40_1 hfz40_2 hfz42_0 hfz42_1 hfz42_2 hfz44_0 hfz44_1 hfz46_0 hfz46_1 hfz46_2 hfz47_0 hfz47_1
         obtain ⟨kq, HA, HJ36, HO_12, HO_13, BK160, BK161, BK165, HB⟩ := hcut
         cases kq with
         | zero => exact absurd HA.out (by simp [verditertop_topWash.j5])
         | succ kj36 =>
          have H := HA.out
          clear HA
          simp only [verditertop_topWash.j5] at H
          have HC135 := Aside0.mk H
          clear H
          go_upto_if 171 with (fail)
          go_cut [] (fun wc => ∃ (kq : Nat), Aside0 (verditertop_topWash.j8 kq l0_0 l0_1 l0_2 = some r) ∧ Aside0 (kq ≤ kj36) ∧ Aside0 (wc.heap[gb160]? = some (.cells #[(.slice A0_0 l0_0.length c0_0), (.slice A0_1 l0_1.length c0_1), (.slice A0_2 l0_2.length c0_2)] 25 (0, 0))) ∧ Aside0 (wc.heap[gb161]? = some (.cells #[.int .i64 a1_0, .int .i64 a1_1] 27 (0, 0))) ∧ Aside0 (wc.heap[gb165]? = some (.cells #[.int .i64 t162, .int .i64 t163] 34 (0, 0))) ∧ Aside0 (Below w.heap.size w wc))
          case first =>
           as_aux_lemma =>
           have H := HC135.out
           clear HC135
           by_cases c136 : t179 = 0
           ·rw [if_pos c136] at H
            have c136b0 : (t179 == 0) = true := beq_iff_eq.mpr c136
            have c136b1 : (t179 != 0) = false := bne_eq_false_iff_eq.mpr c136
            clear c136
            (first | rw [c136b0] | (simp only [i64_w, i32_w]; rw [c136b0]) | skip)
            have HC137 := Aside0.mk H
            clear H
            go_upto_region 24 with (fail)
            go_cut [181] (fun v181 wc => ∃ (kq : Nat) (x181_136 : Bool), v181 = .bool x181_136 ∧ Aside0 (verditertop_topWash.j6 kq t172 t178 x181_136 l0_0 l0_1 l0_2 = some r) ∧ Aside0 (kq ≤ kj36) ∧ Aside0 (Kd.R k34 34 wc w.heap.size (fun k_ => some k_ ≠ (v180 : Value).ownBlock ∧ k_ ≠ gb165) v176 t172) ∧ Aside0 (Kd.R k34 34 wc w.heap.size (fun k_ => some k_ ≠ (v176 : Value).ownBlock ∧ k_ ≠ gb165) v180 t178) ∧ Aside0 (wc.heap[gb160]? = some (.cells #[(.slice A0_0 l0_0.length c0_0), (.slice A0_1 l0_1.length c0_1), (.slice A0_2 l0_2.length c0_2)] 25 (0, 0))) ∧ Aside0 (wc.heap[gb161]? = some (.cells #[.int .i64 a1_0, .int .i64 a1_1] 27 (0, 0))) ∧ Aside0 (wc.heap[gb165]? = some (.cells #[.int .i64 t162, .int .i64 t163] 34 (0, 0))) ∧ Aside0 (Below w.heap.size w wc))
            case first =>
             as_aux_lemma =>
             have H := HC137.out
             clear HC137
             by_cases c138 : t173 = 0
             ·rw [if_pos c138] at H
              have c138b0 : (t173 == 0) = true := beq_iff_eq.mpr c138
              have c138b1 : (t173 != 0) = false := bne_eq_false_iff_eq.mpr c138
              clear c138
              (first | rw [c138b0] | (simp only [i64_w, i32_w]; rw [c138b0]) | skip)
              have H' := Aside0.mk H
              clear H
              obtain ⟨Ao139, co139, eo139⟩ := Kd.R_slice HO_13.out
              subst eo139
              have hnb140 := NB160_161.out
              have hnc140 := NB161_160.out
              have hnb141 := NB160_165.out
              have hnc141 := NB165_160.out
              have hcz142_0 : wc.cell? ⟨gb160, 0, none⟩ = some (.slice A0_0 l0_0.length c0_0) := (blk_cell BK160.out 0).trans rfl
              have hcz142_1 : wc.cell? ⟨gb160, 1, none⟩ = some (.slice A0_1 l0_1.length c0_1) := (blk_cell BK160.out 1).trans rfl
              have hcz142_2 : wc.cell? ⟨gb160, 2, none⟩ = some (.slice A0_2 l0_2.length c0_2) := (blk_cell BK160.out 2).trans rfl
              have hfz142_0 := blk_frozen BK160.out 0
              have hfz142_1 := blk_frozen BK160.out 1
              have hfz142_2 := blk_frozen BK160.out 2
              go_wp2
              go_meet
              case rel => exact ⟨_, (((t178.length : Int) != (l0_0.length : Int))), (by first | rfl | (simp; done) | (simp [*]; done)), H', ⟨by have := HJ4.out; have := HJ17.out; have := HJ36.out; first | omega | exact Nat.le_refl _⟩, ⟨by (with_reducible repeat (first | apply Kd.R_alloc | apply Kd.R_drewN | apply Kd.R_drew)); exact HO_12.out⟩, ⟨by (with_reducible repeat (first | apply Kd.R_alloc | apply Kd.R_drewN | apply Kd.R_drew)); exact HO_13.out⟩, ⟨by (with_reducible repeat (first | refine blk_drewN ?_ _ | refine blk_drew ?_ | refine blk_alloc ?_ _)); exact BK160.out⟩, ⟨by (with_reducible repeat (first | refine blk_drewN ?_ _ | refine blk_drew ?_ | refine blk_alloc ?_ _)); exact BK161.out⟩, ⟨by (with_reducible repeat (first | refine blk_drewN ?_ _ | refine blk_drew ?_ | refine blk_alloc ?_ _)); exact BK165.out⟩, ⟨by repeat (first | (with_reducible first | exact HB.out | apply below_alloc | apply pw_below_drewN | apply below_drew1 | refine below_set ?_ GE160.out | refine below_set ?_ GE161.out | refine below_set ?_ GE165.out) | exact HB.out)⟩⟩
             ·rw [if_neg c138] at H
              have c138b0 : (t173 == 0) = false := beq_eq_false_iff_ne.mpr c138
              have c138b1 : (t173 != 0) = true := bne_iff_ne.mpr c138
              (first | rw [c138b0] | (simp only [i64_w, i32_w]; rw [c138b0]) | skip)
              exact absurd (show r = false by first | exact no_j0 H | exact no_j9 H | exact no_j6 H | exact no_j2 H | exact no_j4 H) (by rw [HRT.out]; decide)
            case rest =>
             as_aux_lemma =>
             clear HC137 c136b0 c136b1
             obtain ⟨kq, x181_136, rfl, HA, HJ136, HO_12, HO_13, BK160, BK161, BK165, HB⟩ := hcut
             cases kq with
             | zero => exact absurd HA.out (by simp [verditertop_topWash.j6])
             | succ kj136 =>
              have H := HA.out
              clear HA
              simp only [verditertop_topWash.j6] at H
              by_cases c143 : x181_136 = true
              ·subst c143
               have H1 : (some false) = some r := by rw [if_pos rfl] at H; exact H
               clear H
               have H := H1
               clear H1
               exact absurd (Option.some.inj H) (by rw [HRT.out]; decide)
              ·replace c143 := Bool.eq_false_iff.mpr c143
               subst c143
               have H1 : (verditertop_topWash.l1 kj136 t172 t178 0 l0_0 l0_1 l0_2) = some r := by rw [if_neg (show ¬ (false = true) by decide)] at H; exact H
               clear H
               have H := H1
               clear H1
               have H' := Aside0.mk H
               clear H
               go_wp2
               go_loopg [17] kj136 (fun kq v17 w' => ∃ (x17_5 : Int), v17 = .int .i64 x17_5 ∧ Aside0 (verditertop_topWash.l1 kq t172 t178 x17_5 l0_0 l0_1 l0_2 = some r) ∧ Aside0 (kq ≤ kj136) ∧ Aside0 (Kd.R k34 34 w' w.heap.size (fun k_ => some k_ ≠ (v180 : Value).ownBlock ∧ k_ ≠ gb165) v176 t172) ∧ Aside0 (Kd.R k34 34 w' w.heap.size (fun k_ => some k_ ≠ (v176 : Value).ownBlock ∧ k_ ≠ gb165) v180 t178) ∧ Aside0 (w'.heap[gb160]? = some (.cells #[(.slice A0_0 l0_0.length c0_0), (.slice A0_1 l0_1.length c0_1), (.slice A0_2 l0_2.length c0_2)] 25 (0, 0))) ∧ Aside0 (w'.heap[gb161]? = some (.cells #[.int .i64 a1_0, .int .i64 a1_1] 27 (0, 0))) ∧ Aside0 (w'.heap[gb165]? = some (.cells #[.int .i64 t162, .int .i64 t163] 34 (0, 0))) ∧ Aside0 (Below w.heap.size w w'))
               case atStart => exact ⟨(0), (by first | rfl | (simp; done) | (simp [*]; done)), H', ⟨Nat.le_refl _⟩, ⟨by (with_reducible repeat (first | apply Kd.R_alloc | apply Kd.R_drewN | apply Kd.R_drew)); exact HO_12.out⟩, ⟨by (with_reducible repeat (first | apply Kd.R_alloc | apply Kd.R_drewN | apply Kd.R_drew)); exact HO_13.out⟩, ⟨by (with_reducible repeat (first | refine blk_drewN ?_ _ | refine blk_drew ?_ | refine blk_alloc ?_ _)); exact BK160.out⟩, ⟨by (with_reducible repeat (first | refine blk_drewN ?_ _ | refine blk_drew ?_ | refine blk_alloc ?_ _)); exact BK161.out⟩, ⟨by (with_reducible repeat (first | refine blk_drewN ?_ _ | refine blk_drew ?_ | refine blk_alloc ?_ _)); exact BK165.out⟩, ⟨by repeat (first | (with_reducible first | exact HB.out | apply below_alloc | apply pw_below_drewN | apply below_drew1 | refine below_set ?_ GE160.out | refine below_set ?_ GE161.out | refine below_set ?_ GE165.out) | exact HB.out)⟩⟩
               case round =>
                as_aux_lemma =>
                clear H'
                obtain ⟨x17_5, rfl, HA, HK5, HO_12, HO_13, BK160, BK161, BK165, HB⟩ := hrel
                cases gk with
                | zero => exact absurd HA.out (by simp [verditertop_topWash.l1])
                | succ k5 =>
                 have H := HA.out
                 clear HA
                 simp only [verditertop_topWash.l1] at H
                 by_cases c144 : x17_5 < (t178.length : Int)
                 ·rw [if_pos c144] at H
                  have c144b0 : decide (x17_5 < (t178.length : Int)) = true := decide_eq_true c144
                  clear c144
                  by_cases c145 : 0 ≤ x17_5
                  ·rw [if_pos c145] at H
                   have c145b0 : decide (0 ≤ x17_5) = true := decide_eq_true c145
                   clear c145
                   by_cases c146 : ((rd_T34 t178 x17_5).f1) < 1
                   ·rw [if_pos c146] at H
                    have c146b0 : decide (((rd_T34 t178 x17_5).f1) < 1) = true := decide_eq_true c146
                    clear c146
                    exact absurd (Option.some.inj H) (by rw [HRT.out]; decide)
                   ·rw [if_neg c146] at H
                    have c146b0 : decide (((rd_T34 t178 x17_5).f1) < 1) = false := decide_eq_false c146
                    clear c146
                    by_cases c149 : ((rd_T34 t178 x17_5).f1) > 200000
                    ·rw [if_pos c149] at H
                     have c149b0 : decide (200000 < ((rd_T34 t178 x17_5).f1)) = true := decide_eq_true c149
                     clear c149
                     exact absurd (Option.some.inj H) (by rw [HRT.out]; decide)
                    ·rw [if_neg c149] at H
                     have c149b0 : decide (200000 < ((rd_T34 t178 x17_5).f1)) = false := decide_eq_false c149
                     clear c149
                     by_cases c152 : ((rd_T34 t178 x17_5).f0) < 0
                     ·rw [if_pos c152] at H
                      have c152b0 : decide (((rd_T34 t178 x17_5).f0) < 0) = true := decide_eq_true c152
                      clear c152
                      exact absurd (Option.some.inj H) (by rw [HRT.out]; decide)
                     ·rw [if_neg c152] at H
                      have c152b0 : decide (((rd_T34 t178 x17_5).f0) < 0) = false := decide_eq_false c152
                      clear c152
                      by_cases c155 : x17_5 < (t172.length : Int)
                      ·rw [if_pos c155] at H
                       have c155b0 : decide (x17_5 < (t172.length : Int)) = true := decide_eq_true c155
                       clear c155
                       by_cases c156 : (wrap64 (((rd_T34 t178 x17_5).f0) * ((rd_T34 t172 x17_5).f1))) > (wrap64 (((rd_T34 t172 x17_5).f0) * ((rd_T34 t178 x17_5).f1)))
                       ·rw [if_pos c156] at H
                        have c156b0 : decide ((wrap64 (((rd_T34 t172 x17_5).f0) * ((rd_T34 t178 x17_5).f1))) < (wrap64 (((rd_T34 t178 x17_5).f0) * ((rd_T34 t172 x17_5).f1)))) = true := decide_eq_true c156
                        clear c156
                        exact absurd (Option.some.inj H) (by rw [HRT.out]; decide)
                       ·rw [if_neg c156] at H
                        have c156b0 : decide ((wrap64 (((rd_T34 t172 x17_5).f0) * ((rd_T34 t178 x17_5).f1))) < (wrap64 (((rd_T34 t178 x17_5).f0) * ((rd_T34 t172 x17_5).f1)))) = false := decide_eq_false c156
                        clear c156
                        have H' := Aside0.mk H
                        clear H
                        obtain ⟨Ao160, co160, eo160⟩ := Kd.R_slice HO_13.out
                        subst eo160
                        try go_wp2
                        have n0_ := Aside0.mk (Kd.R_drew HO_12.out)
                        have n1_ := Aside0.mk (Kd.R_drew HO_13.out)
                        have n2_ := Aside0.mk (blk_drew BK160.out)
                        have n3_ := Aside0.mk (blk_drew BK161.out)
                        have n4_ := Aside0.mk (blk_drew BK165.out)
                        have n5_ := Aside0.mk (below_drew1 HB.out)
                        clear HO_12
                        clear HO_13
                        clear BK160
                        clear BK161
                        clear BK165
                        clear HB
                        have HO_12 := n0_
                        have HO_13 := n1_
                        have BK160 := n2_
                        have BK161 := n3_
                        have BK165 := n4_
                        have HB := n5_
                        clear n0_ n1_ n2_ n3_ n4_ n5_
                        have p195 : 0 ≤ (x17_5 : Int) := of_decide_eq_true (by first | (with_reducible assumption) | assumption)
                        have q195 : x17_5 < (t178.length : Int) := of_decide_eq_true (by first | (with_reducible assumption) | assumption)
                        obtain ⟨ad195, e195, hx195_0, hx195_1⟩ := at_T34 (Kd.R_reads' HO_13.out).2.2 x17_5 p195 q195
                        cases e195
                        replace p195 := eq_true p195
                        replace q195 := eq_true q195
                        have p196 : 0 ≤ (x17_5 : Int) := of_decide_eq_true (by first | (with_reducible assumption) | assumption)
                        have q196 : x17_5 < (t178.length : Int) := of_decide_eq_true (by first | (with_reducible assumption) | assumption)
                        obtain ⟨ad196, e196, hx196_0, hx196_1⟩ := at_T34 (Kd.R_reads' HO_13.out).2.2 x17_5 p196 q196
                        obtain rfl : ad195 = ad196 := (by injection e196)
                        replace p196 := eq_true p196
                        replace q196 := eq_true q196
                        have p197 : 0 ≤ (x17_5 : Int) := of_decide_eq_true (by first | (with_reducible assumption) | assumption)
                        have q197 : x17_5 < (t178.length : Int) := of_decide_eq_true (by first | (with_reducible assumption) | assumption)
                        obtain ⟨ad197, e197, hx197_0, hx197_1⟩ := at_T34 (Kd.R_reads' HO_13.out).2.2 x17_5 p197 q197
                        obtain rfl : ad195 = ad197 := (by injection e197)
                        replace p197 := eq_true p197
                        replace q197 := eq_true q197
                        have p198 : 0 ≤ (x17_5 : Int) := of_decide_eq_true (by first | (with_reducible assumption) | assumption)
                        have q198 : x17_5 < (t178.length : Int) := of_decide_eq_true (by first | (with_reducible assumption) | assumption)
                        obtain ⟨ad198, e198, hx198_0, hx198_1⟩ := at_T34 (Kd.R_reads' HO_13.out).2.2 x17_5 p198 q198
                        obtain rfl : ad195 = ad198 := (by injection e198)
                        replace p198 := eq_true p198
                        replace q198 := eq_true q198
                        obtain ⟨Ao162, co162, eo162⟩ := Kd.R_slice HO_12.out
                        (first | subst eo162 | (injection eo162 with f1_ f2_ f3_; have f4_ := f1_.symm; have f5_ := f3_.symm; clear f1_ f2_ f3_; subst f4_; subst f5_))
                        have p199 : 0 ≤ (x17_5 : Int) := of_decide_eq_true (by first | (with_reducible assumption) | assumption)
                        have q199 : x17_5 < (t172.length : Int) := of_decide_eq_true (by first | (with_reducible assumption) | assumption)
                        obtain ⟨ad199, e199, hx199_0, hx199_1⟩ := at_T34 (Kd.R_reads' HO_12.out).2.2 x17_5 p199 q199
                        cases e199
                        replace p199 := eq_true p199
                        replace q199 := eq_true q199
                        have p200 : 0 ≤ (x17_5 : Int) := of_decide_eq_true (by first | (with_reducible assumption) | assumption)
                        have q200 : x17_5 < (t172.length : Int) := of_decide_eq_true (by first | (with_reducible assumption) | assumption)
                        obtain ⟨ad200, e200, hx200_0, hx200_1⟩ := at_T34 (Kd.R_reads' HO_12.out).2.2 x17_5 p200 q200
                        obtain rfl : ad199 = ad200 := (by injection e200)
                        replace p200 := eq_true p200
                        replace q200 := eq_true q200
                        have p201 : 0 ≤ (x17_5 : Int) := of_decide_eq_true (by first | (with_reducible assumption) | assumption)
                        have q201 : x17_5 < (t178.length : Int) := of_decide_eq_true (by first | (with_reducible assumption) | assumption)
                        obtain ⟨ad201, e201, hx201_0, hx201_1⟩ := at_T34 (Kd.R_reads' HO_13.out).2.2 x17_5 p201 q201
                        obtain rfl : ad195 = ad201 := (by injection e201)
                        replace p201 := eq_true p201
                        replace q201 := eq_true q201
                        refine start_ (n := 47) (S := fun w' => w'.cell? (ad195.add ((x17_5).toNat * 2)) = some (.int .i64 ((rd_T34 t178 x17_5).f0)) ∧ w'.cell? ⟨(ad195.add ((x17_5).toNat * 2)).block, (ad195.add ((x17_5).toNat * 2)).off + 1, none⟩ = some (.int .i64 ((rd_T34 t178 x17_5).f1)) ∧ w'.cell? (ad195.add ((x17_5).toNat * 2)) = some (.int .i64 ((rd_T34 t178 x17_5).f0)) ∧ w'.cell? ⟨(ad195.add ((x17_5).toNat * 2)).block, (ad195.add ((x17_5).toNat * 2)).off + 1, none⟩ = some (.int .i64 ((rd_T34 t178 x17_5).f1)) ∧ w'.cell? (ad195.add ((x17_5).toNat * 2)) = some (.int .i64 ((rd_T34 t178 x17_5).f0)) ∧ w'.cell? ⟨(ad195.add ((x17_5).toNat * 2)).block, (ad195.add ((x17_5).toNat * 2)).off + 1, none⟩ = some (.int .i64 ((rd_T34 t178 x17_5).f1)) ∧ w'.cell? (ad195.add ((x17_5).toNat * 2)) = some (.int .i64 ((rd_T34 t178 x17_5).f0)) ∧ w'.cell? ⟨(ad195.add ((x17_5).toNat * 2)).block, (ad195.add ((x17_5).toNat * 2)).off + 1, none⟩ = some (.int .i64 ((rd_T34 t178 x17_5).f1)) ∧ w'.cell? (ad199.add ((x17_5).toNat * 2)) = some (.int .i64 ((rd_T34 t172 x17_5).f0)) ∧ w'.cell? ⟨(ad199.add ((x17_5).toNat * 2)).block, (ad199.add ((x17_5).toNat * 2)).off + 1, none⟩ = some (.int .i64 ((rd_T34 t172 x17_5).f1)) ∧ w'.cell? (ad199.add ((x17_5).toNat * 2)) = some (.int .i64 ((rd_T34 t172 x17_5).f0)) ∧ w'.cell? ⟨(ad199.add ((x17_5).toNat * 2)).block, (ad199.add ((x17_5).toNat * 2)).off + 1, none⟩ = some (.int .i64 ((rd_T34 t172 x17_5).f1)) ∧ w'.cell? (ad195.add ((x17_5).toNat * 2)) = some (.int .i64 ((rd_T34 t178 x17_5).f0)) ∧ w'.cell? ⟨(ad195.add ((x17_5).toNat * 2)).block, (ad195.add ((x17_5).toNat * 2)).off + 1, none⟩ = some (.int .i64 ((rd_T34 t178 x17_5).f1))) (ds := []) #[false, false, false, false, false, false, false, false, false, false, false, false, false, false, false, false, false, false, false, false, false, false, false, false, false, false, false, false, false, false, false, false, false, false, false, false, false, false, false, false, false, false, false, false, false, false, false] (by kernel_rfl) rfl rfl ⟨hx195_0, hx195_1, hx196_0, hx196_1, hx197_0, hx197_1, hx198_0, hx198_1, hx199_0, hx199_1, hx200_0, hx200_1, hx201_0, hx201_1⟩ (fun hHeld => ?_); refine with_tabW verditertop_topWash.tab29 verditertop_topWash.bits29 (fun HT_ HW_ => ?_)
                        generalize wr.drew = w161 at HO_12 HO_13 BK160 BK161 BK165 HB hx195_0 hx195_1 hx196_0 hx196_1 hx197_0 hx197_1 hx198_0 hx198_1 hx199_0 hx199_1 hx200_0 hx200_1 hx201_0 hx201_1 hHeld ⊢
                        refine pure_ (i := 0) (N := some 188) (v := ?_) (a' := ?_) #[true, false, false, false, false, false, false, false, false, false, false, false, false, false, false, false, false, false, false, false, false, false, false, false, false, false, false, false, false, false, false, false, false, false, false, false, false, false, false, false, false, false, false, false, false, false, false] rfl rfl (any_of HT_.out (by kernel_rfl)) (fun _ _ _ h => h) (Or.inl ⟨by rfl, ?_⟩) ?_ ?_
                        rotate_left
                        ·intro w'
                         go_simp
                         with_reducible rfl
                        rotate_left
                        ·simp only [Act.put, List.setIfInBounds_toArray, List.set_cons_zero, List.set_cons_succ, i64_w, i32_w]
                         rfl
                        refine pure_ (i := 1) (N := some 189) (v := ?_) (a' := ?_) #[true, true, false, false, false, false, false, false, false, false, false, false, false, false, false, false, false, false, false, false, false, false, false, false, false, false, false, false, false, false, false, false, false, false, false, false, false, false, false, false, false, false, false, false, false, false, false] rfl rfl (any_of HT_.out (by kernel_rfl)) (fun _ _ _ h => h) (Or.inl ⟨by rfl, ?_⟩) ?_ ?_
                        rotate_left
                        ·intro w'
                         go_simp
                         with_reducible rfl
                        rotate_left
                        ·simp only [Act.put, List.setIfInBounds_toArray, List.set_cons_zero, List.set_cons_succ, i64_w, i32_w]
                         rfl
                        refine pure_ (i := 2) (N := some 190) (v := ?_) (a' := ?_) #[true, true, true, false, false, false, false, false, false, false, false, false, false, false, false, false, false, false, false, false, false, false, false, false, false, false, false, false, false, false, false, false, false, false, false, false, false, false, false, false, false, false, false, false, false, false, false] rfl rfl (any_of HT_.out (by kernel_rfl)) (fun _ _ _ h => h) (Or.inl ⟨by rfl, ?_⟩) ?_ ?_
                        rotate_left
                        ·intro w'
                         go_simp
                         with_reducible rfl
                        rotate_left
                        ·simp only [Act.put, List.setIfInBounds_toArray, List.set_cons_zero, List.set_cons_succ, i64_w, i32_w]
                         rfl
                        refine pure_ (i := 3) (N := some 191) (v := ?_) (a' := ?_) #[true, true, true, true, false, false, false, false, false, false, false, false, false, false, false, false, false, false, false, false, false, false, false, false, false, false, false, false, false, false, false, false, false, false, false, false, false, false, false, false, false, false, false, false, false, false, false] rfl rfl (any_of HT_.out (by kernel_rfl)) (fun _ _ _ h => h) (Or.inl ⟨by rfl, ?_⟩) ?_ ?_
                        rotate_left
                        ·intro w'
                         go_simp
                         with_reducible rfl
                        rotate_left
                        ·simp only [Act.put, List.setIfInBounds_toArray, List.set_cons_zero, List.set_cons_succ, i64_w, i32_w]
                         rfl
                        refine take_ (i := 4) (N := some 192) (v := ?_) (a' := ?_) #[true, true, true, true, true, false, false, false, false, false, false, false, false, false, false, false, false, false, false, false, false, false, false, false, false, false, false, false, false, false, false, false, false, false, false, false, false, false, false, false, false, false, false, false, false, false, false] rfl rfl (take_ofW HT_.out HW_.out (by kernel_rfl)) (fun _ _ _ h => h) (Or.inl ⟨by rfl, ?_⟩) hHeld ?_ ?_
                        rotate_left
                        ·rintro w' ⟨s0, s1, s2, s3, s4, s5, s6, s7, s8, s9, s10, s11, s12, s13⟩
                         go_simp
                         with_reducible rfl
                        rotate_left
                        ·simp only [Act.put, List.setIfInBounds_toArray, List.set_cons_zero, List.set_cons_succ, i64_w, i32_w]
                         rfl
                        refine pure_ (i := 5) (N := some 193) (v := ?_) (a' := ?_) #[true, true, true, true, true, true, false, false, false, false, false, false, false, false, false, false, false, false, false, false, false, false, false, false, false, false, false, false, false, false, false, false, false, false, false, false, false, false, false, false, false, false, false, false, false, false, false] rfl rfl (any_of HT_.out (by kernel_rfl)) (fun _ _ _ h => h) (Or.inl ⟨by rfl, ?_⟩) ?_ ?_
                        rotate_left
                        ·intro w'
                         go_simp
                         with_reducible rfl
                        rotate_left
                        ·simp only [Act.put, List.setIfInBounds_toArray, List.set_cons_zero, List.set_cons_succ, i64_w, i32_w]
                         rfl
                        refine pure_ (i := 6) (N := some 194) (v := ?_) (a' := ?_) #[true, true, true, true, true, true, true, false, false, false, false, false, false, false, false, false, false, false, false, false, false, false, false, false, false, false, false, false, false, false, false, false, false, false, false, false, false, false, false, false, false, false, false, false, false, false, false] rfl rfl (any_of HT_.out (by kernel_rfl)) (fun _ _ _ h => h) (Or.inl ⟨by rfl, ?_⟩) ?_ ?_
                        rotate_left
                        ·intro w'
                         go_simp
                         with_reducible rfl
                        rotate_left
                        ·simp only [Act.put, List.setIfInBounds_toArray, List.set_cons_zero, List.set_cons_succ, i64_w, i32_w]
                         rfl
                        refine pure_ (i := 7) (N := some 195) (v := ?_) (a' := ?_) #[true, true, true, true, true, true, true, true, false, false, false, false, false, false, false, false, false, false, false, false, false, false, false, false, false, false, false, false, false, false, false, false, false, false, false, false, false, false, false, false, false, false, false, false, false, false, false] rfl rfl (any_of HT_.out (by kernel_rfl)) (fun _ _ _ h => h) (Or.inl ⟨by rfl, ?_⟩) ?_ ?_
                        rotate_left
                        ·intro w'
                         go_simp
                         with_reducible rfl
                        rotate_left
                        ·simp only [Act.put, List.setIfInBounds_toArray, List.set_cons_zero, List.set_cons_succ, i64_w, i32_w]
                         rfl
                        refine pure_ (i := 8) (N := some 196) (v := ?_) (a' := ?_) #[true, true, true, true, true, true, true, true, true, false, false, false, false, false, false, false, false, false, false, false, false, false, false, false, false, false, false, false, false, false, false, false, false, false, false, false, false, false, false, false, false, false, false, false, false, false, false] rfl rfl (any_of HT_.out (by kernel_rfl)) (fun _ _ _ h => h) (Or.inl ⟨by rfl, ?_⟩) ?_ ?_
                        rotate_left
                        ·intro w'
                         go_simp
                         with_reducible rfl
                        rotate_left
                        ·simp only [Act.put, List.setIfInBounds_toArray, List.set_cons_zero, List.set_cons_succ, i64_w, i32_w]
                         rfl
                        refine pure_ (i := 9) (N := some 197) (v := ?_) (a' := ?_) #[true, true, true, true, true, true, true, true, true, true, false, false, false, false, false, false, false, false, false, false, false, false, false, false, false, false, false, false, false, false, false, false, false, false, false, false, false, false, false, false, false, false, false, false, false, false, false] rfl rfl (any_of HT_.out (by kernel_rfl)) (fun _ _ _ h => h) (Or.inl ⟨by rfl, ?_⟩) ?_ ?_
                        rotate_left
                        ·intro w'
                         go_simp
                         with_reducible rfl
                        rotate_left
                        ·simp only [Act.put, List.setIfInBounds_toArray, List.set_cons_zero, List.set_cons_succ, i64_w, i32_w]
                         rfl
                        refine pure_ (i := 10) (N := some 198) (v := ?_) (a' := ?_) #[true, true, true, true, true, true, true, true, true, true, true, false, false, false, false, false, false, false, false, false, false, false, false, false, false, false, false, false, false, false, false, false, false, false, false, false, false, false, false, false, false, false, false, false, false, false, false] rfl rfl (any_of HT_.out (by kernel_rfl)) (fun _ _ _ h => h) (Or.inl ⟨by rfl, ?_⟩) ?_ ?_
                        rotate_left
                        ·intro w'
                         go_simp
                         with_reducible rfl
                        rotate_left
                        ·simp only [Act.put, List.setIfInBounds_toArray, List.set_cons_zero, List.set_cons_succ, i64_w, i32_w]
                         rfl
                        refine take_ (i := 11) (N := some 199) (v := ?_) (a' := ?_) #[true, true, true, true, true, true, true, true, true, true, true, true, false, false, false, false, false, false, false, false, false, false, false, false, false, false, false, false, false, false, false, false, false, false, false, false, false, false, false, false, false, false, false, false, false, false, false] rfl rfl (take_ofW HT_.out HW_.out (by kernel_rfl)) (fun _ _ _ h => h) (Or.inl ⟨by rfl, ?_⟩) hHeld ?_ ?_
                        rotate_left
                        ·rintro w' ⟨s0, s1, s2, s3, s4, s5, s6, s7, s8, s9, s10, s11, s12, s13⟩
                         go_simp
                         with_reducible rfl
                        rotate_left
                        ·simp only [Act.put, List.setIfInBounds_toArray, List.set_cons_zero, List.set_cons_succ, i64_w, i32_w]
                         rfl
                        refine pure_ (i := 12) (N := some 200) (v := ?_) (a' := ?_) #[true, true, true, true, true, true, true, true, true, true, true, true, true, false, false, false, false, false, false, false, false, false, false, false, false, false, false, false, false, false, false, false, false, false, false, false, false, false, false, false, false, false, false, false, false, false, false] rfl rfl (any_of HT_.out (by kernel_rfl)) (fun _ _ _ h => h) (Or.inl ⟨by rfl, ?_⟩) ?_ ?_
                        rotate_left
                        ·intro w'
                         go_simp
                         with_reducible rfl
                        rotate_left
                        ·simp only [Act.put, List.setIfInBounds_toArray, List.set_cons_zero, List.set_cons_succ, i64_w, i32_w]
                         rfl
                        refine pure_ (i := 13) (N := some 201) (v := ?_) (a' := ?_) #[true, true, true, true, true, true, true, true, true, true, true, true, true, true, false, false, false, false, false, false, false, false, false, false, false, false, false, false, false, false, false, false, false, false, false, false, false, false, false, false, false, false, false, false, false, false, false] rfl rfl (any_of HT_.out (by kernel_rfl)) (fun _ _ _ h => h) (Or.inl ⟨by rfl, ?_⟩) ?_ ?_
                        rotate_left
                        ·intro w'
                         go_simp
                         with_reducible rfl
                        rotate_left
                        ·simp only [Act.put, List.setIfInBounds_toArray, List.set_cons_zero, List.set_cons_succ, i64_w, i32_w]
                         rfl
                        refine pure_ (i := 14) (N := some 202) (v := ?_) (a' := ?_) #[true, true, true, true, true, true, true, true, true, true, true, true, true, true, true, false, false, false, false, false, false, false, false, false, false, false, false, false, false, false, false, false, false, false, false, false, false, false, false, false, false, false, false, false, false, false, false] rfl rfl (any_of HT_.out (by kernel_rfl)) (fun _ _ _ h => h) (Or.inl ⟨by rfl, ?_⟩) ?_ ?_
                        rotate_left
                        ·intro w'
                         go_simp
                         with_reducible rfl
                        rotate_left
                        ·simp only [Act.put, List.setIfInBounds_toArray, List.set_cons_zero, List.set_cons_succ, i64_w, i32_w]
                         rfl
                        refine pure_ (i := 15) (N := some 203) (v := ?_) (a' := ?_) #[true, true, true, true, true, true, true, true, true, true, true, true, true, true, true, true, false, false, false, false, false, false, false, false, false, false, false, false, false, false, false, false, false, false, false, false, false, false, false, false, false, false, false, false, false, false, false] rfl rfl (any_of HT_.out (by kernel_rfl)) (fun _ _ _ h => h) (Or.inl ⟨by rfl, ?_⟩) ?_ ?_
                        rotate_left
                        ·intro w'
                         go_simp
                         with_reducible rfl
                        rotate_left
                        ·simp only [Act.put, List.setIfInBounds_toArray, List.set_cons_zero, List.set_cons_succ, i64_w, i32_w]
                         rfl
                        refine pure_ (i := 16) (N := some 204) (v := ?_) (a' := ?_) #[true, true, true, true, true, true, true, true, true, true, true, true, true, true, true, true, true, false, false, false, false, false, false, false, false, false, false, false, false, false, false, false, false, false, false, false, false, false, false, false, false, false, false, false, false, false, false] rfl rfl (any_of HT_.out (by kernel_rfl)) (fun _ _ _ h => h) (Or.inl ⟨by rfl, ?_⟩) ?_ ?_
                        rotate_left
                        ·intro w'
                         go_simp
                         with_reducible rfl
                        rotate_left
                        ·simp only [Act.put, List.setIfInBounds_toArray, List.set_cons_zero, List.set_cons_succ, i64_w, i32_w]
                         rfl
                        refine pure_ (i := 17) (N := some 205) (v := ?_) (a' := ?_) #[true, true, true, true, true, true, true, true, true, true, true, true, true, true, true, true, true, true, false, false, false, false, false, false, false, false, false, false, false, false, false, false, false, false, false, false, false, false, false, false, false, false, false, false, false, false, false] rfl rfl (any_of HT_.out (by kernel_rfl)) (fun _ _ _ h => h) (Or.inl ⟨by rfl, ?_⟩) ?_ ?_
                        rotate_left
                        ·intro w'
                         go_simp
                         with_reducible rfl
                        rotate_left
                        ·simp only [Act.put, List.setIfInBounds_toArray, List.set_cons_zero, List.set_cons_succ, i64_w, i32_w]
                         rfl
                        refine pure_ (i := 18) (N := some 206) (v := ?_) (a' := ?_) #[true, true, true, true, true, true, true, true, true, true, true, true, true, true, true, true, true, true, true, false, false, false, false, false, false, false, false, false, false, false, false, false, false, false, false, false, false, false, false, false, false, false, false, false, false, false, false] rfl rfl (any_of HT_.out (by kernel_rfl)) (fun _ _ _ h => h) (Or.inl ⟨by rfl, ?_⟩) ?_ ?_
                        rotate_left
                        ·intro w'
                         go_simp
                         with_reducible rfl
                        rotate_left
                        ·simp only [Act.put, List.setIfInBounds_toArray, List.set_cons_zero, List.set_cons_succ, i64_w, i32_w]
                         rfl
                        refine take_ (i := 19) (N := some 207) (v := ?_) (a' := ?_) #[true, true, true, true, true, true, true, true, true, true, true, true, true, true, true, true, true, true, true, true, false, false, false, false, false, false, false, false, false, false, false, false, false, false, false, false, false, false, false, false, false, false, false, false, false, false, false] rfl rfl (take_ofW HT_.out HW_.out (by kernel_rfl)) (fun _ _ _ h => h) (Or.inl ⟨by rfl, ?_⟩) hHeld ?_ ?_
                        rotate_left
                        ·rintro w' ⟨s0, s1, s2, s3, s4, s5, s6, s7, s8, s9, s10, s11, s12, s13⟩
                         go_simp
                         with_reducible rfl
                        rotate_left
                        ·simp only [Act.put, List.setIfInBounds_toArray, List.set_cons_zero, List.set_cons_succ, i64_w, i32_w]
                         rfl
                        refine pure_ (i := 20) (N := some 208) (v := ?_) (a' := ?_) #[true, true, true, true, true, true, true, true, true, true, true, true, true, true, true, true, true, true, true, true, true, false, false, false, false, false, false, false, false, false, false, false, false, false, false, false, false, false, false, false, false, false, false, false, false, false, false] rfl rfl (any_of HT_.out (by kernel_rfl)) (fun _ _ _ h => h) (Or.inl ⟨by rfl, ?_⟩) ?_ ?_
                        rotate_left
                        ·intro w'
                         go_simp
                         with_reducible rfl
                        rotate_left
                        ·simp only [Act.put, List.setIfInBounds_toArray, List.set_cons_zero, List.set_cons_succ, i64_w, i32_w]
                         rfl
                        refine pure_ (i := 21) (N := some 209) (v := ?_) (a' := ?_) #[true, true, true, true, true, true, true, true, true, true, true, true, true, true, true, true, true, true, true, true, true, true, false, false, false, false, false, false, false, false, false, false, false, false, false, false, false, false, false, false, false, false, false, false, false, false, false] rfl rfl (any_of HT_.out (by kernel_rfl)) (fun _ _ _ h => h) (Or.inl ⟨by rfl, ?_⟩) ?_ ?_
                        rotate_left
                        ·intro w'
                         go_simp
                         with_reducible rfl
                        rotate_left
                        ·simp only [Act.put, List.setIfInBounds_toArray, List.set_cons_zero, List.set_cons_succ, i64_w, i32_w]
                         rfl
                        refine pure_ (i := 22) (N := some 210) (v := ?_) (a' := ?_) #[true, true, true, true, true, true, true, true, true, true, true, true, true, true, true, true, true, true, true, true, true, true, true, false, false, false, false, false, false, false, false, false, false, false, false, false, false, false, false, false, false, false, false, false, false, false, false] rfl rfl (any_of HT_.out (by kernel_rfl)) (fun _ _ _ h => h) (Or.inl ⟨by rfl, ?_⟩) ?_ ?_
                        rotate_left
                        ·intro w'
                         go_simp
                         with_reducible rfl
                        rotate_left
                        ·simp only [Act.put, List.setIfInBounds_toArray, List.set_cons_zero, List.set_cons_succ, i64_w, i32_w]
                         rfl
                        refine pure_ (i := 23) (N := some 211) (v := ?_) (a' := ?_) #[true, true, true, true, true, true, true, true, true, true, true, true, true, true, true, true, true, true, true, true, true, true, true, true, false, false, false, false, false, false, false, false, false, false, false, false, false, false, false, false, false, false, false, false, false, false, false] rfl rfl (any_of HT_.out (by kernel_rfl)) (fun _ _ _ h => h) (Or.inl ⟨by rfl, ?_⟩) ?_ ?_
                        rotate_left
                        ·intro w'
                         go_simp
                         with_reducible rfl
                        rotate_left
                        ·simp only [Act.put, List.setIfInBounds_toArray, List.set_cons_zero, List.set_cons_succ, i64_w, i32_w]
                         rfl
                        refine pure_ (i := 24) (N := some 212) (v := ?_) (a' := ?_) #[true, true, true, true, true, true, true, true, true, true, true, true, true, true, true, true, true, true, true, true, true, true, true, true, true, false, false, false, false, false, false, false, false, false, false, false, false, false, false, false, false, false, false, false, false, false, false] rfl rfl (any_of HT_.out (by kernel_rfl)) (fun _ _ _ h => h) (Or.inl ⟨by rfl, ?_⟩) ?_ ?_
                        rotate_left
                        ·intro w'
                         go_simp
                         with_reducible rfl
                        rotate_left
                        ·simp only [Act.put, List.setIfInBounds_toArray, List.set_cons_zero, List.set_cons_succ, i64_w, i32_w]
                         rfl
                        refine pure_ (i := 25) (N := some 213) (v := ?_) (a' := ?_) #[true, true, true, true, true, true, true, true, true, true, true, true, true, true, true, true, true, true, true, true, true, true, true, true, true, true, false, false, false, false, false, false, false, false, false, false, false, false, false, false, false, false, false, false, false, false, false] rfl rfl (any_of HT_.out (by kernel_rfl)) (fun _ _ _ h => h) (Or.inl ⟨by rfl, ?_⟩) ?_ ?_
                        rotate_left
                        ·intro w'
                         go_simp
                         with_reducible rfl
                        rotate_left
                        ·simp only [Act.put, List.setIfInBounds_toArray, List.set_cons_zero, List.set_cons_succ, i64_w, i32_w]
                         rfl
                        refine pure_ (i := 26) (N := some 214) (v := ?_) (a' := ?_) #[true, true, true, true, true, true, true, true, true, true, true, true, true, true, true, true, true, true, true, true, true, true, true, true, true, true, true, false, false, false, false, false, false, false, false, false, false, false, false, false, false, false, false, false, false, false, false] rfl rfl (any_of HT_.out (by kernel_rfl)) (fun _ _ _ h => h) (Or.inl ⟨by rfl, ?_⟩) ?_ ?_
                        rotate_left
                        ·intro w'
                         go_simp
                         with_reducible rfl
                        rotate_left
                        ·simp only [Act.put, List.setIfInBounds_toArray, List.set_cons_zero, List.set_cons_succ, i64_w, i32_w]
                         rfl
                        refine pure_ (i := 28) (N := some 216) (v := ?_) (a' := ?_) #[true, true, true, true, true, true, true, true, true, true, true, true, true, true, true, true, true, true, true, true, true, true, true, true, true, true, true, false, true, false, false, false, false, false, false, false, false, false, false, false, false, false, false, false, false, false, false] rfl rfl (any_of HT_.out (by kernel_rfl)) (fun _ _ _ h => h) (Or.inl ⟨by rfl, ?_⟩) ?_ ?_
                        rotate_left
                        ·intro w'
                         go_simp
                         with_reducible rfl
                        rotate_left
                        ·simp only [Act.put, List.setIfInBounds_toArray, List.set_cons_zero, List.set_cons_succ, i64_w, i32_w]
                         rfl
                        refine pure_ (i := 29) (N := some 217) (v := ?_) (a' := ?_) #[true, true, true, true, true, true, true, true, true, true, true, true, true, true, true, true, true, true, true, true, true, true, true, true, true, true, true, false, true, true, false, false, false, false, false, false, false, false, false, false, false, false, false, false, false, false, false] rfl rfl (any_of HT_.out (by kernel_rfl)) (fun _ _ _ h => h) (Or.inl ⟨by rfl, ?_⟩) ?_ ?_
                        rotate_left
                        ·intro w'
                         go_simp
                         with_reducible rfl
                        rotate_left
                        ·simp only [Act.put, List.setIfInBounds_toArray, List.set_cons_zero, List.set_cons_succ, i64_w, i32_w]
                         rfl
                        refine pure_ (i := 30) (N := some 218) (v := ?_) (a' := ?_) #[true, true, true, true, true, true, true, true, true, true, true, true, true, true, true, true, true, true, true, true, true, true, true, true, true, true, true, false, true, true, true, false, false, false, false, false, false, false, false, false, false, false, false, false, false, false, false] rfl rfl (any_of HT_.out (by kernel_rfl)) (fun _ _ _ h => h) (Or.inl ⟨by rfl, ?_⟩) ?_ ?_
                        rotate_left
                        ·intro w'
                         go_simp
                         with_reducible rfl
                        rotate_left
                        ·simp only [Act.put, List.setIfInBounds_toArray, List.set_cons_zero, List.set_cons_succ, i64_w, i32_w]
                         rfl
                        refine pure_ (i := 31) (N := some 219) (v := ?_) (a' := ?_) #[true, true, true, true, true, true, true, true, true, true, true, true, true, true, true, true, true, true, true, true, true, true, true, true, true, true, true, false, true, true, true, true, false, false, false, false, false, false, false, false, false, false, false, false, false, false, false] rfl rfl (any_of HT_.out (by kernel_rfl)) (fun _ _ _ h => h) (Or.inl ⟨by rfl, ?_⟩) ?_ ?_
                        rotate_left
                        ·intro w'
                         go_simp
                         with_reducible rfl
                        rotate_left
                        ·simp only [Act.put, List.setIfInBounds_toArray, List.set_cons_zero, List.set_cons_succ, i64_w, i32_w]
                         rfl
                        refine pure_ (i := 34) (N := some 222) (v := ?_) (a' := ?_) #[true, true, true, true, true, true, true, true, true, true, true, true, true, true, true, true, true, true, true, true, true, true, true, true, true, true, true, false, true, true, true, true, false, false, true, false, false, false, false, false, false, false, false, false, false, false, false] rfl rfl (any_of HT_.out (by kernel_rfl)) (fun _ _ _ h => h) (Or.inl ⟨by rfl, ?_⟩) ?_ ?_
                        rotate_left
                        ·intro w'
                         go_simp
                         with_reducible rfl
                        rotate_left
                        ·simp only [Act.put, List.setIfInBounds_toArray, List.set_cons_zero, List.set_cons_succ, i64_w, i32_w]
                         rfl
                        refine pure_ (i := 35) (N := some 223) (v := ?_) (a' := ?_) #[true, true, true, true, true, true, true, true, true, true, true, true, true, true, true, true, true, true, true, true, true, true, true, true, true, true, true, false, true, true, true, true, false, false, true, true, false, false, false, false, false, false, false, false, false, false, false] rfl rfl (any_of HT_.out (by kernel_rfl)) (fun _ _ _ h => h) (Or.inl ⟨by rfl, ?_⟩) ?_ ?_
                        rotate_left
                        ·intro w'
                         go_simp
                         with_reducible rfl
                        rotate_left
                        ·simp only [Act.put, List.setIfInBounds_toArray, List.set_cons_zero, List.set_cons_succ, i64_w, i32_w]
                         rfl
                        refine pure_ (i := 36) (N := some 224) (v := ?_) (a' := ?_) #[true, true, true, true, true, true, true, true, true, true, true, true, true, true, true, true, true, true, true, true, true, true, true, true, true, true, true, false, true, true, true, true, false, false, true, true, true, false, false, false, false, false, false, false, false, false, false] rfl rfl (any_of HT_.out (by kernel_rfl)) (fun _ _ _ h => h) (Or.inl ⟨by rfl, ?_⟩) ?_ ?_
                        rotate_left
                        ·intro w'
                         go_simp
                         with_reducible rfl
                        rotate_left
                        ·simp only [Act.put, List.setIfInBounds_toArray, List.set_cons_zero, List.set_cons_succ, i64_w, i32_w]
                         rfl
                        refine pure_ (i := 37) (N := some 225) (v := ?_) (a' := ?_) #[true, true, true, true, true, true, true, true, true, true, true, true, true, true, true, true, true, true, true, true, true, true, true, true, true, true, true, false, true, true, true, true, false, false, true, true, true, true, false, false, false, false, false, false, false, false, false] rfl rfl (any_of HT_.out (by kernel_rfl)) (fun _ _ _ h => h) (Or.inl ⟨by rfl, ?_⟩) ?_ ?_
                        rotate_left
                        ·intro w'
                         go_simp
                         with_reducible rfl
                        rotate_left
                        ·simp only [Act.put, List.setIfInBounds_toArray, List.set_cons_zero, List.set_cons_succ, i64_w, i32_w]
                         rfl
                        refine pure_ (i := 39) (N := some 227) (v := ?_) (a' := ?_) #[true, true, true, true, true, true, true, true, true, true, true, true, true, true, true, true, true, true, true, true, true, true, true, true, true, true, true, false, true, true, true, true, false, false, true, true, true, true, false, true, false, false, false, false, false, false, false] rfl rfl (any_of HT_.out (by kernel_rfl)) (fun _ _ _ h => h) (Or.inl ⟨by rfl, ?_⟩) ?_ ?_
                        rotate_left
                        ·intro w'
                         go_simp
                         with_reducible rfl
                        rotate_left
                        ·simp only [Act.put, List.setIfInBounds_toArray, List.set_cons_zero, List.set_cons_succ, i64_w, i32_w]
                         rfl
                        refine pure_ (i := 40) (N := some 228) (v := ?_) (a' := ?_) #[true, true, true, true, true, true, true, true, true, true, true, true, true, true, true, true, true, true, true, true, true, true, true, true, true, true, true, false, true, true, true, true, false, false, true, true, true, true, false, true, true, false, false, false, false, false, false] rfl rfl (any_of HT_.out (by kernel_rfl)) (fun _ _ _ h => h) (Or.inl ⟨by rfl, ?_⟩) ?_ ?_
                        rotate_left
                        ·intro w'
                         go_simp
                         with_reducible rfl
                        rotate_left
                        ·simp only [Act.put, List.setIfInBounds_toArray, List.set_cons_zero, List.set_cons_succ, i64_w, i32_w]
                         rfl
                        refine pure_ (i := 41) (N := some 229) (v := ?_) (a' := ?_) #[true, true, true, true, true, true, true, true, true, true, true, true, true, true, true, true, true, true, true, true, true, true, true, true, true, true, true, false, true, true, true, true, false, false, true, true, true, true, false, true, true, true, false, false, false, false, false] rfl rfl (any_of HT_.out (by kernel_rfl)) (fun _ _ _ h => h) (Or.inl ⟨by rfl, ?_⟩) ?_ ?_
                        rotate_left
                        ·intro w'
                         go_simp
                         with_reducible rfl
                        rotate_left
                        ·simp only [Act.put, List.setIfInBounds_toArray, List.set_cons_zero, List.set_cons_succ, i64_w, i32_w]
                         rfl
                        refine pure_ (i := 42) (N := some 230) (v := ?_) (a' := ?_) #[true, true, true, true, true, true, true, true, true, true, true, true, true, true, true, true, true, true, true, true, true, true, true, true, true, true, true, false, true, true, true, true, false, false, true, true, true, true, false, true, true, true, true, false, false, false, false] rfl rfl (any_of HT_.out (by kernel_rfl)) (fun _ _ _ h => h) (Or.inl ⟨by rfl, ?_⟩) ?_ ?_
                        rotate_left
                        ·intro w'
                         go_simp
                         with_reducible rfl
                        rotate_left
                        ·simp only [Act.put, List.setIfInBounds_toArray, List.set_cons_zero, List.set_cons_succ, i64_w, i32_w]
                         rfl
                        refine take_ (i := 27) (N := some 215) (v := ?_) (a' := ?_) #[true, true, true, true, true, true, true, true, true, true, true, true, true, true, true, true, true, true, true, true, true, true, true, true, true, true, true, true, true, true, true, true, false, false, true, true, true, true, false, true, true, true, true, false, false, false, false] rfl rfl (take_ofW HT_.out HW_.out (by kernel_rfl)) (fun _ _ _ h => h) (Or.inl ⟨by rfl, ?_⟩) hHeld ?_ ?_
                        rotate_left
                        ·rintro w' ⟨s0, s1, s2, s3, s4, s5, s6, s7, s8, s9, s10, s11, s12, s13⟩
                         go_simp
                         with_reducible rfl
                        rotate_left
                        ·simp only [Act.put, List.setIfInBounds_toArray, List.set_cons_zero, List.set_cons_succ, i64_w, i32_w]
                         rfl
                        refine take_ (i := 32) (N := some 220) (v := ?_) (a' := ?_) #[true, true, true, true, true, true, true, true, true, true, true, true, true, true, true, true, true, true, true, true, true, true, true, true, true, true, true, true, true, true, true, true, true, false, true, true, true, true, false, true, true, true, true, false, false, false, false] rfl rfl (take_ofW HT_.out HW_.out (by kernel_rfl)) (fun _ _ _ h => h) (Or.inl ⟨by rfl, ?_⟩) hHeld ?_ ?_
                        rotate_left
                        ·rintro w' ⟨s0, s1, s2, s3, s4, s5, s6, s7, s8, s9, s10, s11, s12, s13⟩
                         go_simp
                         with_reducible rfl
                        rotate_left
                        ·simp only [Act.put, List.setIfInBounds_toArray, List.set_cons_zero, List.set_cons_succ, i64_w, i32_w]
                         rfl
                        refine pure_ (i := 33) (N := some 221) (v := ?_) (a' := ?_) #[true, true, true, true, true, true, true, true, true, true, true, true, true, true, true, true, true, true, true, true, true, true, true, true, true, true, true, true, true, true, true, true, true, true, true, true, true, true, false, true, true, true, true, false, false, false, false] rfl rfl (any_of HT_.out (by kernel_rfl)) (fun _ _ _ h => h) (Or.inl ⟨by rfl, ?_⟩) ?_ ?_
                        rotate_left
                        ·intro w'
                         go_simp
                         with_reducible rfl
                        rotate_left
                        ·simp only [Act.put, List.setIfInBounds_toArray, List.set_cons_zero, List.set_cons_succ, i64_w, i32_w]
                         rfl
                        refine take_ (i := 38) (N := some 226) (v := ?_) (a' := ?_) #[true, true, true, true, true, true, true, true, true, true, true, true, true, true, true, true, true, true, true, true, true, true, true, true, true, true, true, true, true, true, true, true, true, true, true, true, true, true, true, true, true, true, true, false, false, false, false] rfl rfl (take_ofW HT_.out HW_.out (by kernel_rfl)) (fun _ _ _ h => h) (Or.inl ⟨by rfl, ?_⟩) hHeld ?_ ?_
                        rotate_left
                        ·rintro w' ⟨s0, s1, s2, s3, s4, s5, s6, s7, s8, s9, s10, s11, s12, s13⟩
                         go_simp
                         with_reducible rfl
                        rotate_left
                        ·simp only [Act.put, List.setIfInBounds_toArray, List.set_cons_zero, List.set_cons_succ, i64_w, i32_w]
                         rfl
                        refine take_ (i := 43) (N := some 231) (v := ?_) (a' := ?_) #[true, true, true, true, true, true, true, true, true, true, true, true, true, true, true, true, true, true, true, true, true, true, true, true, true, true, true, true, true, true, true, true, true, true, true, true, true, true, true, true, true, true, true, true, false, false, false] rfl rfl (take_ofW HT_.out HW_.out (by kernel_rfl)) (fun _ _ _ h => h) (Or.inl ⟨by rfl, ?_⟩) hHeld ?_ ?_
                        rotate_left
                        ·rintro w' ⟨s0, s1, s2, s3, s4, s5, s6, s7, s8, s9, s10, s11, s12, s13⟩
                         go_simp
                         with_reducible rfl
                        rotate_left
                        ·simp only [Act.put, List.setIfInBounds_toArray, List.set_cons_zero, List.set_cons_succ, i64_w, i32_w]
                         rfl
                        refine pure_ (i := 44) (N := some 232) (v := ?_) (a' := ?_) #[true, true, true, true, true, true, true, true, true, true, true, true, true, true, true, true, true, true, true, true, true, true, true, true, true, true, true, true, true, true, true, true, true, true, true, true, true, true, true, true, true, true, true, true, true, false, false] rfl rfl (any_of HT_.out (by kernel_rfl)) (fun _ _ _ h => h) (Or.inl ⟨by rfl, ?_⟩) ?_ ?_
                        rotate_left
                        ·intro w'
                         go_simp
                         with_reducible rfl
                        rotate_left
                        ·simp only [Act.put, List.setIfInBounds_toArray, List.set_cons_zero, List.set_cons_succ, i64_w, i32_w]
                         rfl
                        refine pure_ (i := 45) (N := some 233) (v := ?_) (a' := ?_) #[true, true, true, true, true, true, true, true, true, true, true, true, true, true, true, true, true, true, true, true, true, true, true, true, true, true, true, true, true, true, true, true, true, true, true, true, true, true, true, true, true, true, true, true, true, true, false] rfl rfl (any_of HT_.out (by kernel_rfl)) (fun _ _ _ h => h) (Or.inl ⟨by rfl, ?_⟩) ?_ ?_
                        rotate_left
                        ·intro w'
                         go_simp
                         with_reducible rfl
                        rotate_left
                        ·simp only [Act.put, List.setIfInBounds_toArray, List.set_cons_zero, List.set_cons_succ, i64_w, i32_w]
                         rfl
                        refine pure_ (i := 46) (N := some 234) (v := ?_) (a' := ?_) #[true, true, true, true, true, true, true, true, true, true, true, true, true, true, true, true, true, true, true, true, true, true, true, true, true, true, true, true, true, true, true, true, true, true, true, true, true, true, true, true, true, true, true, true, true, true, true] rfl rfl (any_of HT_.out (by kernel_rfl)) (fun _ _ _ h => h) (Or.inl ⟨by rfl, ?_⟩) ?_ ?_
                        rotate_left
                        ·intro w'
                         go_simp
                         with_reducible rfl
                        rotate_left
                        ·simp only [Act.put, List.setIfInBounds_toArray, List.set_cons_zero, List.set_cons_succ, i64_w, i32_w]
                         rfl
                        refine done_ (done_of HT_.out (by kernel_rfl)) ?_
                        try go_wp2
                        go_roundg k5
                        case measure => have := HJ4.out; have := HJ17.out; have := HJ36.out; have := HJ136.out; have := HK5.out; omega
                        case rel => exact ⟨(wrap64 (x17_5 + 1)), (by first | rfl | (simp; done) | (simp [*]; done)), H', ⟨by have := HJ4.out; have := HJ17.out; have := HJ36.out; have := HJ136.out; have := HK5.out; omega⟩, ⟨by (with_reducible repeat (first | apply Kd.R_alloc | apply Kd.R_drewN | apply Kd.R_drew)); exact HO_12.out⟩, ⟨by (with_reducible repeat (first | apply Kd.R_alloc | apply Kd.R_drewN | apply Kd.R_drew)); exact HO_13.out⟩, ⟨by (with_reducible repeat (first | refine blk_drewN ?_ _ | refine blk_drew ?_ | refine blk_alloc ?_ _)); exact BK160.out⟩, ⟨by (with_reducible repeat (first | refine blk_drewN ?_ _ | refine blk_drew ?_ | refine blk_alloc ?_ _)); exact BK161.out⟩, ⟨by (with_reducible repeat (first | refine blk_drewN ?_ _ | refine blk_drew ?_ | refine blk_alloc ?_ _)); exact BK165.out⟩, ⟨by repeat (first | (with_reducible first | exact HB.out | apply below_alloc | apply pw_below_drewN | apply below_drew1 | refine below_set ?_ GE160.out | refine below_set ?_ GE161.out | refine below_set ?_ GE165.out) | exact HB.out)⟩⟩
                      ·rw [if_neg c155] at H
                       exact absurd H (by simp)
                  ·rw [if_neg c145] at H
                   exact absurd H (by simp)
                 ·rw [if_neg c144] at H
                  have c144b0 : decide (x17_5 < (t178.length : Int)) = false := decide_eq_false c144
                  clear c144
                  have H' := Aside0.mk H
                  clear H
                  obtain ⟨Ao163, co163, eo163⟩ := Kd.R_slice HO_13.out
                  subst eo163
                  go_wp2
                  go_meet
                  case rel => exact ⟨_, H', ⟨by have := HJ4.out; have := HJ17.out; have := HJ36.out; have := HJ136.out; have := HK5.out; first | omega | exact Nat.le_refl _⟩, ⟨by (with_reducible repeat (first | refine blk_drewN ?_ _ | refine blk_drew ?_ | refine blk_alloc ?_ _)); exact BK160.out⟩, ⟨by (with_reducible repeat (first | refine blk_drewN ?_ _ | refine blk_drew ?_ | refine blk_alloc ?_ _)); exact BK161.out⟩, ⟨by (with_reducible repeat (first | refine blk_drewN ?_ _ | refine blk_drew ?_ | refine blk_alloc ?_ _)); exact BK165.out⟩, ⟨by repeat (first | (with_reducible first | exact HB.out | apply below_alloc | apply pw_below_drewN | apply below_drew1 | refine below_set ?_ GE160.out | refine below_set ?_ GE161.out | refine below_set ?_ GE165.out) | exact HB.out)⟩⟩
           ·rw [if_neg c136] at H
            have c136b0 : (t179 == 0) = false := beq_eq_false_iff_ne.mpr c136
            have c136b1 : (t179 != 0) = true := bne_iff_ne.mpr c136
            (first | rw [c136b0] | (simp only [i64_w, i32_w]; rw [c136b0]) | skip)
            have H' := Aside0.mk H
            clear H
            go_wp2
            go_meet
            case rel => exact ⟨_, H', ⟨by have := HJ4.out; have := HJ17.out; have := HJ36.out; first | omega | exact Nat.le_refl _⟩, ⟨by (with_reducible repeat (first | refine blk_drewN ?_ _ | refine blk_drew ?_ | refine blk_alloc ?_ _)); exact BK160.out⟩, ⟨by (with_reducible repeat (first | refine blk_drewN ?_ _ | refine blk_drew ?_ | refine blk_alloc ?_ _)); exact BK161.out⟩, ⟨by (with_reducible repeat (first | refine blk_drewN ?_ _ | refine blk_drew ?_ | refine blk_alloc ?_ _)); exact BK165.out⟩, ⟨by repeat (first | (with_reducible first | exact HB.out | apply below_alloc | apply pw_below_drewN | apply below_drew1 | refine below_set ?_ GE160.out | refine below_set ?_ GE161.out | refine below_set ?_ GE165.out) | exact HB.out)⟩⟩
          case rest =>
           as_aux_lemma =>
           clear HC135
           obtain ⟨kq, HA, HJ134, BK160, BK161, BK165, HB⟩ := hcut
           cases kq with
           | zero => exact absurd HA.out (by simp [verditertop_topWash.j8])
           | succ kj134 =>
            have H := HA.out
            clear HA
            simp only [verditertop_topWash.j8] at H
            replace H := Option.bind_eq_some_iff.mp H
            obtain ⟨⟨t202, t203⟩, A1640, H⟩ := H
            replace H : ((wash_Moves.f l0_0 l0_1).bind fun bt204 => ((wash_Work.f kj134 l0_0 l0_1).bind fun bt209 => (if t203 = bt204.2.2 then (if bt204.2.2 = bt209.2.2 then (if (bt204.2.1 != t202) = true then (verditertop_topWash.j9 kj134 t202 bt204.1 bt209.1 true l0_0 l0_1 l0_2) else (verditertop_topWash.j9 kj134 t202 bt204.1 bt209.1 (bt209.2.1 != t202) l0_0 l0_1 l0_2)) else (verditertop_topWash.j9 kj134 t202 bt204.1 bt209.1 true l0_0 l0_1 l0_2)) else (verditertop_topWash.j9 kj134 t202 bt204.1 bt209.1 true l0_0 l0_1 l0_2)))) = some r := H
            have A164 := Aside0.mk A1640
            clear A1640
            replace H := Option.bind_eq_some_iff.mp H
            obtain ⟨⟨t204, t205, t206⟩, A1650, H⟩ := H
            replace H : ((wash_Work.f kj134 l0_0 l0_1).bind fun bt209 => (if t203 = t206 then (if t206 = bt209.2.2 then (if (t205 != t202) = true then (verditertop_topWash.j9 kj134 t202 t204 bt209.1 true l0_0 l0_1 l0_2) else (verditertop_topWash.j9 kj134 t202 t204 bt209.1 (bt209.2.1 != t202) l0_0 l0_1 l0_2)) else (verditertop_topWash.j9 kj134 t202 t204 bt209.1 true l0_0 l0_1 l0_2)) else (verditertop_topWash.j9 kj134 t202 t204 bt209.1 true l0_0 l0_1 l0_2))) = some r := H
            have A165 := Aside0.mk A1650
            clear A1650
            replace H := Option.bind_eq_some_iff.mp H
            obtain ⟨⟨t209, t210, t211⟩, A1660, H⟩ := H
            replace H : (if t203 = t206 then (if t206 = t211 then (if (t205 != t202) = true then (verditertop_topWash.j9 kj134 t202 t204 t209 true l0_0 l0_1 l0_2) else (verditertop_topWash.j9 kj134 t202 t204 t209 (t210 != t202) l0_0 l0_1 l0_2)) else (verditertop_topWash.j9 kj134 t202 t204 t209 true l0_0 l0_1 l0_2)) else (verditertop_topWash.j9 kj134 t202 t204 t209 true l0_0 l0_1 l0_2)) = some r := H
            have A166 := Aside0.mk A1660
            clear A1660
            have HC167 := Aside0.mk H
            clear H
            have hnb168 := NB160_161.out
            have hnc168 := NB161_160.out
            have hnb169 := NB160_165.out
            have hnc169 := NB165_160.out
            have hcz170_0 : wc.cell? ⟨gb160, 0, none⟩ = some (.slice A0_0 l0_0.length c0_0) := (blk_cell BK160.out 0).trans rfl
            have hcz170_1 : wc.cell? ⟨gb160, 1, none⟩ = some (.slice A0_1 l0_1.length c0_1) := (blk_cell BK160.out 1).trans rfl
            have hcz170_2 : wc.cell? ⟨gb160, 2, none⟩ = some (.slice A0_2 l0_2.length c0_2) := (blk_cell BK160.out 2).trans rfl
            have hfz170_0 := blk_frozen BK160.out 0
            have hfz170_1 := blk_frozen BK160.out 1
            have hfz170_2 := blk_frozen BK160.out 2
            go_upto_region 34 with (first | ((with_reducible refine gate_callee (f := 17) rfl ?_); refine goesL_ (some 240) rfl rfl Try.func17 (by kernel_rfl) rfl #[.slice A0_0 l0_0.length c0_0, .slice A0_1 l0_1.length c0_1] rfl (by (try simp only [List.map_toArray, List.map_cons, List.map_nil]); first | done | rfl | (simp only [List.length_drop, List.length_take]; rfl)) ?_; (with_reducible refine (wash_IsFiner.calls kj134 _ _ l0_0 _ _ l0_1 t202 t203 _ ?side1 ?side2 ?side3 ?side4 A164.out).mono ?_); (case side1 => repeat (first | exact (Kd.C_below HR0_0.out HB.out) | (with_reducible refine Kd.C_alloc ?_ _) | (with_reducible refine Kd.C_drewN ?_ _) | (with_reducible refine Kd.C_drew ?_))); (case side2 => exact HC0_0.out); (case side3 => repeat (first | exact (Kd.C_below HR0_1.out HB.out) | (with_reducible refine Kd.C_alloc ?_ _) | (with_reducible refine Kd.C_drewN ?_ _) | (with_reducible refine Kd.C_drew ?_))); (case side4 => exact HC0_1.out); rintro e w171 ⟨rfl, hb⟩; refine ⟨_, rfl, ?_⟩; have n0_ := Aside0.mk (blk_below (g := gb160) (o := .cells #[.slice A0_0 l0_0.length c0_0, .slice A0_1 l0_1.length c0_1, .slice A0_2 l0_2.length c0_2] 25 (0, 0)) (by (with_reducible repeat (first | refine blk_drewN ?_ _ | refine blk_drew ?_ | refine blk_alloc ?_ _)); exact BK160.out) hb); have n1_ := Aside0.mk (blk_below (g := gb161) (o := .cells #[.int .i64 a1_0, .int .i64 a1_1] 27 (0, 0)) (by (with_reducible repeat (first | refine blk_drewN ?_ _ | refine blk_drew ?_ | refine blk_alloc ?_ _)); exact BK161.out) hb); have n2_ := Aside0.mk (blk_below (g := gb165) (o := .cells #[.int .i64 t162, .int .i64 t163] 34 (0, 0)) (by (with_reducible repeat (first | refine blk_drewN ?_ _ | refine blk_drew ?_ | refine blk_alloc ?_ _)); exact BK165.out) hb); have n3_ := Aside0.mk (below_step (by repeat (first | (with_reducible first | exact HB.out | apply below_alloc | apply pw_below_drewN | apply below_drew1 | refine below_set ?_ GE160.out | refine below_set ?_ GE161.out | refine below_set ?_ GE165.out) | exact HB.out)) hb); clear BK160; clear BK161; clear BK165; clear HB; have BK160 := n0_; have BK161 := n1_; have BK165 := n2_; have HB := n3_; clear n0_ n1_ n2_ n3_; (try clear hb); (try clear hb2); (try clear hk); (try clear hi); have hcz172_0 : w171.cell? ⟨gb160, 0, none⟩ = some (.slice A0_0 l0_0.length c0_0) := (blk_cell BK160.out 0).trans rfl; have hcz172_1 : w171.cell? ⟨gb160, 1, none⟩ = some (.slice A0_1 l0_1.length c0_1) := (blk_cell BK160.out 1).trans rfl; have hcz172_2 : w171.cell? ⟨gb160, 2, none⟩ = some (.slice A0_2 l0_2.length c0_2) := (blk_cell BK160.out 2).trans rfl; have hfz172_0 := blk_frozen BK160.out 0; have hfz172_1 := blk_frozen BK160.out 1; have hfz172_2 := blk_frozen BK160.out 2) | ((with_reducible refine gate_callee (f := 18) rfl ?_); refine goesL_ (some 248) rfl rfl Try.func18 (by kernel_rfl) rfl #[.slice A0_0 l0_0.length c0_0, .slice A0_1 l0_1.length c0_1] rfl (by (try simp only [List.map_toArray, List.map_cons, List.map_nil]); first | done | rfl | (simp only [List.length_drop, List.length_take]; rfl)) ?_; (with_reducible refine (wash_Moves.calls _ _ l0_0 _ _ l0_1 t204 t205 t206 _ ?side1 ?side2 ?side3 ?side4 A165.out).mono ?_); (case side1 => repeat (first | exact (Kd.C_below HR0_0.out HB.out) | (with_reducible refine Kd.C_alloc ?_ _) | (with_reducible refine Kd.C_drewN ?_ _) | (with_reducible refine Kd.C_drew ?_))); (case side2 => exact HC0_0.out); (case side3 => repeat (first | exact (Kd.C_below HR0_1.out HB.out) | (with_reducible refine Kd.C_alloc ?_ _) | (with_reducible refine Kd.C_drewN ?_ _) | (with_reducible refine Kd.C_drew ?_))); (case side4 => exact HC0_1.out); rintro e w173 ⟨v207, rfl, ho0, hb⟩; refine ⟨_, rfl, ?_⟩; have n0_ := Aside0.mk (Kd.R_lower ho0 (below_size (by repeat (first | (with_reducible first | exact HB.out | apply below_alloc | apply pw_below_drewN | apply below_drew1 | refine below_set ?_ GE160.out | refine below_set ?_ GE161.out | refine below_set ?_ GE165.out) | exact HB.out)))); have n1_ := Aside0.mk (blk_below (g := gb160) (o := .cells #[.slice A0_0 l0_0.length c0_0, .slice A0_1 l0_1.length c0_1, .slice A0_2 l0_2.length c0_2] 25 (0, 0)) (by (with_reducible repeat (first | refine blk_drewN ?_ _ | refine blk_drew ?_ | refine blk_alloc ?_ _)); exact BK160.out) hb); have n2_ := Aside0.mk (blk_below (g := gb161) (o := .cells #[.int .i64 a1_0, .int .i64 a1_1] 27 (0, 0)) (by (with_reducible repeat (first | refine blk_drewN ?_ _ | refine blk_drew ?_ | refine blk_alloc ?_ _)); exact BK161.out) hb); have n3_ := Aside0.mk (blk_below (g := gb165) (o := .cells #[.int .i64 t162, .int .i64 t163] 34 (0, 0)) (by (with_reducible repeat (first | refine blk_drewN ?_ _ | refine blk_drew ?_ | refine blk_alloc ?_ _)); exact BK165.out) hb); have n4_ := Aside0.mk (below_step (by repeat (first | (with_reducible first | exact HB.out | apply below_alloc | apply pw_below_drewN | apply below_drew1 | refine below_set ?_ GE160.out | refine below_set ?_ GE161.out | refine below_set ?_ GE165.out) | exact HB.out)) hb); clear BK160; clear BK161; clear BK165; clear HB; have HO208 := n0_; have BK160 := n1_; have BK161 := n2_; have BK165 := n3_; have HB := n4_; clear n0_ n1_ n2_ n3_ n4_; (try clear hb); (try clear hb2); (try clear hk); (try clear hi); (try clear ho0); have hcz174_0 : w173.cell? ⟨gb160, 0, none⟩ = some (.slice A0_0 l0_0.length c0_0) := (blk_cell BK160.out 0).trans rfl; have hcz174_1 : w173.cell? ⟨gb160, 1, none⟩ = some (.slice A0_1 l0_1.length c0_1) := (blk_cell BK160.out 1).trans rfl; have hcz174_2 : w173.cell? ⟨gb160, 2, none⟩ = some (.slice A0_2 l0_2.length c0_2) := (blk_cell BK160.out 2).trans rfl; have hfz174_0 := blk_frozen BK160.out 0; have hfz174_1 := blk_frozen BK160.out 1; have hfz174_2 := blk_frozen BK160.out 2) | ((with_reducible refine gate_callee (f := 19) rfl ?_); refine goesL_ (some 257) rfl rfl Try.func19 (by kernel_rfl) rfl #[.slice A0_0 l0_0.length c0_0, .slice A0_1 l0_1.length c0_1] rfl (by (try simp only [List.map_toArray, List.map_cons, List.map_nil]); first | done | rfl | (simp only [List.length_drop, List.length_take]; rfl)) ?_; (with_reducible refine (wash_Work.calls kj134 _ _ l0_0 _ _ l0_1 t209 t210 t211 _ ?side1 ?side2 ?side3 ?side4 A166.out).mono ?_); (case side1 => repeat (first | exact (Kd.C_below HR0_0.out HB.out) | (with_reducible refine Kd.C_alloc ?_ _) | (with_reducible refine Kd.C_drewN ?_ _) | (with_reducible refine Kd.C_drew ?_))); (case side2 => exact HC0_0.out); (case side3 => repeat (first | exact (Kd.C_below HR0_1.out HB.out) | (with_reducible refine Kd.C_alloc ?_ _) | (with_reducible refine Kd.C_drewN ?_ _) | (with_reducible refine Kd.C_drew ?_))); (case side4 => exact HC0_1.out); rintro e w175 ⟨rfl, hb⟩; refine ⟨_, rfl, ?_⟩; have n0_ := Aside0.mk (Kd.R_below (by (with_reducible repeat (first | apply Kd.R_alloc | apply Kd.R_drewN | apply Kd.R_drew)); exact HO208.out) hb); have n1_ := Aside0.mk (blk_below (g := gb160) (o := .cells #[.slice A0_0 l0_0.length c0_0, .slice A0_1 l0_1.length c0_1, .slice A0_2 l0_2.length c0_2] 25 (0, 0)) (by (with_reducible repeat (first | refine blk_drewN ?_ _ | refine blk_drew ?_ | refine blk_alloc ?_ _)); exact BK160.out) hb); have n2_ := Aside0.mk (blk_below (g := gb161) (o := .cells #[.int .i64 a1_0, .int .i64 a1_1] 27 (0, 0)) (by (with_reducible repeat (first | refine blk_drewN ?_ _ | refine blk_drew ?_ | refine blk_alloc ?_ _)); exact BK161.out) hb); have n3_ := Aside0.mk (blk_below (g := gb165) (o := .cells #[.int .i64 t162, .int .i64 t163] 34 (0, 0)) (by (with_reducible repeat (first | refine blk_drewN ?_ _ | refine blk_drew ?_ | refine blk_alloc ?_ _)); exact BK165.out) hb); have n4_ := Aside0.mk (below_step (by repeat (first | (with_reducible first | exact HB.out | apply below_alloc | apply pw_below_drewN | apply below_drew1 | refine below_set ?_ GE160.out | refine below_set ?_ GE161.out | refine below_set ?_ GE165.out) | exact HB.out)) hb); clear HO208; clear BK160; clear BK161; clear BK165; clear HB; have HO208 := n0_; have BK160 := n1_; have BK161 := n2_; have BK165 := n3_; have HB := n4_; clear n0_ n1_ n2_ n3_ n4_; (try clear hb); (try clear hb2); (try clear hk); (try clear hi)))
            (try simp only [Act.put, List.setIfInBounds_toArray, List.set_cons_zero, List.set_cons_succ])
            go_cut [278] (fun v278 wc => ∃ (kq : Nat) (x278_166 : Bool), v278 = .bool x278_166 ∧ Aside0 (verditertop_topWash.j9 kq t202 t204 t209 x278_166 l0_0 l0_1 l0_2 = some r) ∧ Aside0 (kq ≤ kj134) ∧ Aside0 (Kd.R k56 56 wc w.heap.size (fun _ => True) v207 t204) ∧ Aside0 (wc.heap[gb160]? = some (.cells #[(.slice A0_0 l0_0.length c0_0), (.slice A0_1 l0_1.length c0_1), (.slice A0_2 l0_2.length c0_2)] 25 (0, 0))) ∧ Aside0 (wc.heap[gb161]? = some (.cells #[.int .i64 a1_0, .int .i64 a1_1] 27 (0, 0))) ∧ Aside0 (wc.heap[gb165]? = some (.cells #[.int .i64 t162, .int .i64 t163] 34 (0, 0))) ∧ Aside0 (Below w.heap.size w wc))
            case first =>
             as_aux_lemma =>
             have H := HC167.out
             clear HC167
             by_cases c176 : t203 = t206
             ·rw [if_pos c176] at H
              have c176b0 : (t203 == t206) = true := beq_iff_eq.mpr c176
              have c176b1 : (t203 != t206) = false := bne_eq_false_iff_eq.mpr c176
              clear c176
              (first | rw [c176b0] | (simp only [i64_w, i32_w]; rw [c176b0]) | skip)
              by_cases c177 : t206 = t211
              ·rw [if_pos c177] at H
               have c177b0 : (t206 == t211) = true := beq_iff_eq.mpr c177
               have c177b1 : (t206 != t211) = false := bne_eq_false_iff_eq.mpr c177
               clear c177
               by_cases c178 : (t205 != t202) = true
               ·rw [if_pos c178] at H
                have c178b0 : (t205 != t202) = true := c178
                (try (have c178b1 : decide (t205 = t202) = false := by simpa using c178))
                (try (have c178b2 : (t205 == t202) = false := by simpa using c178))
                (try (have c178b3 : ¬ (t205 = t202) := by simpa using c178))
                clear c178
                exact absurd (show r = false by first | exact no_j0 H | exact no_j9 H | exact no_j6 H | exact no_j2 H | exact no_j4 H) (by rw [HRT.out]; decide)
               ·rw [if_neg c178] at H
                have c178b0 : (t205 != t202) = false := by simpa using c178
                (try (have c178b1 : decide (t205 = t202) = true := by simpa using c178))
                (try (have c178b2 : (t205 == t202) = true := by simpa using c178))
                clear c178
                have H' := Aside0.mk H
                clear H
                go_wp2
                go_meet
                case rel => exact ⟨_, ((t210 != t202)), (by first | rfl | (simp; done) | (simp [*]; done)), H', ⟨by have := HJ4.out; have := HJ17.out; have := HJ36.out; have := HJ134.out; first | omega | exact Nat.le_refl _⟩, ⟨by (with_reducible repeat (first | apply Kd.R_alloc | apply Kd.R_drewN | apply Kd.R_drew)); exact HO208.out⟩, ⟨by (with_reducible repeat (first | refine blk_drewN ?_ _ | refine blk_drew ?_ | refine blk_alloc ?_ _)); exact BK160.out⟩, ⟨by (with_reducible repeat (first | refine blk_drewN ?_ _ | refine blk_drew ?_ | refine blk_alloc ?_ _)); exact BK161.out⟩, ⟨by (with_reducible repeat (first | refine blk_drewN ?_ _ | refine blk_drew ?_ | refine blk_alloc ?_ _)); exact BK165.out⟩, ⟨by repeat (first | (with_reducible first | exact HB.out | apply below_alloc | apply pw_below_drewN | apply below_drew1 | refine below_set ?_ GE160.out | refine below_set ?_ GE161.out | refine below_set ?_ GE165.out) | exact HB.out)⟩⟩
              ·rw [if_neg c177] at H
               have c177b0 : (t206 == t211) = false := beq_eq_false_iff_ne.mpr c177
               have c177b1 : (t206 != t211) = true := bne_iff_ne.mpr c177
               exact absurd (show r = false by first | exact no_j0 H | exact no_j9 H | exact no_j6 H | exact no_j2 H | exact no_j4 H) (by rw [HRT.out]; decide)
             ·rw [if_neg c176] at H
              have c176b0 : (t203 == t206) = false := beq_eq_false_iff_ne.mpr c176
              have c176b1 : (t203 != t206) = true := bne_iff_ne.mpr c176
              (first | rw [c176b0] | (simp only [i64_w, i32_w]; rw [c176b0]) | skip)
              exact absurd (show r = false by first | exact no_j0 H | exact no_j9 H | exact no_j6 H | exact no_j2 H | exact no_j4 H) (by rw [HRT.out]; decide)
            case rest =>
             as_aux_lemma =>
             clear HC167 hcz170_0 hcz170_1 hcz170_2 hcz172_0 hcz172_1 hcz172_2 hcz174_0 hcz174_1 hcz174_2 hfz170_0 hfz170_1 hfz170_2 hfz172_0 hfz172_1 hfz172_2 hfz174_0 hfz174_1 hfz174_2
             obtain ⟨kq, x278_166, rfl, HA, HJ166, HO_19, BK160, BK161, BK165, HB⟩ := hcut
             cases kq with
             | zero => exact absurd HA.out (by simp [verditertop_topWash.j9])
             | succ kj166 =>
              have H := HA.out
              clear HA
              simp only [verditertop_topWash.j9] at H
              by_cases c179 : x278_166 = true
              ·subst c179
               have H1 : (some false) = some r := by rw [if_pos rfl] at H; exact H
               clear H
               have H := H1
               clear H1
               exact absurd (Option.some.inj H) (by rw [HRT.out]; decide)
              ·replace c179 := Bool.eq_false_iff.mpr c179
               subst c179
               have H1 : (if t202 = true then (verditertop_topWash.l2 kj166 t204 t209 0 0 l0_0 l0_1 l0_2) else (verditertop_topWash.j11 kj166 l0_0 l0_1 l0_2)) = some r := by rw [if_neg (show ¬ (false = true) by decide)] at H; exact H
               clear H
               have H := H1
               clear H1
               have HC180 := Aside0.mk H
               clear H
               go_upto_if 279 with (fail)
               go_cut [] (fun wc => ∃ (kq : Nat), Aside0 (verditertop_topWash.j11 kq l0_0 l0_1 l0_2 = some r) ∧ Aside0 (kq ≤ kj166) ∧ Aside0 (wc.heap[gb160]? = some (.cells #[(.slice A0_0 l0_0.length c0_0), (.slice A0_1 l0_1.length c0_1), (.slice A0_2 l0_2.length c0_2)] 25 (0, 0))) ∧ Aside0 (wc.heap[gb161]? = some (.cells #[.int .i64 a1_0, .int .i64 a1_1] 27 (0, 0))) ∧ Aside0 (wc.heap[gb165]? = some (.cells #[.int .i64 t162, .int .i64 t163] 34 (0, 0))) ∧ Aside0 (Below w.heap.size w wc))
               case first =>
                as_aux_lemma =>
                have H := HC180.out
                clear HC180
                by_cases c181 : t202 = true
                ·subst c181
                 have H1 : (verditertop_topWash.l2 kj166 t204 t209 0 0 l0_0 l0_1 l0_2) = some r := by rw [if_pos rfl] at H; exact H
                 clear H
                 have H := H1
                 clear H1
                 have H' := Aside0.mk H
                 clear H
                 go_wp2
                 go_loopg [24, 25] kj166 (fun kq v24 v25 w' => ∃ (x24_6 : Int) (x25_6 : Int), v24 = .int .i64 x24_6 ∧ v25 = .int .i64 x25_6 ∧ Aside0 (verditertop_topWash.l2 kq t204 t209 x24_6 x25_6 l0_0 l0_1 l0_2 = some r) ∧ Aside0 (kq ≤ kj166) ∧ Aside0 (Kd.R k56 56 w' w.heap.size (fun _ => True) v207 t204) ∧ Aside0 (w'.heap[gb160]? = some (.cells #[(.slice A0_0 l0_0.length c0_0), (.slice A0_1 l0_1.length c0_1), (.slice A0_2 l0_2.length c0_2)] 25 (0, 0))) ∧ Aside0 (w'.heap[gb161]? = some (.cells #[.int .i64 a1_0, .int .i64 a1_1] 27 (0, 0))) ∧ Aside0 (w'.heap[gb165]? = some (.cells #[.int .i64 t162, .int .i64 t163] 34 (0, 0))) ∧ Aside0 (Below w.heap.size w w'))
                 case atStart => exact ⟨(0), (0), (by first | rfl | (simp; done) | (simp [*]; done)), (by first | rfl | (simp; done) | (simp [*]; done)), H', ⟨Nat.le_refl _⟩, ⟨by (with_reducible repeat (first | apply Kd.R_alloc | apply Kd.R_drewN | apply Kd.R_drew)); exact HO_19.out⟩, ⟨by (with_reducible repeat (first | refine blk_drewN ?_ _ | refine blk_drew ?_ | refine blk_alloc ?_ _)); exact BK160.out⟩, ⟨by (with_reducible repeat (first | refine blk_drewN ?_ _ | refine blk_drew ?_ | refine blk_alloc ?_ _)); exact BK161.out⟩, ⟨by (with_reducible repeat (first | refine blk_drewN ?_ _ | refine blk_drew ?_ | refine blk_alloc ?_ _)); exact BK165.out⟩, ⟨by repeat (first | (with_reducible first | exact HB.out | apply below_alloc | apply pw_below_drewN | apply below_drew1 | refine below_set ?_ GE160.out | refine below_set ?_ GE161.out | refine below_set ?_ GE165.out) | exact HB.out)⟩⟩
                 case round =>
                  as_aux_lemma =>
                  clear H'
                  obtain ⟨x24_6, x25_6, rfl, rfl, HA, HK6, HO_19, BK160, BK161, BK165, HB⟩ := hrel
                  cases gk with
                  | zero => exact absurd HA.out (by simp [verditertop_topWash.l2])
                  | succ k6 =>
                   have H := HA.out
                   clear HA
                   simp only [verditertop_topWash.l2] at H
                   by_cases c182 : x25_6 < (t204.length : Int)
                   ·rw [if_pos c182] at H
                    have c182b0 : decide (x25_6 < (t204.length : Int)) = true := decide_eq_true c182
                    clear c182
                    (first | rw [c182b0] | (simp only [i64_w, i32_w]; rw [c182b0]) | skip)
                    by_cases c183 : 0 ≤ x25_6
                    ·rw [if_pos c183] at H
                     have c183b0 : decide (0 ≤ x25_6) = true := decide_eq_true c183
                     clear c183
                     have H' := Aside0.mk H
                     clear H
                     obtain ⟨Ao184, co184, eo184⟩ := Kd.R_slice HO_19.out
                     subst eo184
                     try go_wp2
                     have n0_ := Aside0.mk (Kd.R_drew HO_19.out)
                     have n1_ := Aside0.mk (blk_drew BK160.out)
                     have n2_ := Aside0.mk (blk_drew BK161.out)
                     have n3_ := Aside0.mk (blk_drew BK165.out)
                     have n4_ := Aside0.mk (below_drew1 HB.out)
                     clear HO_19
                     clear BK160
                     clear BK161
                     clear BK165
                     clear HB
                     have HO_19 := n0_
                     have BK160 := n1_
                     have BK161 := n2_
                     have BK165 := n3_
                     have HB := n4_
                     clear n0_ n1_ n2_ n3_ n4_
                     have p212 : 0 ≤ (x25_6 : Int) := of_decide_eq_true (by first | (with_reducible assumption) | assumption)
                     have q212 : x25_6 < (t204.length : Int) := of_decide_eq_true (by first | (with_reducible assumption) | assumption)
                     obtain ⟨ad212, e212, hx212_0, hx212_1, hx212_2⟩ := at_T56 (Kd.R_reads' HO_19.out).2.2 x25_6 p212 q212
                     cases e212
                     replace p212 := eq_true p212
                     replace q212 := eq_true q212
                     have p213 : 0 ≤ (x25_6 : Int) := of_decide_eq_true (by first | (with_reducible assumption) | assumption)
                     have q213 : x25_6 < (t204.length : Int) := of_decide_eq_true (by first | (with_reducible assumption) | assumption)
                     obtain ⟨ad213, e213, hx213_0, hx213_1, hx213_2⟩ := at_T56 (Kd.R_reads' HO_19.out).2.2 x25_6 p213 q213
                     obtain rfl : ad212 = ad213 := (by injection e213)
                     replace p213 := eq_true p213
                     replace q213 := eq_true q213
                     have p214 : 0 ≤ (x25_6 : Int) := of_decide_eq_true (by first | (with_reducible assumption) | assumption)
                     have q214 : x25_6 < (t204.length : Int) := of_decide_eq_true (by first | (with_reducible assumption) | assumption)
                     obtain ⟨ad214, e214, hx214_0, hx214_1, hx214_2⟩ := at_T56 (Kd.R_reads' HO_19.out).2.2 x25_6 p214 q214
                     obtain rfl : ad212 = ad214 := (by injection e214)
                     replace p214 := eq_true p214
                     replace q214 := eq_true q214
                     refine start_ (n := 20) (S := fun w' => w'.cell? (ad212.add ((x25_6).toNat * 3)) = some (.int .i64 ((rd_T56 t204 x25_6).f0)) ∧ w'.cell? ⟨(ad212.add ((x25_6).toNat * 3)).block, (ad212.add ((x25_6).toNat * 3)).off + 1, none⟩ = some (.int .i64 ((rd_T56 t204 x25_6).f1)) ∧ w'.cell? ⟨(ad212.add ((x25_6).toNat * 3)).block, (ad212.add ((x25_6).toNat * 3)).off + 2, none⟩ = some (.int .i64 ((rd_T56 t204 x25_6).f2)) ∧ w'.cell? (ad212.add ((x25_6).toNat * 3)) = some (.int .i64 ((rd_T56 t204 x25_6).f0)) ∧ w'.cell? ⟨(ad212.add ((x25_6).toNat * 3)).block, (ad212.add ((x25_6).toNat * 3)).off + 1, none⟩ = some (.int .i64 ((rd_T56 t204 x25_6).f1)) ∧ w'.cell? ⟨(ad212.add ((x25_6).toNat * 3)).block, (ad212.add ((x25_6).toNat * 3)).off + 2, none⟩ = some (.int .i64 ((rd_T56 t204 x25_6).f2)) ∧ w'.cell? (ad212.add ((x25_6).toNat * 3)) = some (.int .i64 ((rd_T56 t204 x25_6).f0)) ∧ w'.cell? ⟨(ad212.add ((x25_6).toNat * 3)).block, (ad212.add ((x25_6).toNat * 3)).off + 1, none⟩ = some (.int .i64 ((rd_T56 t204 x25_6).f1)) ∧ w'.cell? ⟨(ad212.add ((x25_6).toNat * 3)).block, (ad212.add ((x25_6).toNat * 3)).off + 2, none⟩ = some (.int .i64 ((rd_T56 t204 x25_6).f2))) (ds := []) #[false, false, false, false, false, false, false, false, false, false, false, false, false, false, false, false, false, false, false, false] (by kernel_rfl) rfl rfl ⟨hx212_0, hx212_1, hx212_2, hx213_0, hx213_1, hx213_2, hx214_0, hx214_1, hx214_2⟩ (fun hHeld => ?_); refine with_tabW verditertop_topWash.tab41 verditertop_topWash.bits41 (fun HT_ HW_ => ?_)
                     generalize wr.drew = w185 at HO_19 BK160 BK161 BK165 HB hx212_0 hx212_1 hx212_2 hx213_0 hx213_1 hx213_2 hx214_0 hx214_1 hx214_2 hHeld ⊢
                     refine pure_ (i := 0) (N := some 286) (v := ?_) (a' := ?_) #[true, false, false, false, false, false, false, false, false, false, false, false, false, false, false, false, false, false, false, false] rfl rfl (any_of HT_.out (by kernel_rfl)) (fun _ _ _ h => h) (Or.inl ⟨by rfl, ?_⟩) ?_ ?_
                     rotate_left
                     ·intro w'
                      go_simp
                      with_reducible rfl
                     rotate_left
                     ·simp only [Act.put, List.setIfInBounds_toArray, List.set_cons_zero, List.set_cons_succ, i64_w, i32_w]
                      rfl
                     refine pure_ (i := 1) (N := some 287) (v := ?_) (a' := ?_) #[true, true, false, false, false, false, false, false, false, false, false, false, false, false, false, false, false, false, false, false] rfl rfl (any_of HT_.out (by kernel_rfl)) (fun _ _ _ h => h) (Or.inl ⟨by rfl, ?_⟩) ?_ ?_
                     rotate_left
                     ·intro w'
                      go_simp
                      with_reducible rfl
                     rotate_left
                     ·simp only [Act.put, List.setIfInBounds_toArray, List.set_cons_zero, List.set_cons_succ, i64_w, i32_w]
                      rfl
                     refine pure_ (i := 2) (N := some 288) (v := ?_) (a' := ?_) #[true, true, true, false, false, false, false, false, false, false, false, false, false, false, false, false, false, false, false, false] rfl rfl (any_of HT_.out (by kernel_rfl)) (fun _ _ _ h => h) (Or.inl ⟨by rfl, ?_⟩) ?_ ?_
                     rotate_left
                     ·intro w'
                      go_simp
                      with_reducible rfl
                     rotate_left
                     ·simp only [Act.put, List.setIfInBounds_toArray, List.set_cons_zero, List.set_cons_succ, i64_w, i32_w]
                      rfl
                     refine pure_ (i := 3) (N := some 289) (v := ?_) (a' := ?_) #[true, true, true, true, false, false, false, false, false, false, false, false, false, false, false, false, false, false, false, false] rfl rfl (any_of HT_.out (by kernel_rfl)) (fun _ _ _ h => h) (Or.inl ⟨by rfl, ?_⟩) ?_ ?_
                     rotate_left
                     ·intro w'
                      go_simp
                      with_reducible rfl
                     rotate_left
                     ·simp only [Act.put, List.setIfInBounds_toArray, List.set_cons_zero, List.set_cons_succ, i64_w, i32_w]
                      rfl
                     refine pure_ (i := 4) (N := some 290) (v := ?_) (a' := ?_) #[true, true, true, true, true, false, false, false, false, false, false, false, false, false, false, false, false, false, false, false] rfl rfl (any_of HT_.out (by kernel_rfl)) (fun _ _ _ h => h) (Or.inl ⟨by rfl, ?_⟩) ?_ ?_
                     rotate_left
                     ·intro w'
                      go_simp
                      with_reducible rfl
                     rotate_left
                     ·simp only [Act.put, List.setIfInBounds_toArray, List.set_cons_zero, List.set_cons_succ, i64_w, i32_w]
                      rfl
                     refine pure_ (i := 6) (N := some 292) (v := ?_) (a' := ?_) #[true, true, true, true, true, false, true, false, false, false, false, false, false, false, false, false, false, false, false, false] rfl rfl (any_of HT_.out (by kernel_rfl)) (fun _ _ _ h => h) (Or.inl ⟨by rfl, ?_⟩) ?_ ?_
                     rotate_left
                     ·intro w'
                      go_simp
                      with_reducible rfl
                     rotate_left
                     ·simp only [Act.put, List.setIfInBounds_toArray, List.set_cons_zero, List.set_cons_succ, i64_w, i32_w]
                      rfl
                     refine pure_ (i := 7) (N := some 293) (v := ?_) (a' := ?_) #[true, true, true, true, true, false, true, true, false, false, false, false, false, false, false, false, false, false, false, false] rfl rfl (any_of HT_.out (by kernel_rfl)) (fun _ _ _ h => h) (Or.inl ⟨by rfl, ?_⟩) ?_ ?_
                     rotate_left
                     ·intro w'
                      go_simp
                      with_reducible rfl
                     rotate_left
                     ·simp only [Act.put, List.setIfInBounds_toArray, List.set_cons_zero, List.set_cons_succ, i64_w, i32_w]
                      rfl
                     refine pure_ (i := 8) (N := some 294) (v := ?_) (a' := ?_) #[true, true, true, true, true, false, true, true, true, false, false, false, false, false, false, false, false, false, false, false] rfl rfl (any_of HT_.out (by kernel_rfl)) (fun _ _ _ h => h) (Or.inl ⟨by rfl, ?_⟩) ?_ ?_
                     rotate_left
                     ·intro w'
                      go_simp
                      with_reducible rfl
                     rotate_left
                     ·simp only [Act.put, List.setIfInBounds_toArray, List.set_cons_zero, List.set_cons_succ, i64_w, i32_w]
                      rfl
                     refine pure_ (i := 9) (N := some 295) (v := ?_) (a' := ?_) #[true, true, true, true, true, false, true, true, true, true, false, false, false, false, false, false, false, false, false, false] rfl rfl (any_of HT_.out (by kernel_rfl)) (fun _ _ _ h => h) (Or.inl ⟨by rfl, ?_⟩) ?_ ?_
                     rotate_left
                     ·intro w'
                      go_simp
                      with_reducible rfl
                     rotate_left
                     ·simp only [Act.put, List.setIfInBounds_toArray, List.set_cons_zero, List.set_cons_succ, i64_w, i32_w]
                      rfl
                     refine pure_ (i := 11) (N := some 297) (v := ?_) (a' := ?_) #[true, true, true, true, true, false, true, true, true, true, false, true, false, false, false, false, false, false, false, false] rfl rfl (any_of HT_.out (by kernel_rfl)) (fun _ _ _ h => h) (Or.inl ⟨by rfl, ?_⟩) ?_ ?_
                     rotate_left
                     ·intro w'
                      go_simp
                      with_reducible rfl
                     rotate_left
                     ·simp only [Act.put, List.setIfInBounds_toArray, List.set_cons_zero, List.set_cons_succ, i64_w, i32_w]
                      rfl
                     refine pure_ (i := 12) (N := some 298) (v := ?_) (a' := ?_) #[true, true, true, true, true, false, true, true, true, true, false, true, true, false, false, false, false, false, false, false] rfl rfl (any_of HT_.out (by kernel_rfl)) (fun _ _ _ h => h) (Or.inl ⟨by rfl, ?_⟩) ?_ ?_
                     rotate_left
                     ·intro w'
                      go_simp
                      with_reducible rfl
                     rotate_left
                     ·simp only [Act.put, List.setIfInBounds_toArray, List.set_cons_zero, List.set_cons_succ, i64_w, i32_w]
                      rfl
                     refine pure_ (i := 13) (N := some 299) (v := ?_) (a' := ?_) #[true, true, true, true, true, false, true, true, true, true, false, true, true, true, false, false, false, false, false, false] rfl rfl (any_of HT_.out (by kernel_rfl)) (fun _ _ _ h => h) (Or.inl ⟨by rfl, ?_⟩) ?_ ?_
                     rotate_left
                     ·intro w'
                      go_simp
                      with_reducible rfl
                     rotate_left
                     ·simp only [Act.put, List.setIfInBounds_toArray, List.set_cons_zero, List.set_cons_succ, i64_w, i32_w]
                      rfl
                     refine pure_ (i := 14) (N := some 300) (v := ?_) (a' := ?_) #[true, true, true, true, true, false, true, true, true, true, false, true, true, true, true, false, false, false, false, false] rfl rfl (any_of HT_.out (by kernel_rfl)) (fun _ _ _ h => h) (Or.inl ⟨by rfl, ?_⟩) ?_ ?_
                     rotate_left
                     ·intro w'
                      go_simp
                      with_reducible rfl
                     rotate_left
                     ·simp only [Act.put, List.setIfInBounds_toArray, List.set_cons_zero, List.set_cons_succ, i64_w, i32_w]
                      rfl
                     refine take_ (i := 5) (N := some 291) (v := ?_) (a' := ?_) #[true, true, true, true, true, true, true, true, true, true, false, true, true, true, true, false, false, false, false, false] rfl rfl (take_ofW HT_.out HW_.out (by kernel_rfl)) (fun _ _ _ h => h) (Or.inl ⟨by rfl, ?_⟩) hHeld ?_ ?_
                     rotate_left
                     ·rintro w' ⟨s0, s1, s2, s3, s4, s5, s6, s7, s8⟩
                      go_simp
                      with_reducible rfl
                     rotate_left
                     ·simp only [Act.put, List.setIfInBounds_toArray, List.set_cons_zero, List.set_cons_succ, i64_w, i32_w]
                      rfl
                     refine take_ (i := 10) (N := some 296) (v := ?_) (a' := ?_) #[true, true, true, true, true, true, true, true, true, true, true, true, true, true, true, false, false, false, false, false] rfl rfl (take_ofW HT_.out HW_.out (by kernel_rfl)) (fun _ _ _ h => h) (Or.inl ⟨by rfl, ?_⟩) hHeld ?_ ?_
                     rotate_left
                     ·rintro w' ⟨s0, s1, s2, s3, s4, s5, s6, s7, s8⟩
                      go_simp
                      with_reducible rfl
                     rotate_left
                     ·simp only [Act.put, List.setIfInBounds_toArray, List.set_cons_zero, List.set_cons_succ, i64_w, i32_w]
                      rfl
                     refine take_ (i := 15) (N := some 301) (v := ?_) (a' := ?_) #[true, true, true, true, true, true, true, true, true, true, true, true, true, true, true, true, false, false, false, false] rfl rfl (take_ofW HT_.out HW_.out (by kernel_rfl)) (fun _ _ _ h => h) (Or.inl ⟨by rfl, ?_⟩) hHeld ?_ ?_
                     rotate_left
                     ·rintro w' ⟨s0, s1, s2, s3, s4, s5, s6, s7, s8⟩
                      go_simp
                      with_reducible rfl
                     rotate_left
                     ·simp only [Act.put, List.setIfInBounds_toArray, List.set_cons_zero, List.set_cons_succ, i64_w, i32_w]
                      rfl
                     refine pure_ (i := 16) (N := some 302) (v := ?_) (a' := ?_) #[true, true, true, true, true, true, true, true, true, true, true, true, true, true, true, true, true, false, false, false] rfl rfl (any_of HT_.out (by kernel_rfl)) (fun _ _ _ h => h) (Or.inl ⟨by rfl, ?_⟩) ?_ ?_
                     rotate_left
                     ·intro w'
                      go_simp
                      with_reducible rfl
                     rotate_left
                     ·simp only [Act.put, List.setIfInBounds_toArray, List.set_cons_zero, List.set_cons_succ, i64_w, i32_w]
                      rfl
                     refine pure_ (i := 17) (N := some 303) (v := ?_) (a' := ?_) #[true, true, true, true, true, true, true, true, true, true, true, true, true, true, true, true, true, true, false, false] rfl rfl (any_of HT_.out (by kernel_rfl)) (fun _ _ _ h => h) (Or.inl ⟨by rfl, ?_⟩) ?_ ?_
                     rotate_left
                     ·intro w'
                      go_simp
                      with_reducible rfl
                     rotate_left
                     ·simp only [Act.put, List.setIfInBounds_toArray, List.set_cons_zero, List.set_cons_succ, i64_w, i32_w]
                      rfl
                     refine pure_ (i := 18) (N := some 304) (v := ?_) (a' := ?_) #[true, true, true, true, true, true, true, true, true, true, true, true, true, true, true, true, true, true, true, false] rfl rfl (any_of HT_.out (by kernel_rfl)) (fun _ _ _ h => h) (Or.inl ⟨by rfl, ?_⟩) ?_ ?_
                     rotate_left
                     ·intro w'
                      go_simp
                      with_reducible rfl
                     rotate_left
                     ·simp only [Act.put, List.setIfInBounds_toArray, List.set_cons_zero, List.set_cons_succ, i64_w, i32_w]
                      rfl
                     refine pure_ (i := 19) (N := some 24) (v := ?_) (a' := ?_) #[true, true, true, true, true, true, true, true, true, true, true, true, true, true, true, true, true, true, true, true] rfl rfl (any_of HT_.out (by kernel_rfl)) (fun _ _ _ h => h) (Or.inl ⟨by rfl, ?_⟩) ?_ ?_
                     rotate_left
                     ·intro w'
                      go_simp
                      with_reducible rfl
                     rotate_left
                     ·simp only [Act.put, List.setIfInBounds_toArray, List.set_cons_zero, List.set_cons_succ, i64_w, i32_w]
                      rfl
                     refine done_ (done_of HT_.out (by kernel_rfl)) ?_
                     try go_wp2
                     go_roundg k6
                     case measure => have := HJ4.out; have := HJ17.out; have := HJ36.out; have := HJ134.out; have := HJ166.out; have := HK6.out; omega
                     case rel => exact ⟨(wrap64 (x24_6 + (wrap64 (((rd_T56 t204 x25_6).f2) * (wrap64 (((rd_T56 t204 x25_6).f0) - ((rd_T56 t204 x25_6).f1))))))), (wrap64 (x25_6 + 1)), (by first | rfl | (simp; done) | (simp [*]; done)), (by first | rfl | (simp; done) | (simp [*]; done)), H', ⟨by have := HJ4.out; have := HJ17.out; have := HJ36.out; have := HJ134.out; have := HJ166.out; have := HK6.out; omega⟩, ⟨by (with_reducible repeat (first | apply Kd.R_alloc | apply Kd.R_drewN | apply Kd.R_drew)); exact HO_19.out⟩, ⟨by (with_reducible repeat (first | refine blk_drewN ?_ _ | refine blk_drew ?_ | refine blk_alloc ?_ _)); exact BK160.out⟩, ⟨by (with_reducible repeat (first | refine blk_drewN ?_ _ | refine blk_drew ?_ | refine blk_alloc ?_ _)); exact BK161.out⟩, ⟨by (with_reducible repeat (first | refine blk_drewN ?_ _ | refine blk_drew ?_ | refine blk_alloc ?_ _)); exact BK165.out⟩, ⟨by repeat (first | (with_reducible first | exact HB.out | apply below_alloc | apply pw_below_drewN | apply below_drew1 | refine below_set ?_ GE160.out | refine below_set ?_ GE161.out | refine below_set ?_ GE165.out) | exact HB.out)⟩⟩
                    ·rw [if_neg c183] at H
                     exact absurd H (by simp)
                   ·rw [if_neg c182] at H
                    have c182b0 : decide (x25_6 < (t204.length : Int)) = false := decide_eq_false c182
                    clear c182
                    (first | rw [c182b0] | (simp only [i64_w, i32_w]; rw [c182b0]) | skip)
                    replace H := Option.bind_eq_some_iff.mp H
                    obtain ⟨t215, A1860, H⟩ := H
                    replace H : (if t215 = 0 then (if x24_6 = t209 then (verditertop_topWash.j11 k6 l0_0 l0_1 l0_2) else (some false)) else (some false)) = some r := H
                    have A186 := Aside0.mk A1860
                    clear A1860
                    by_cases c187 : t215 = 0
                    ·rw [if_pos c187] at H
                     have c187b0 : (t215 == 0) = true := beq_iff_eq.mpr c187
                     have c187b1 : (t215 != 0) = false := bne_eq_false_iff_eq.mpr c187
                     clear c187
                     by_cases c188 : x24_6 = t209
                     ·rw [if_pos c188] at H
                      have c188b0 : (x24_6 == t209) = true := beq_iff_eq.mpr c188
                      have c188b1 : (x24_6 != t209) = false := bne_eq_false_iff_eq.mpr c188
                      clear c188
                      have H' := Aside0.mk H
                      clear H
                      obtain ⟨Ao189, co189, eo189⟩ := Kd.R_slice HO_19.out
                      subst eo189
                      have hnb190 := NB160_161.out
                      have hnc190 := NB161_160.out
                      have hnb191 := NB160_165.out
                      have hnc191 := NB165_160.out
                      have hcz192_0 : wr.cell? ⟨gb160, 0, none⟩ = some (.slice A0_0 l0_0.length c0_0) := (blk_cell BK160.out 0).trans rfl
                      have hcz192_1 : wr.cell? ⟨gb160, 1, none⟩ = some (.slice A0_1 l0_1.length c0_1) := (blk_cell BK160.out 1).trans rfl
                      have hcz192_2 : wr.cell? ⟨gb160, 2, none⟩ = some (.slice A0_2 l0_2.length c0_2) := (blk_cell BK160.out 2).trans rfl
                      have hfz192_0 := blk_frozen BK160.out 0
                      have hfz192_1 := blk_frozen BK160.out 1
                      have hfz192_2 := blk_frozen BK160.out 2
                      go_wp2_with (first | ((with_reducible refine gate_callee (f := 20) rfl ?_); refine goesL_ (some 310) rfl rfl Try.func20 (by kernel_rfl) rfl #[.slice A0_0 l0_0.length c0_0, .slice A0_1 l0_1.length c0_1, .slice Ao189 t204.length co189] rfl (by (try simp only [List.map_toArray, List.map_cons, List.map_nil]); first | done | rfl | (simp only [List.length_drop, List.length_take]; rfl)) ?_; (with_reducible refine (wash_CheckFiner.calls k6 _ _ l0_0 _ _ l0_1 _ _ t204 t215 _ ?side1 ?side2 ?side3 ?side4 ?side5 ?side6 A186.out).mono ?_); (case side1 => repeat (first | exact (Kd.C_below HR0_0.out HB.out) | (with_reducible refine Kd.C_alloc ?_ _) | (with_reducible refine Kd.C_drewN ?_ _) | (with_reducible refine Kd.C_drew ?_))); (case side2 => exact HC0_0.out); (case side3 => repeat (first | exact (Kd.C_below HR0_1.out HB.out) | (with_reducible refine Kd.C_alloc ?_ _) | (with_reducible refine Kd.C_drewN ?_ _) | (with_reducible refine Kd.C_drew ?_))); (case side4 => exact HC0_1.out); (case side5 => repeat (first | exact (Kd.R_reads' HO_19.out).2.2 | (with_reducible refine Kd.C_alloc ?_ _) | (with_reducible refine Kd.C_drewN ?_ _) | (with_reducible refine Kd.C_drew ?_))); (case side6 => exact (Kd.R_reads' HO_19.out).2.1); rintro e w193 ⟨rfl, hb⟩; refine ⟨_, rfl, ?_⟩; have n0_ := Aside0.mk (Kd.R_below (by (with_reducible repeat (first | apply Kd.R_alloc | apply Kd.R_drewN | apply Kd.R_drew)); exact HO_19.out) hb); have n1_ := Aside0.mk (blk_below (g := gb160) (o := .cells #[.slice A0_0 l0_0.length c0_0, .slice A0_1 l0_1.length c0_1, .slice A0_2 l0_2.length c0_2] 25 (0, 0)) (by (with_reducible repeat (first | refine blk_drewN ?_ _ | refine blk_drew ?_ | refine blk_alloc ?_ _)); exact BK160.out) hb); have n2_ := Aside0.mk (blk_below (g := gb161) (o := .cells #[.int .i64 a1_0, .int .i64 a1_1] 27 (0, 0)) (by (with_reducible repeat (first | refine blk_drewN ?_ _ | refine blk_drew ?_ | refine blk_alloc ?_ _)); exact BK161.out) hb); have n3_ := Aside0.mk (blk_below (g := gb165) (o := .cells #[.int .i64 t162, .int .i64 t163] 34 (0, 0)) (by (with_reducible repeat (first | refine blk_drewN ?_ _ | refine blk_drew ?_ | refine blk_alloc ?_ _)); exact BK165.out) hb); have n4_ := Aside0.mk (below_step (by repeat (first | (with_reducible first | exact HB.out | apply below_alloc | apply pw_below_drewN | apply below_drew1 | refine below_set ?_ GE160.out | refine below_set ?_ GE161.out | refine below_set ?_ GE165.out) | exact HB.out)) hb); clear HO_19; clear BK160; clear BK161; clear BK165; clear HB; have HO_19 := n0_; have BK160 := n1_; have BK161 := n2_; have BK165 := n3_; have HB := n4_; clear n0_ n1_ n2_ n3_ n4_; (try clear hb); (try clear hb2); (try clear hk); (try clear hi)))
                      go_meet
                      case rel => exact ⟨_, H', ⟨by have := HJ4.out; have := HJ17.out; have := HJ36.out; have := HJ134.out; have := HJ166.out; have := HK6.out; first | omega | exact Nat.le_refl _⟩, ⟨by (with_reducible repeat (first | refine blk_drewN ?_ _ | refine blk_drew ?_ | refine blk_alloc ?_ _)); exact BK160.out⟩, ⟨by (with_reducible repeat (first | refine blk_drewN ?_ _ | refine blk_drew ?_ | refine blk_alloc ?_ _)); exact BK161.out⟩, ⟨by (with_reducible repeat (first | refine blk_drewN ?_ _ | refine blk_drew ?_ | refine blk_alloc ?_ _)); exact BK165.out⟩, ⟨by repeat (first | (with_reducible first | exact HB.out | apply below_alloc | apply pw_below_drewN | apply below_drew1 | refine below_set ?_ GE160.out | refine below_set ?_ GE161.out | refine below_set ?_ GE165.out) | exact HB.out)⟩⟩
                     ·rw [if_neg c188] at H
                      have c188b0 : (x24_6 == t209) = false := beq_eq_false_iff_ne.mpr c188
                      have c188b1 : (x24_6 != t209) = true := bne_iff_ne.mpr c188
                      exact absurd (Option.some.inj H) (by rw [HRT.out]; decide)
                    ·rw [if_neg c187] at H
                     have c187b0 : (t215 == 0) = false := beq_eq_false_iff_ne.mpr c187
                     have c187b1 : (t215 != 0) = true := bne_iff_ne.mpr c187
                     exact absurd (Option.some.inj H) (by rw [HRT.out]; decide)
                ·replace c181 := Bool.eq_false_iff.mpr c181
                 subst c181
                 have H1 : (verditertop_topWash.j11 kj166 l0_0 l0_1 l0_2) = some r := by rw [if_neg (show ¬ (false = true) by decide)] at H; exact H
                 clear H
                 have H := H1
                 clear H1
                 have H' := Aside0.mk H
                 clear H
                 go_wp2
                 go_meet
                 case rel => exact ⟨_, H', ⟨by have := HJ4.out; have := HJ17.out; have := HJ36.out; have := HJ134.out; have := HJ166.out; first | omega | exact Nat.le_refl _⟩, ⟨by (with_reducible repeat (first | refine blk_drewN ?_ _ | refine blk_drew ?_ | refine blk_alloc ?_ _)); exact BK160.out⟩, ⟨by (with_reducible repeat (first | refine blk_drewN ?_ _ | refine blk_drew ?_ | refine blk_alloc ?_ _)); exact BK161.out⟩, ⟨by (with_reducible repeat (first | refine blk_drewN ?_ _ | refine blk_drew ?_ | refine blk_alloc ?_ _)); exact BK165.out⟩, ⟨by repeat (first | (with_reducible first | exact HB.out | apply below_alloc | apply pw_below_drewN | apply below_drew1 | refine below_set ?_ GE160.out | refine below_set ?_ GE161.out | refine below_set ?_ GE165.out) | exact HB.out)⟩⟩
               case rest =>
                as_aux_lemma =>
                clear HC180
                obtain ⟨kq, HA, HJ179, BK160, BK161, BK165, HB⟩ := hcut
                cases kq with
                | zero => exact absurd HA.out (by simp [verditertop_topWash.j11])
                | succ kj179 =>
                 have H := HA.out
                 clear HA
                 simp only [verditertop_topWash.j11] at H
                 replace H := Option.bind_eq_some_iff.mp H
                 obtain ⟨⟨t216, t217⟩, A2040, H⟩ := H
                 replace H : (if t217 = 0 then ((wash_IsFiner.f kj179 t216 l0_1).bind fun bt220 => ((wash_Mass.f kj179 t216).bind fun bt222 => ((wash_Mass.f kj179 l0_1).bind fun bt224 => (if bt220.2 = 0 then (if bt220.1 = true then (if bt222.2 = 0 then (if bt224.2 = 0 then (if bt222.1 = bt224.1 then ((wash_CheckFiner.f kj179 t216 l0_1 l0_2).bind fun t226 => (some (t226 == 0))) else (some false)) else (some false)) else (some false)) else (some false)) else (some false))))) else (some true)) = some r := H
                 have A204 := Aside0.mk A2040
                 clear A2040
                 by_cases c205 : t217 = 0
                 ·rw [if_pos c205] at H
                  have c205b0 : (t217 == 0) = true := beq_iff_eq.mpr c205
                  have c205b1 : (t217 != 0) = false := bne_eq_false_iff_eq.mpr c205
                  clear c205
                  replace H := Option.bind_eq_some_iff.mp H
                  obtain ⟨⟨t220, t221⟩, A2060, H⟩ := H
                  replace H : ((wash_Mass.f kj179 t216).bind fun bt222 => ((wash_Mass.f kj179 l0_1).bind fun bt224 => (if t221 = 0 then (if t220 = true then (if bt222.2 = 0 then (if bt224.2 = 0 then (if bt222.1 = bt224.1 then ((wash_CheckFiner.f kj179 t216 l0_1 l0_2).bind fun t226 => (some (t226 == 0))) else (some false)) else (some false)) else (some false)) else (some false)) else (some false)))) = some r := H
                  have A206 := Aside0.mk A2060
                  clear A2060
                  replace H := Option.bind_eq_some_iff.mp H
                  obtain ⟨⟨t222, t223⟩, A2070, H⟩ := H
                  replace H : ((wash_Mass.f kj179 l0_1).bind fun bt224 => (if t221 = 0 then (if t220 = true then (if t223 = 0 then (if bt224.2 = 0 then (if t222 = bt224.1 then ((wash_CheckFiner.f kj179 t216 l0_1 l0_2).bind fun t226 => (some (t226 == 0))) else (some false)) else (some false)) else (some false)) else (some false)) else (some false))) = some r := H
                  have A207 := Aside0.mk A2070
                  clear A2070
                  replace H := Option.bind_eq_some_iff.mp H
                  obtain ⟨⟨t224, t225⟩, A2080, H⟩ := H
                  replace H : (if t221 = 0 then (if t220 = true then (if t223 = 0 then (if t225 = 0 then (if t222 = t224 then ((wash_CheckFiner.f kj179 t216 l0_1 l0_2).bind fun t226 => (some (t226 == 0))) else (some false)) else (some false)) else (some false)) else (some false)) else (some false)) = some r := H
                  have A208 := Aside0.mk A2080
                  clear A2080
                  by_cases c209 : t221 = 0
                  ·rw [if_pos c209] at H
                   have c209b0 : (t221 == 0) = true := beq_iff_eq.mpr c209
                   have c209b1 : (t221 != 0) = false := bne_eq_false_iff_eq.mpr c209
                   clear c209
                   by_cases c210 : t220 = true
                   ·subst c210
                    have H1 : (if t223 = 0 then (if t225 = 0 then (if t222 = t224 then ((wash_CheckFiner.f kj179 t216 l0_1 l0_2).bind fun t226 => (some (t226 == 0))) else (some false)) else (some false)) else (some false)) = some r := by rw [if_pos rfl] at H; exact H
                    clear H
                    have H := H1
                    clear H1
                    by_cases c211 : t223 = 0
                    ·rw [if_pos c211] at H
                     have c211b0 : (t223 == 0) = true := beq_iff_eq.mpr c211
                     have c211b1 : (t223 != 0) = false := bne_eq_false_iff_eq.mpr c211
                     clear c211
                     by_cases c212 : t225 = 0
                     ·rw [if_pos c212] at H
                      have c212b0 : (t225 == 0) = true := beq_iff_eq.mpr c212
                      have c212b1 : (t225 != 0) = false := bne_eq_false_iff_eq.mpr c212
                      clear c212
                      by_cases c213 : t222 = t224
                      ·rw [if_pos c213] at H
                       have c213b0 : (t222 == t224) = true := beq_iff_eq.mpr c213
                       have c213b1 : (t222 != t224) = false := bne_eq_false_iff_eq.mpr c213
                       clear c213
                       replace H := Option.bind_eq_some_iff.mp H
                       obtain ⟨t226, A2140, H⟩ := H
                       replace H : (some (t226 == 0)) = some r := H
                       have A214 := Aside0.mk A2140
                       clear A2140
                       obtain rfl := Option.some.inj H
                       have hnb215 := NB160_161.out
                       have hnc215 := NB161_160.out
                       have hnb216 := NB160_165.out
                       have hnc216 := NB165_160.out
                       have hcz217_0 : wc.cell? ⟨gb160, 0, none⟩ = some (.slice A0_0 l0_0.length c0_0) := (blk_cell BK160.out 0).trans rfl
                       have hcz217_1 : wc.cell? ⟨gb160, 1, none⟩ = some (.slice A0_1 l0_1.length c0_1) := (blk_cell BK160.out 1).trans rfl
                       have hcz217_2 : wc.cell? ⟨gb160, 2, none⟩ = some (.slice A0_2 l0_2.length c0_2) := (blk_cell BK160.out 2).trans rfl
                       have hfz217_0 := blk_frozen BK160.out 0
                       have hfz217_1 := blk_frozen BK160.out 1
                       have hfz217_2 := blk_frozen BK160.out 2
                       go_wp2_with (first | ((with_reducible refine gate_callee (f := 21) rfl ?_); refine goesL_ (some 322) rfl rfl Try.func21 (by kernel_rfl) rfl #[.slice A0_1 l0_1.length c0_1, .slice A0_2 l0_2.length c0_2] rfl (by (try simp only [List.map_toArray, List.map_cons, List.map_nil]); first | done | rfl | (simp only [List.length_drop, List.length_take]; rfl)) ?_; (with_reducible refine (wash_Grind.calls _ _ l0_1 _ _ l0_2 t216 t217 _ ?side1 ?side2 ?side3 ?side4 A204.out).mono ?_); (case side1 => repeat (first | exact (Kd.C_below HR0_1.out HB.out) | (with_reducible refine Kd.C_alloc ?_ _) | (with_reducible refine Kd.C_drewN ?_ _) | (with_reducible refine Kd.C_drew ?_))); (case side2 => exact HC0_1.out); (case side3 => repeat (first | exact (Kd.C_below HR0_2.out HB.out) | (with_reducible refine Kd.C_alloc ?_ _) | (with_reducible refine Kd.C_drewN ?_ _) | (with_reducible refine Kd.C_drew ?_))); (case side4 => exact HC0_2.out); rintro e w218 ⟨v218, rfl, ho0, hb⟩; refine ⟨_, rfl, ?_⟩; have n0_ := Aside0.mk (Kd.R_lower ho0 (below_size (by repeat (first | (with_reducible first | exact HB.out | apply below_alloc | apply pw_below_drewN | apply below_drew1 | refine below_set ?_ GE160.out | refine below_set ?_ GE161.out | refine below_set ?_ GE165.out) | exact HB.out)))); have n1_ := Aside0.mk (blk_below (g := gb160) (o := .cells #[.slice A0_0 l0_0.length c0_0, .slice A0_1 l0_1.length c0_1, .slice A0_2 l0_2.length c0_2] 25 (0, 0)) (by (with_reducible repeat (first | refine blk_drewN ?_ _ | refine blk_drew ?_ | refine blk_alloc ?_ _)); exact BK160.out) hb); have n2_ := Aside0.mk (blk_below (g := gb161) (o := .cells #[.int .i64 a1_0, .int .i64 a1_1] 27 (0, 0)) (by (with_reducible repeat (first | refine blk_drewN ?_ _ | refine blk_drew ?_ | refine blk_alloc ?_ _)); exact BK161.out) hb); have n3_ := Aside0.mk (blk_below (g := gb165) (o := .cells #[.int .i64 t162, .int .i64 t163] 34 (0, 0)) (by (with_reducible repeat (first | refine blk_drewN ?_ _ | refine blk_drew ?_ | refine blk_alloc ?_ _)); exact BK165.out) hb); have n4_ := Aside0.mk (below_step (by repeat (first | (with_reducible first | exact HB.out | apply below_alloc | apply pw_below_drewN | apply below_drew1 | refine below_set ?_ GE160.out | refine below_set ?_ GE161.out | refine below_set ?_ GE165.out) | exact HB.out)) hb); clear BK160; clear BK161; clear BK165; clear HB; have HO219 := n0_; have BK160 := n1_; have BK161 := n2_; have BK165 := n3_; have HB := n4_; clear n0_ n1_ n2_ n3_ n4_; (try clear hb); (try clear hb2); (try clear hk); (try clear hi); (try clear ho0); have hcz219_0 : w218.cell? ⟨gb160, 0, none⟩ = some (.slice A0_0 l0_0.length c0_0) := (blk_cell BK160.out 0).trans rfl; have hcz219_1 : w218.cell? ⟨gb160, 1, none⟩ = some (.slice A0_1 l0_1.length c0_1) := (blk_cell BK160.out 1).trans rfl; have hcz219_2 : w218.cell? ⟨gb160, 2, none⟩ = some (.slice A0_2 l0_2.length c0_2) := (blk_cell BK160.out 2).trans rfl; have hfz219_0 := blk_frozen BK160.out 0; have hfz219_1 := blk_frozen BK160.out 1; have hfz219_2 := blk_frozen BK160.out 2; obtain ⟨Ao220, co220, eo220⟩ := Kd.R_slice HO219.out; subst eo220) | ((with_reducible refine gate_callee (f := 17) rfl ?_); refine goesL_ (some 331) rfl rfl Try.func17 (by kernel_rfl) rfl #[.slice Ao220 t216.length co220, .slice A0_1 l0_1.length c0_1] rfl (by (try simp only [List.map_toArray, List.map_cons, List.map_nil]); first | done | rfl | (simp only [List.length_drop, List.length_take]; rfl)) ?_; (with_reducible refine (wash_IsFiner.calls kj179 _ _ t216 _ _ l0_1 true t221 _ ?side1 ?side2 ?side3 ?side4 A206.out).mono ?_); (case side1 => repeat (first | exact (Kd.R_reads' HO219.out).2.2 | (with_reducible refine Kd.C_alloc ?_ _) | (with_reducible refine Kd.C_drewN ?_ _) | (with_reducible refine Kd.C_drew ?_))); (case side2 => exact (Kd.R_reads' HO219.out).2.1); (case side3 => repeat (first | exact (Kd.C_below HR0_1.out HB.out) | (with_reducible refine Kd.C_alloc ?_ _) | (with_reducible refine Kd.C_drewN ?_ _) | (with_reducible refine Kd.C_drew ?_))); (case side4 => exact HC0_1.out); rintro e w221 ⟨rfl, hb⟩; refine ⟨_, rfl, ?_⟩; have n0_ := Aside0.mk (Kd.R_below (by (with_reducible repeat (first | apply Kd.R_alloc | apply Kd.R_drewN | apply Kd.R_drew)); exact HO219.out) hb); have n1_ := Aside0.mk (blk_below (g := gb160) (o := .cells #[.slice A0_0 l0_0.length c0_0, .slice A0_1 l0_1.length c0_1, .slice A0_2 l0_2.length c0_2] 25 (0, 0)) (by (with_reducible repeat (first | refine blk_drewN ?_ _ | refine blk_drew ?_ | refine blk_alloc ?_ _)); exact BK160.out) hb); have n2_ := Aside0.mk (blk_below (g := gb161) (o := .cells #[.int .i64 a1_0, .int .i64 a1_1] 27 (0, 0)) (by (with_reducible repeat (first | refine blk_drewN ?_ _ | refine blk_drew ?_ | refine blk_alloc ?_ _)); exact BK161.out) hb); have n3_ := Aside0.mk (blk_below (g := gb165) (o := .cells #[.int .i64 t162, .int .i64 t163] 34 (0, 0)) (by (with_reducible repeat (first | refine blk_drewN ?_ _ | refine blk_drew ?_ | refine blk_alloc ?_ _)); exact BK165.out) hb); have n4_ := Aside0.mk (below_step (by repeat (first | (with_reducible first | exact HB.out | apply below_alloc | apply pw_below_drewN | apply below_drew1 | refine below_set ?_ GE160.out | refine below_set ?_ GE161.out | refine below_set ?_ GE165.out) | exact HB.out)) hb); clear HO219; clear BK160; clear BK161; clear BK165; clear HB; have HO219 := n0_; have BK160 := n1_; have BK161 := n2_; have BK165 := n3_; have HB := n4_; clear n0_ n1_ n2_ n3_ n4_; (try clear hb); (try clear hb2); (try clear hk); (try clear hi)) | ((with_reducible refine gate_callee (f := 11) rfl ?_); refine goesL_ (some 336) rfl rfl Try.func11 (by kernel_rfl) rfl #[.slice Ao220 t216.length co220] rfl (by (try simp only [List.map_toArray, List.map_cons, List.map_nil]); first | done | rfl | (simp only [List.length_drop, List.length_take]; rfl)) ?_; (with_reducible refine (wash_Mass.calls kj179 _ _ t216 t222 t223 _ ?side1 ?side2 A207.out).mono ?_); (case side1 => repeat (first | exact (Kd.R_reads' HO219.out).2.2 | (with_reducible refine Kd.C_alloc ?_ _) | (with_reducible refine Kd.C_drewN ?_ _) | (with_reducible refine Kd.C_drew ?_))); (case side2 => exact (Kd.R_reads' HO219.out).2.1); rintro e w222 ⟨rfl, hb⟩; refine ⟨_, rfl, ?_⟩; have n0_ := Aside0.mk (Kd.R_below (by (with_reducible repeat (first | apply Kd.R_alloc | apply Kd.R_drewN | apply Kd.R_drew)); exact HO219.out) hb); have n1_ := Aside0.mk (blk_below (g := gb160) (o := .cells #[.slice A0_0 l0_0.length c0_0, .slice A0_1 l0_1.length c0_1, .slice A0_2 l0_2.length c0_2] 25 (0, 0)) (by (with_reducible repeat (first | refine blk_drewN ?_ _ | refine blk_drew ?_ | refine blk_alloc ?_ _)); exact BK160.out) hb); have n2_ := Aside0.mk (blk_below (g := gb161) (o := .cells #[.int .i64 a1_0, .int .i64 a1_1] 27 (0, 0)) (by (with_reducible repeat (first | refine blk_drewN ?_ _ | refine blk_drew ?_ | refine blk_alloc ?_ _)); exact BK161.out) hb); have n3_ := Aside0.mk (blk_below (g := gb165) (o := .cells #[.int .i64 t162, .int .i64 t163] 34 (0, 0)) (by (with_reducible repeat (first | refine blk_drewN ?_ _ | refine blk_drew ?_ | refine blk_alloc ?_ _)); exact BK165.out) hb); have n4_ := Aside0.mk (below_step (by repeat (first | (with_reducible first | exact HB.out | apply below_alloc | apply pw_below_drewN | apply below_drew1 | refine below_set ?_ GE160.out | refine below_set ?_ GE161.out | refine below_set ?_ GE165.out) | exact HB.out)) hb); clear HO219; clear BK160; clear BK161; clear BK165; clear HB; have HO219 := n0_; have BK160 := n1_; have BK161 := n2_; have BK165 := n3_; have HB := n4_; clear n0_ n1_ n2_ n3_ n4_; (try clear hb); (try clear hb2); (try clear hk); (try clear hi); have hcz223_0 : w222.cell? ⟨gb160, 0, none⟩ = some (.slice A0_0 l0_0.length c0_0) := (blk_cell BK160.out 0).trans rfl; have hcz223_1 : w222.cell? ⟨gb160, 1, none⟩ = some (.slice A0_1 l0_1.length c0_1) := (blk_cell BK160.out 1).trans rfl; have hcz223_2 : w222.cell? ⟨gb160, 2, none⟩ = some (.slice A0_2 l0_2.length c0_2) := (blk_cell BK160.out 2).trans rfl; have hfz223_0 := blk_frozen BK160.out 0; have hfz223_1 := blk_frozen BK160.out 1; have hfz223_2 := blk_frozen BK160.out 2) | ((with_reducible refine gate_callee (f := 11) rfl ?_); refine goesL_ (some 342) rfl rfl Try.func11 (by kernel_rfl) rfl #[.slice A0_1 l0_1.length c0_1] rfl (by (try simp only [List.map_toArray, List.map_cons, List.map_nil]); first | done | rfl | (simp only [List.length_drop, List.length_take]; rfl)) ?_; (with_reducible refine (wash_Mass.calls kj179 _ _ l0_1 t224 t225 _ ?side1 ?side2 A208.out).mono ?_); (case side1 => repeat (first | exact (Kd.C_below HR0_1.out HB.out) | (with_reducible refine Kd.C_alloc ?_ _) | (with_reducible refine Kd.C_drewN ?_ _) | (with_reducible refine Kd.C_drew ?_))); (case side2 => exact HC0_1.out); rintro e w224 ⟨rfl, hb⟩; refine ⟨_, rfl, ?_⟩; have n0_ := Aside0.mk (Kd.R_below (by (with_reducible repeat (first | apply Kd.R_alloc | apply Kd.R_drewN | apply Kd.R_drew)); exact HO219.out) hb); have n1_ := Aside0.mk (blk_below (g := gb160) (o := .cells #[.slice A0_0 l0_0.length c0_0, .slice A0_1 l0_1.length c0_1, .slice A0_2 l0_2.length c0_2] 25 (0, 0)) (by (with_reducible repeat (first | refine blk_drewN ?_ _ | refine blk_drew ?_ | refine blk_alloc ?_ _)); exact BK160.out) hb); have n2_ := Aside0.mk (blk_below (g := gb161) (o := .cells #[.int .i64 a1_0, .int .i64 a1_1] 27 (0, 0)) (by (with_reducible repeat (first | refine blk_drewN ?_ _ | refine blk_drew ?_ | refine blk_alloc ?_ _)); exact BK161.out) hb); have n3_ := Aside0.mk (blk_below (g := gb165) (o := .cells #[.int .i64 t162, .int .i64 t163] 34 (0, 0)) (by (with_reducible repeat (first | refine blk_drewN ?_ _ | refine blk_drew ?_ | refine blk_alloc ?_ _)); exact BK165.out) hb); have n4_ := Aside0.mk (below_step (by repeat (first | (with_reducible first | exact HB.out | apply below_alloc | apply pw_below_drewN | apply below_drew1 | refine below_set ?_ GE160.out | refine below_set ?_ GE161.out | refine below_set ?_ GE165.out) | exact HB.out)) hb); clear HO219; clear BK160; clear BK161; clear BK165; clear HB; have HO219 := n0_; have BK160 := n1_; have BK161 := n2_; have BK165 := n3_; have HB := n4_; clear n0_ n1_ n2_ n3_ n4_; (try clear hb); (try clear hb2); (try clear hk); (try clear hi); have hcz225_0 : w224.cell? ⟨gb160, 0, none⟩ = some (.slice A0_0 l0_0.length c0_0) := (blk_cell BK160.out 0).trans rfl; have hcz225_1 : w224.cell? ⟨gb160, 1, none⟩ = some (.slice A0_1 l0_1.length c0_1) := (blk_cell BK160.out 1).trans rfl; have hcz225_2 : w224.cell? ⟨gb160, 2, none⟩ = some (.slice A0_2 l0_2.length c0_2) := (blk_cell BK160.out 2).trans rfl; have hfz225_0 := blk_frozen BK160.out 0; have hfz225_1 := blk_frozen BK160.out 1; have hfz225_2 := blk_frozen BK160.out 2) | (go_at_call 20; (with_reducible refine (wash_CheckFiner.calls kj179 _ _ t216 _ _ l0_1 _ _ l0_2 t226 _ ?side1 ?side2 ?side3 ?side4 ?side5 ?side6 A214.out).mono ?_); (case side1 => repeat (first | exact (Kd.R_reads' HO219.out).2.2 | (with_reducible refine Kd.C_alloc ?_ _) | (with_reducible refine Kd.C_drewN ?_ _) | (with_reducible refine Kd.C_drew ?_))); (case side2 => exact (Kd.R_reads' HO219.out).2.1); (case side3 => repeat (first | exact (Kd.C_below HR0_1.out HB.out) | (with_reducible refine Kd.C_alloc ?_ _) | (with_reducible refine Kd.C_drewN ?_ _) | (with_reducible refine Kd.C_drew ?_))); (case side4 => exact HC0_1.out); (case side5 => repeat (first | exact (Kd.C_below HR0_2.out HB.out) | (with_reducible refine Kd.C_alloc ?_ _) | (with_reducible refine Kd.C_drewN ?_ _) | (with_reducible refine Kd.C_drew ?_))); (case side6 => exact HC0_2.out); rintro e w226 ⟨rfl, hb⟩; have n0_ := Aside0.mk (Kd.R_below (by (with_reducible repeat (first | apply Kd.R_alloc | apply Kd.R_drewN | apply Kd.R_drew)); exact HO219.out) hb); have n1_ := Aside0.mk (blk_below (g := gb160) (o := .cells #[.slice A0_0 l0_0.length c0_0, .slice A0_1 l0_1.length c0_1, .slice A0_2 l0_2.length c0_2] 25 (0, 0)) (by (with_reducible repeat (first | refine blk_drewN ?_ _ | refine blk_drew ?_ | refine blk_alloc ?_ _)); exact BK160.out) hb); have n2_ := Aside0.mk (blk_below (g := gb161) (o := .cells #[.int .i64 a1_0, .int .i64 a1_1] 27 (0, 0)) (by (with_reducible repeat (first | refine blk_drewN ?_ _ | refine blk_drew ?_ | refine blk_alloc ?_ _)); exact BK161.out) hb); have n3_ := Aside0.mk (blk_below (g := gb165) (o := .cells #[.int .i64 t162, .int .i64 t163] 34 (0, 0)) (by (with_reducible repeat (first | refine blk_drewN ?_ _ | refine blk_drew ?_ | refine blk_alloc ?_ _)); exact BK165.out) hb); have n4_ := Aside0.mk (below_step (by repeat (first | (with_reducible first | exact HB.out | apply below_alloc | apply pw_below_drewN | apply below_drew1 | refine below_set ?_ GE160.out | refine below_set ?_ GE161.out | refine below_set ?_ GE165.out) | exact HB.out)) hb); clear HO219; clear BK160; clear BK161; clear BK165; clear HB; have HO219 := n0_; have BK160 := n1_; have BK161 := n2_; have BK165 := n3_; have HB := n4_; clear n0_ n1_ n2_ n3_ n4_; (try clear hb); (try clear hb2); (try clear hk); (try clear hi)))
                       go_ret
                       exact ⟨by first | rfl | (simp [errW_none, errW_some] <;> rfl) | (simp [*, errW_none, errW_some] <;> rfl), by repeat (first | (with_reducible first | exact HB.out | apply below_alloc | apply pw_below_drewN | apply below_drew1 | refine below_set ?_ GE160.out | refine below_set ?_ GE161.out | refine below_set ?_ GE165.out) | exact HB.out)⟩
                      ·rw [if_neg c213] at H
                       have c213b0 : (t222 == t224) = false := beq_eq_false_iff_ne.mpr c213
                       have c213b1 : (t222 != t224) = true := bne_iff_ne.mpr c213
                       exact absurd (Option.some.inj H) (by rw [HRT.out]; decide)
                     ·rw [if_neg c212] at H
                      have c212b0 : (t225 == 0) = false := beq_eq_false_iff_ne.mpr c212
                      have c212b1 : (t225 != 0) = true := bne_iff_ne.mpr c212
                      exact absurd (Option.some.inj H) (by rw [HRT.out]; decide)
                    ·rw [if_neg c211] at H
                     have c211b0 : (t223 == 0) = false := beq_eq_false_iff_ne.mpr c211
                     have c211b1 : (t223 != 0) = true := bne_iff_ne.mpr c211
                     exact absurd (Option.some.inj H) (by rw [HRT.out]; decide)
                   ·replace c210 := Bool.eq_false_iff.mpr c210
                    subst c210
                    have H1 : (some false) = some r := by rw [if_neg (show ¬ (false = true) by decide)] at H; exact H
                    clear H
                    have H := H1
                    clear H1
                    exact absurd (Option.some.inj H) (by rw [HRT.out]; decide)
                  ·rw [if_neg c209] at H
                   have c209b0 : (t221 == 0) = false := beq_eq_false_iff_ne.mpr c209
                   have c209b1 : (t221 != 0) = true := bne_iff_ne.mpr c209
                   exact absurd (Option.some.inj H) (by rw [HRT.out]; decide)
                 ·rw [if_neg c205] at H
                  have c205b0 : (t217 == 0) = false := beq_eq_false_iff_ne.mpr c205
                  have c205b1 : (t217 != 0) = true := bne_iff_ne.mpr c205
                  obtain rfl := Option.some.inj H
                  have hnb277 := NB160_161.out
                  have hnc277 := NB161_160.out
                  have hnb278 := NB160_165.out
                  have hnc278 := NB165_160.out
                  have hcz279_0 : wc.cell? ⟨gb160, 0, none⟩ = some (.slice A0_0 l0_0.length c0_0) := (blk_cell BK160.out 0).trans rfl
                  have hcz279_1 : wc.cell? ⟨gb160, 1, none⟩ = some (.slice A0_1 l0_1.length c0_1) := (blk_cell BK160.out 1).trans rfl
                  have hcz279_2 : wc.cell? ⟨gb160, 2, none⟩ = some (.slice A0_2 l0_2.length c0_2) := (blk_cell BK160.out 2).trans rfl
                  have hfz279_0 := blk_frozen BK160.out 0
                  have hfz279_1 := blk_frozen BK160.out 1
                  have hfz279_2 := blk_frozen BK160.out 2
                  go_wp2_with (first | ((with_reducible refine gate_callee (f := 21) rfl ?_); refine goesL_ (some 322) rfl rfl Try.func21 (by kernel_rfl) rfl #[.slice A0_1 l0_1.length c0_1, .slice A0_2 l0_2.length c0_2] rfl (by (try simp only [List.map_toArray, List.map_cons, List.map_nil]); first | done | rfl | (simp only [List.length_drop, List.length_take]; rfl)) ?_; (with_reducible refine (wash_Grind.calls _ _ l0_1 _ _ l0_2 t216 t217 _ ?side1 ?side2 ?side3 ?side4 A204.out).mono ?_); (case side1 => repeat (first | exact (Kd.C_below HR0_1.out HB.out) | (with_reducible refine Kd.C_alloc ?_ _) | (with_reducible refine Kd.C_drewN ?_ _) | (with_reducible refine Kd.C_drew ?_))); (case side2 => exact HC0_1.out); (case side3 => repeat (first | exact (Kd.C_below HR0_2.out HB.out) | (with_reducible refine Kd.C_alloc ?_ _) | (with_reducible refine Kd.C_drewN ?_ _) | (with_reducible refine Kd.C_drew ?_))); (case side4 => exact HC0_2.out); rintro e w280 ⟨v218, rfl, ho0, hb⟩; refine ⟨_, rfl, ?_⟩; have n0_ := Aside0.mk (Kd.R_lower ho0 (below_size (by repeat (first | (with_reducible first | exact HB.out | apply below_alloc | apply pw_below_drewN | apply below_drew1 | refine below_set ?_ GE160.out | refine below_set ?_ GE161.out | refine below_set ?_ GE165.out) | exact HB.out)))); have n1_ := Aside0.mk (blk_below (g := gb160) (o := .cells #[.slice A0_0 l0_0.length c0_0, .slice A0_1 l0_1.length c0_1, .slice A0_2 l0_2.length c0_2] 25 (0, 0)) (by (with_reducible repeat (first | refine blk_drewN ?_ _ | refine blk_drew ?_ | refine blk_alloc ?_ _)); exact BK160.out) hb); have n2_ := Aside0.mk (blk_below (g := gb161) (o := .cells #[.int .i64 a1_0, .int .i64 a1_1] 27 (0, 0)) (by (with_reducible repeat (first | refine blk_drewN ?_ _ | refine blk_drew ?_ | refine blk_alloc ?_ _)); exact BK161.out) hb); have n3_ := Aside0.mk (blk_below (g := gb165) (o := .cells #[.int .i64 t162, .int .i64 t163] 34 (0, 0)) (by (with_reducible repeat (first | refine blk_drewN ?_ _ | refine blk_drew ?_ | refine blk_alloc ?_ _)); exact BK165.out) hb); have n4_ := Aside0.mk (below_step (by repeat (first | (with_reducible first | exact HB.out | apply below_alloc | apply pw_below_drewN | apply below_drew1 | refine below_set ?_ GE160.out | refine below_set ?_ GE161.out | refine below_set ?_ GE165.out) | exact HB.out)) hb); clear BK160; clear BK161; clear BK165; clear HB; have HO219 := n0_; have BK160 := n1_; have BK161 := n2_; have BK165 := n3_; have HB := n4_; clear n0_ n1_ n2_ n3_ n4_; (try clear hb); (try clear hb2); (try clear hk); (try clear hi); (try clear ho0)))
                  go_ret
                  exact ⟨by first | rfl | (simp [errW_none, errW_some] <;> rfl) | (simp [*, errW_none, errW_some] <;> rfl), by repeat (first | (with_reducible first | exact HB.out | apply below_alloc | apply pw_below_drewN | apply below_drew1 | refine below_set ?_ GE160.out | refine below_set ?_ GE161.out | refine below_set ?_ GE165.out) | exact HB.out)⟩
       ·rw [if_neg c34] at H
        have c34b0 : (t169 == 0) = false := beq_eq_false_iff_ne.mpr c34
        have c34b1 : (t169 != 0) = true := bne_iff_ne.mpr c34
        replace H := Option.bind_eq_some_iff.mp H
        obtain ⟨t170, A2810, H⟩ := H
        replace H : (some (t170 == t169)) = some r := H
        have A281 := Aside0.mk A2810
        clear A2810
        obtain rfl := Option.some.inj H
        have hnb282 := NB160_161.out
        have hnc282 := NB161_160.out
        have hnb283 := NB160_165.out
        have hnc283 := NB165_160.out
        have hcz284_0 : wc.cell? ⟨gb160, 0, none⟩ = some (.slice A0_0 l0_0.length c0_0) := (blk_cell BK160.out 0).trans rfl
        have hcz284_1 : wc.cell? ⟨gb160, 1, none⟩ = some (.slice A0_1 l0_1.length c0_1) := (blk_cell BK160.out 1).trans rfl
        have hcz284_2 : wc.cell? ⟨gb160, 2, none⟩ = some (.slice A0_2 l0_2.length c0_2) := (blk_cell BK160.out 2).trans rfl
        have hfz284_0 := blk_frozen BK160.out 0
        have hfz284_1 := blk_frozen BK160.out 1
        have hfz284_2 := blk_frozen BK160.out 2
        go_wp2_with (first | ((with_reducible refine gate_callee (f := 11) rfl ?_); refine goesL_ (some 59) rfl rfl Try.func11 (by kernel_rfl) rfl #[.slice A0_0 l0_0.length c0_0] rfl (by (try simp only [List.map_toArray, List.map_cons, List.map_nil]); first | done | rfl | (simp only [List.length_drop, List.length_take]; rfl)) ?_; (with_reducible refine (wash_Mass.calls kj17 _ _ l0_0 t168 t169 _ ?side1 ?side2 A33.out).mono ?_); (case side1 => repeat (first | exact (Kd.C_below HR0_0.out HB.out) | (with_reducible refine Kd.C_alloc ?_ _) | (with_reducible refine Kd.C_drewN ?_ _) | (with_reducible refine Kd.C_drew ?_))); (case side2 => exact HC0_0.out); rintro e w285 ⟨rfl, hb⟩; refine ⟨_, rfl, ?_⟩; have n0_ := Aside0.mk (blk_below (g := gb160) (o := .cells #[.slice A0_0 l0_0.length c0_0, .slice A0_1 l0_1.length c0_1, .slice A0_2 l0_2.length c0_2] 25 (0, 0)) (by (with_reducible repeat (first | refine blk_drewN ?_ _ | refine blk_drew ?_ | refine blk_alloc ?_ _)); exact BK160.out) hb); have n1_ := Aside0.mk (blk_below (g := gb161) (o := .cells #[.int .i64 a1_0, .int .i64 a1_1] 27 (0, 0)) (by (with_reducible repeat (first | refine blk_drewN ?_ _ | refine blk_drew ?_ | refine blk_alloc ?_ _)); exact BK161.out) hb); have n2_ := Aside0.mk (blk_below (g := gb165) (o := .cells #[.int .i64 t162, .int .i64 t163] 34 (0, 0)) (by (with_reducible repeat (first | refine blk_drewN ?_ _ | refine blk_drew ?_ | refine blk_alloc ?_ _)); exact BK165.out) hb); have n3_ := Aside0.mk (below_step (by repeat (first | (with_reducible first | exact HB.out | apply below_alloc | apply pw_below_drewN | apply below_drew1 | refine below_set ?_ GE160.out | refine below_set ?_ GE161.out | refine below_set ?_ GE165.out) | exact HB.out)) hb); clear BK160; clear BK161; clear BK165; clear HB; have BK160 := n0_; have BK161 := n1_; have BK165 := n2_; have HB := n3_; clear n0_ n1_ n2_ n3_; (try clear hb); (try clear hb2); (try clear hk); (try clear hi); have hcz286_0 : w285.cell? ⟨gb160, 0, none⟩ = some (.slice A0_0 l0_0.length c0_0) := (blk_cell BK160.out 0).trans rfl; have hcz286_1 : w285.cell? ⟨gb160, 1, none⟩ = some (.slice A0_1 l0_1.length c0_1) := (blk_cell BK160.out 1).trans rfl; have hcz286_2 : w285.cell? ⟨gb160, 2, none⟩ = some (.slice A0_2 l0_2.length c0_2) := (blk_cell BK160.out 2).trans rfl; have hfz286_0 := blk_frozen BK160.out 0; have hfz286_1 := blk_frozen BK160.out 1; have hfz286_2 := blk_frozen BK160.out 2) | ((with_reducible refine gate_callee (f := 12) rfl ?_); refine goesL_ (some 66) rfl rfl Try.func12 (by kernel_rfl) rfl #[.slice A0_0 l0_0.length c0_0] rfl (by (try simp only [List.map_toArray, List.map_cons, List.map_nil]); first | done | rfl | (simp only [List.length_drop, List.length_take]; rfl)) ?_; (with_reducible refine (wash_Validate.calls kj17 _ _ l0_0 t170 _ ?side1 ?side2 A281.out).mono ?_); (case side1 => repeat (first | exact (Kd.C_below HR0_0.out HB.out) | (with_reducible refine Kd.C_alloc ?_ _) | (with_reducible refine Kd.C_drewN ?_ _) | (with_reducible refine Kd.C_drew ?_))); (case side2 => exact HC0_0.out); rintro e w287 ⟨rfl, hb⟩; refine ⟨_, rfl, ?_⟩; have n0_ := Aside0.mk (blk_below (g := gb160) (o := .cells #[.slice A0_0 l0_0.length c0_0, .slice A0_1 l0_1.length c0_1, .slice A0_2 l0_2.length c0_2] 25 (0, 0)) (by (with_reducible repeat (first | refine blk_drewN ?_ _ | refine blk_drew ?_ | refine blk_alloc ?_ _)); exact BK160.out) hb); have n1_ := Aside0.mk (blk_below (g := gb161) (o := .cells #[.int .i64 a1_0, .int .i64 a1_1] 27 (0, 0)) (by (with_reducible repeat (first | refine blk_drewN ?_ _ | refine blk_drew ?_ | refine blk_alloc ?_ _)); exact BK161.out) hb); have n2_ := Aside0.mk (blk_below (g := gb165) (o := .cells #[.int .i64 t162, .int .i64 t163] 34 (0, 0)) (by (with_reducible repeat (first | refine blk_drewN ?_ _ | refine blk_drew ?_ | refine blk_alloc ?_ _)); exact BK165.out) hb); have n3_ := Aside0.mk (below_step (by repeat (first | (with_reducible first | exact HB.out | apply below_alloc | apply pw_below_drewN | apply below_drew1 | refine below_set ?_ GE160.out | refine below_set ?_ GE161.out | refine below_set ?_ GE165.out) | exact HB.out)) hb); clear BK160; clear BK161; clear BK165; clear HB; have BK160 := n0_; have BK161 := n1_; have BK165 := n2_; have HB := n3_; clear n0_ n1_ n2_ n3_; (try clear hb); (try clear hb2); (try clear hk); (try clear hi)))
        go_ret
        exact ⟨by first | rfl | (simp [errW_none, errW_some] <;> rfl) | (simp [*, errW_none, errW_some] <;> rfl), by repeat (first | (with_reducible first | exact HB.out | apply below_alloc | apply pw_below_drewN | apply below_drew1 | refine below_set ?_ GE160.out | refine below_set ?_ GE161.out | refine below_set ?_ GE165.out) | exact HB.out)⟩

end Go.Proofs.Ytcelibdkicfgkaa.P
