/- Parts of the proof of the law SecretFalse: walks of functions that it reaches, and plain facts about numbers, lists and curves; without a condition. -/
import Derived.Deep.RegionLaw
import Derived.Lib.SliceRun
import Derived.Test.YthlbjdiicmojfaaSecretFalseM2
import Derived.Deep.RegionWith
import Derived.Test.YthlbjdiicmojfaaSecretFalseM1
import Derived.Test.YthlbjdiicmojfaaSecretFalseM3
/-! Part H100. -/
namespace Go.Proofs.Ythlbjdiicmojfaa.P
open Go.RowKit Go.Proofs.YthlbjdiicmojfaaW.PrintWords Go.Proofs.YthlbjdiicmojfaaW.PrintLast Go.Proofs.YthlbjdiicmojfaaW.PrintMore
set_option linter.unusedVariables false

/-- The cells of parts. -/
def fl : List S43 → List Value
  | [] => []
  | p :: l => .int .i64 p.f0 :: .int .i64 p.f1 :: fl l
theorem fl_length : ∀ l, (fl l).length = l.length * 2
  | [] => rfl
  | p :: l => by simp [fl, fl_length l]; omega
theorem fl_append : ∀ l m, fl (l ++ m) = fl l ++ fl m
  | [], m => rfl
  | p :: l, m => by simp [fl, fl_append l m]
theorem fl_drop : ∀ (l : List S43) (k : Nat), fl (l.drop k) = (fl l).drop (k * 2)
  | l, 0 => by simp
  | [], k + 1 => by simp [fl]
  | p :: l, k + 1 => by
    rw [List.drop_succ_cons, fl_drop l k, show (k + 1) * 2 = k * 2 + 1 + 1 by omega]
    simp [fl]
theorem fl_take : ∀ (l : List S43) (k : Nat), fl (l.take k) = (fl l).take (k * 2)
  | l, 0 => by simp [fl]
  | [], k + 1 => by simp [fl]
  | p :: l, k + 1 => by
    rw [List.take_succ_cons, show (k + 1) * 2 = k * 2 + 1 + 1 by omega]
    simp [fl, fl_take l k]
theorem fl_one : ∀ (l : List S43), ∀ u ∈ fl l, u.oneCell' = true
  | [], u, h => by simp [fl] at h
  | p :: l, u, h => by
    simp only [fl, List.mem_cons] at h
    rcases h with rfl | rfl | h
    · rfl
    · rfl
    · exact fl_one l u h
theorem fl_seg : ∀ (l : List S43) (j : Nat) (p : S43), l[j]? = some p → ((fl l).drop (j * 2)).take 2 = [.int .i64 p.f0, .int .i64 p.f1] := by
  intro l j p h
  rw [← fl_drop]
  obtain ⟨hj, rfl⟩ := List.getElem?_eq_some_iff.1 h
  rw [List.drop_eq_getElem_cons hj]
  rfl

theorem own43 {w : World} {base : Nat} {v : Value} {l : List S43} {ok : Nat → Prop} (h : Kd.R k43 43 w base ok v l) : w.ownsRow base 43 2 v l.length (fl l) := by
  obtain ⟨_, inner, ho, hr⟩ := h
  have e : inner = fl l := by
    apply List.ext_getElem?
    intro i
    have hl : inner.length = l.length * 2 := hr.1
    rcases Nat.lt_or_ge (i / 2) l.length with hj | hj
    · have h2 := k43_openM (hr.2 (i / 2) _ (List.getElem?_eq_getElem hj))
      have h3 := fl_seg l (i / 2) _ (List.getElem?_eq_getElem hj)
      have h4 : ((inner.drop (i / 2 * 2)).take 2)[i % 2]? = (((fl l).drop (i / 2 * 2)).take 2)[i % 2]? := by
        rw [h3]; exact congrArg (fun x : List Value => x[i % 2]?) h2
      rw [List.getElem?_take, List.getElem?_take, List.getElem?_drop, List.getElem?_drop, if_pos (by omega), if_pos (by omega), show i / 2 * 2 + i % 2 = i by omega] at h4
      exact h4
    · rw [List.getElem?_eq_none (by omega), List.getElem?_eq_none (by rw [fl_length]; omega)]
  rw [← e]; exact ho
theorem R43 {w : World} {base : Nat} {v : Value} {l : List S43} (h : w.ownsRow base 43 2 v l.length (fl l)) : Kd.R k43 43 w base (fun _ => True) v l :=
  ⟨fun _ _ => trivial, fl l, h, fl_length l, fun j p hp => by
    have := fl_seg l j p hp
    show k43.M w base _ p (((fl l).drop (j * 2)).take 2)
    rw [this]
    exact k43_mkM _ _ _ p⟩

theorem clear1 (W : World) (ty : TypeId) (b o c : Nat) (hc : ∀ j, j < 2 → (W.cell? ⟨b, o + j, none⟩).isSome = true) (hf : ∀ j, j < 2 → W.frozen? ⟨b, o + j, none⟩ = false) :
    (Builtin.clear_ #[22] ty #[.slice (some ⟨b, o, none⟩) 1 c]).run Try.prog W = .ok (.tuple #[]) (W.setCells b o [.int .i64 0, .int .i64 0]) := by
  obtain ⟨i0, hi, hz0, hz1, hz2⟩ := info_parts info43
  have hv : ∀ W : World, (zeroValue 43).run Try.prog W = .ok (.agg #[.int .i64 0, .int .i64 0]) W := fun W => by kernel_rfl
  have hzc : (Builtin.zeroCells (Value.agg #[.int .i64 0, .int .i64 0]).cells 1).toList = [.int .i64 0, .int .i64 0] := by kernel_rfl
  have hst := run_storeCells_cells (P := Try.prog) b o [.int .i64 0, .int .i64 0] 0 W (by simpa using hc) (by simpa using hf) (by intro v hv'; simp at hv'; subst hv'; rfl)
  simp only [Nat.add_zero] at hst
  simp [Builtin.clear_, run_underlying Try.underlying22, hv, hzc, hst]

theorem grown_setCells (W : World) (g o : Nat) (vs : List Value) : W.grownBy (W.setCells g o vs) (some g) := by
  obtain ⟨h1, h2, h3, h4⟩ := setCells_same g vs o W
  exact ⟨h1, h2, h3, by rw [h4]; exact Nat.le_refl _, fun k _ hk => setCells_far vs o k (fun e => hk (by rw [e]))⟩
theorem frozen_row {w : World} {g : Nat} {t : TypeId} {cs : Array Value} (h : w.heap[g]? = some (.cells cs t (0, 0))) (i : Nat) : w.frozen? ⟨g, i, none⟩ = false := blk_frozen h i

set_option maxHeartbeats 4000000 in
set_option maxRecDepth 100000 in
theorem delete43 (w : World) (base g cap : Nat) (l : List S43) (k : Nat) (hk : k < l.length) (hle : l.length ≤ 12) (hown : w.ownsRow base 43 2 (.slice (some ⟨g, 0, none⟩) l.length cap) l.length (fl l)) :
    Calls Try.prog 114 #[.slice (some ⟨g, 0, none⟩) l.length cap, .int .i64 k, .int .i64 (k + 1)] w fun e w' => e = .returned (.slice (some ⟨g, 0, none⟩) (k + (l.length - (k + 1))) cap) ∧
      w'.ownsRow base 43 2 (.slice (some ⟨g, 0, none⟩) (l.eraseIdx k).length cap) (l.eraseIdx k).length (fl (l.eraseIdx k)) ∧ Below base w w' := by
  have hu43 := Try.underlying43
  obtain ⟨i0, hi0, _, hz1, _⟩ := info_parts info43
  obtain ⟨hlen0, h2⟩ := hown
  obtain ⟨cur, hbase, hcur, hnc, hcm, hcs, htk⟩ : ∃ cur, base ≤ g ∧ w.heap[g]? = some (.cells cur 43 (0, 0)) ∧ l.length ≤ cap ∧ cap ≤ maxLen ∧ cur.size = cap * 2 ∧ cur.toList.take (l.length * 2) = fl l := by
    rcases h2 with ⟨he, _⟩ | ⟨g', cap', cur, he, h3, h4, h5, h6, h7, h8⟩
    · cases he
    · cases he
      exact ⟨cur, h3, h4, h5, h6, h7, h8⟩
  clear h2 hlen0
  have hcmax : cap ≤ 9223372036854775807 := hcm
  have hcl : ∀ (t : Nat) (u : Value), (fl l)[t]? = some u → cur[t]? = some u := by
    intro t u hu
    have ht : t < l.length * 2 := by
      have := (List.getElem?_eq_some_iff.1 hu).1
      rwa [fl_length] at this
    rw [← htk, List.getElem?_take, if_pos ht, Array.getElem?_toList] at hu
    exact hu
  obtain ⟨news, hnews⟩ : ∃ news, news = fl (l.drop (k + 1)) := ⟨_, rfl⟩
  have hlen : news.length = (l.length - (k + 1)) * 2 := by rw [hnews, fl_length, List.length_drop]
  obtain ⟨A, hA, hsrc⟩ : ∃ A : Addr, (if cap = k + 1 then (some (⟨g, 0, none⟩ : Addr)) else some ⟨g, (k + 1) * 2, none⟩) = some A ∧ Aside0 (∀ (t : Nat) (u : Value), news[t]? = some u → w.drew.cell? (A.add t) = some u) := by
    by_cases h : cap = k + 1
    · refine ⟨⟨g, 0, none⟩, by simp [h], ⟨fun t u hu => ?_⟩⟩
      have h0 : news.length = 0 := by rw [hlen]; omega
      rw [List.length_eq_zero_iff.1 h0] at hu
      simp at hu
    · refine ⟨⟨g, (k + 1) * 2, none⟩, by simp [h], ⟨fun t u hu => ?_⟩⟩
      rw [hnews, fl_drop, List.getElem?_drop] at hu
      rw [add_at]
      exact (blk_cell hcur _).trans (hcl _ _ hu)
  have s1 : Aside0 (news.length = (l.length - (k + 1)) * 2) := ⟨hlen⟩
  have s2 : Aside0 (∀ u ∈ news, u.oneCell' = true) := ⟨by rw [hnews]; exact fl_one _⟩
  have s3 : Aside0 (∀ t, t < news.length → (w.drew.cell? ⟨g, 0 + k * 2 + t, none⟩).isSome = true ∧ w.drew.frozen? ⟨g, 0 + k * 2 + t, none⟩ = false) := by
    refine ⟨fun t ht => ?_⟩
    rw [hlen] at ht
    refine ⟨?_, blk_frozen hcur _⟩
    have : w.drew.cell? ⟨g, 0 + k * 2 + t, none⟩ = cur[0 + k * 2 + t]? := blk_cell hcur _
    rw [this, Array.getElem?_eq_getElem (by omega)]
    rfl
  obtain ⟨W1, hW1⟩ : ∃ W1, W1 = w.drew.setCells g (0 + k * 2) news := ⟨_, rfl⟩
  obtain ⟨cur1, hc1, hs1, ht1⟩ := setCells_row news (0 + k * 2) w.drew cur hcur (by rw [hlen]; omega)
  have hg1 := grown_setCells w.drew g (0 + k * 2) news
  rw [← hW1] at hc1 hg1
  have hclr : ∀ ty, (Builtin.clear_ #[22] ty #[.slice (some ⟨g, (k + (l.length - (k + 1))) * 2, none⟩) (l.length - (k + (l.length - (k + 1)))) (cap - (k + (l.length - (k + 1))))]).run Try.prog W1 = .ok (.tuple #[]) (W1.setCells g ((k + (l.length - (k + 1))) * 2) [.int .i64 0, .int .i64 0]) := by
    intro ty
    rw [show l.length - (k + (l.length - (k + 1))) = 1 by omega]
    refine clear1 W1 ty g _ _ (fun j hj => ?_) (fun j _ => blk_frozen hc1 _)
    rw [blk_cell hc1, Array.getElem?_eq_getElem (by omega)]
    rfl
  have X : Aside0 (Below base w (W1.setCells g ((k + (l.length - (k + 1))) * 2) [.int .i64 0, .int .i64 0]) ∧ (W1.setCells g ((k + (l.length - (k + 1))) * 2) [.int .i64 0, .int .i64 0]).ownsRow base 43 2 (.slice (some ⟨g, 0, none⟩) (l.eraseIdx k).length cap) (l.eraseIdx k).length (fl (l.eraseIdx k))) := by
    obtain ⟨cur2, hc2, hs2, ht2⟩ := setCells_row [.int .i64 0, .int .i64 0] ((k + (l.length - (k + 1))) * 2) W1 cur1 hc1 (by simp only [List.length_cons, List.length_nil]; omega)
    have hg2 := grown_setCells W1 g ((k + (l.length - (k + 1))) * 2) [.int .i64 0, .int .i64 0]
    have hle' : (l.eraseIdx k).length = k + (l.length - (k + 1)) := by rw [List.length_eraseIdx, if_pos hk]; omega
    have hblk := blk_lt hcur
    refine ⟨⟨⟨hg2.os.trans hg1.os, hg2.tape.trans hg1.tape, hg2.output.trans hg1.output, Nat.le_trans hg1.size hg2.size, fun i hi => ?_⟩, fl_length _, .inr ⟨g, cap, cur2, rfl, hbase, hc2, by omega, hcm, by omega, ?_⟩⟩⟩
    · have hne : some i ≠ some g := by intro e; have := Option.some.inj e; omega
      have h1 := hg1.block i (show i < w.heap.size by omega) hne
      have h2 := hg2.block i (Nat.lt_of_lt_of_le (show i < w.heap.size by omega) hg1.size) hne
      exact h2.trans h1
    · have hA1 : cur.toList.take (0 + k * 2) = fl (l.take k) := by
        rw [fl_take, ← htk, List.take_take, Nat.zero_add, Nat.min_eq_left (by omega)]
      have hlA : (fl (l.take k)).length = k * 2 := by rw [fl_length, List.length_take]; omega
      rw [ht2, ht1, hA1, hle']
      have hl1 : (fl (l.take k) ++ news ++ List.drop (0 + k * 2 + news.length) cur.toList).length ≥ (k + (l.length - (k + 1))) * 2 := by
        rw [List.length_append, List.length_append, hlA, hlen]; omega
      have hl2 : (fl (l.take k) ++ news).length = (k + (l.length - (k + 1))) * 2 := by rw [List.length_append, hlA, hlen]; omega
      rw [List.append_assoc (List.take _ _), List.take_append_of_le_length (by rw [List.length_take]; omega), List.take_take, Nat.min_self, List.take_append_of_le_length (by omega), List.take_of_length_le (by omega), hnews, ← fl_append, ← List.eraseIdx_eq_take_drop_succ]
  have hW : Aside0 (W1 = w.drew.setCells g (0 + k * 2) news) := ⟨hW1⟩
  have hkc : k ≤ cap := by omega
  have hk1c : k + 1 ≤ cap := by omega
  have HI := Aside0.mk hi0
  have hq1 : (0 : Int) ≤ (k : Int) + 1 := by omega
  have hq2 : (k : Int) + 1 ≤ (l.length : Int) := by omega
  clear hW1 hg1 hc1 hs1 ht1 hcl hcur hcs htk hnews hlen hcm
  go_enter Try.func114, Try.ntmps114
  go_wp2_with fail
  go_region_law (refine step_append_room rfl (.tmp 22) (.tmp 25) 22 rfl 43 i0 2 Try.underlying22 HI.out hz1 g 0 k cap (by simp [Act.eval, Act.put]) A (l.length - (k + 1)) (cap - (k + 1)) news (by simp [Act.eval, Act.put]) s1.out hsrc.out s2.out (by omega) s3.out ?_; rw [← hW.out])
  go_wp2_with fail
  go_ret
  exact ⟨rfl, X.out.2, X.out.1⟩

set_option maxHeartbeats 4000000 in
set_option maxRecDepth 100000 in
theorem secret_without.calls (A0 : Option Addr) (c0 : Nat) (l0 : List (S43)) (a1 : Int) (r : List (S43)) (w : World) (hr0 : Kd.C k43 w A0 l0.length l0) (hc0 : l0.length ≤ c0) (h : secret_without.f l0 a1 = some r) :
    Calls Try.prog 100 #[.slice A0 l0.length c0, .int .i64 a1] w fun e w' => ∃ v0_ : Value, e = .returned (v0_) ∧ Kd.R k43 43 w' w.heap.size (fun _ => True) v0_ r ∧ Below w.heap.size w w' := by
  unfold secret_without.f at h
  split at h
  · rename_i hg
    obtain ⟨hle, h0, h1⟩ := hg
    obtain ⟨k, rfl⟩ := Int.eq_ofNat_of_zero_le h0
    have hk : k < l0.length := by omega
    simp only [Int.toNat_natCast] at h
    obtain rfl := Option.some.inj h
    clear h h0 h1
    have HCL := Aside0.mk (api_Part_93.calls A0 c0 l0 l0 w hr0 hc0 (by unfold api_Part_93.f; rw [if_pos hle]))
    clear hr0 hc0
    go_enter Try.func100, Try.ntmps100
    go_wp2_with fail
    with_reducible refine HCL.out.mono ?_
    rintro e w1 ⟨v0, rfl, hR, hb⟩
    obtain ⟨g, cap, hv⟩ : ∃ g cap, v0 = .slice (some ⟨g, 0, none⟩) l0.length cap := by
      rcases (own43 hR).2 with ⟨_, h0⟩ | ⟨g, cap, _, rfl, _⟩
      · omega
      · exact ⟨g, cap, rfl⟩
    subst hv
    have HD := Aside0.mk (delete43 w1 w.heap.size g cap l0 k hk hle (own43 hR))
    have HB := Aside0.mk hb
    clear hR hb
    go_wp2_with fail
    with_reducible refine HD.out.mono ?_
    rintro e w2 ⟨rfl, ho2, hb2⟩
    have HO2 := Aside0.mk ho2
    have HB2 := Aside0.mk hb2
    clear ho2 hb2
    have HL : Aside0 ((l0.eraseIdx k).length = k + (l0.length - (k + 1))) := ⟨by rw [List.length_eraseIdx, if_pos hk]; omega⟩
    go_wp2_with fail
    go_ret
    refine ⟨_, rfl, ?_, HB.out.trans HB2.out⟩
    have := R43 HO2.out
    rw [HL.out] at this
    exact this
  · cases h
end Go.Proofs.Ythlbjdiicmojfaa.P

/-! Part H90. -/
namespace Go.Proofs.Ythlbjdiicmojfaa.P
open Go.RowKit Go.Proofs.YthlbjdiicmojfaaW.PrintWords Go.Proofs.YthlbjdiicmojfaaW.PrintLast Go.Proofs.YthlbjdiicmojfaaW.PrintMore
set_option linter.unusedVariables false

set_option maxHeartbeats 4000000 in
set_option maxRecDepth 100000 in
theorem off113 (x y : Int) (B : Nat) (A : Option Addr) (cap : Nat) (c : List Int) (r : Int) (w : World) (hB : w.heap[B]? = some (.cells #[.slice A c.length cap] 68 (0, 0))) (hC : Kd.C (Kd.int .i64) w A c.length c) (hc : c.length ≤ cap) (h : secret_curve_at.f c x = some r) :
    Calls Try.prog 113 #[.agg #[.int .i64 x, .int .i64 y], .pointer (some ⟨B, 0, none⟩)] w fun e w' => e = .returned (.bool (r != y)) ∧ Below w.heap.size w w' := by
  have hu43 := Try.underlying43
  have hal := below_alloc (Below.refl w.heap.size w) (.cells #[.int .i64 x, .int .i64 y] 43)
  have hc1 : (w.alloc (.cells #[.int .i64 x, .int .i64 y] 43)).cell? ⟨B, 0, none⟩ = some (.slice A c.length cap) := pw_cell_below hal (blk_cell hB 0)
  have hc2 : (w.alloc (.cells #[.int .i64 x, .int .i64 y] 43)).cell? ⟨w.heap.size, 0, none⟩ = some (.int .i64 x) := blk_cell (alloc_new w (.cells #[.int .i64 x, .int .i64 y] 43)).2 0
  have hc3 : (w.alloc (.cells #[.int .i64 x, .int .i64 y] 43)).cell? ⟨w.heap.size, 1, none⟩ = some (.int .i64 y) := blk_cell (alloc_new w (.cells #[.int .i64 x, .int .i64 y] 43)).2 1
  have HAL := Aside0.mk hal
  have HC := Aside0.mk (Kd.C_below hC hal)
  have H1 := Aside0.mk hc1
  have H2 := Aside0.mk hc2
  have H3 := Aside0.mk hc3
  have HL := Aside0.mk hc
  have HF := Aside0.mk h
  obtain ⟨n0, hn0⟩ : ∃ n0, w.heap.size = n0 := ⟨_, rfl⟩
  have HN0 := Aside0.mk hn0
  clear hal hc1 hc2 hc3 hB hC hc h
  rw [hn0] at HAL H2 H3
  go_enter Try.func113, Try.ntmps113
  go_wp2_with fail
  clear hn0
  generalize w.alloc (.cells #[.int .i64 x, .int .i64 y] 43) = w1 at HAL HC H1 H2 H3 ⊢
  have h1 := H1.out
  have h2 := H2.out
  have h3 := H3.out
  go_region_held3 (fun w' => w'.cell? ⟨B, 0, none⟩ = some (.slice A c.length cap) ∧ w'.cell? ⟨n0, 0, none⟩ = some (.int .i64 x) ∧ w'.cell? ⟨n0, 1, none⟩ = some (.int .i64 y))
    (first | go_keep | exact ⟨HK1.out, HK2.out, HK3.out⟩)
    ((go_at_call 80; refine (secret_curve_at.calls A cap c x r _ (Kd.C_drew HC.out) HL.out HF.out).mono ?_; rintro e w2 ⟨rfl, hb⟩; have HK1 := Aside0.mk (pw_cell_below hb H1.out); have HK2 := Aside0.mk (pw_cell_below hb H2.out); have HK3 := Aside0.mk (pw_cell_below hb H3.out); have HB2 := Aside0.mk (hb); clear hb))
  go_wp2_with fail
  go_ret
  have hfin := HAL.out
  rw [← HN0.out] at hfin
  exact ⟨rfl, below_step (below_drew hfin) HB2.out⟩

theorem eg113 : ∀ args w, (callFunc 113 args).run Try.prog w = .ok (.enter 113 args) w := enters_of Try.func113 (by kernel_rfl) rfl
theorem interp_length (p : List (Int × Int)) : (interp p).length = p.length := interpTo_length p p.length (Nat.le_refl _)
theorem interp_num (p : List (Int × Int)) : ∀ n ∈ interp p, num n = true := interpTo_num p p.length
theorem at_eq {c : List Int} {x : Int} (h : ∀ n ∈ c, num n = true) (hl : c.length ≤ 12) (hx : num x = true) : secret_curve_at.f c x = some (atI c x) := by
  unfold secret_curve_at.f
  rw [if_pos]
  simp only [Bool.and_eq_true, List.all_eq_true, decide_eq_true_eq]
  exact ⟨⟨h, hx⟩, hl⟩
theorem valid_take {l : List S43} (h : valid l = 0) (n : Nat) : valid (l.take n) = 0 := by
  obtain ⟨h1, h2, h3⟩ := valid_iff.1 h
  refine valid_iff.2 ⟨by rw [List.length_take]; omega, fun p hp => h2 p (List.mem_of_mem_take hp), ?_⟩
  rw [List.map_take]
  exact h3.sublist (List.take_sublist _ _)
theorem not_any_ne (l : List S43) (c : List Int) : (!(l.any fun q => atI c q.f0 != q.f1)) = l.all fun q => atI c q.f0 == q.f1 := by
  rw [List.not_any_eq_all_not]
  congr 1
  funext q
  simp [bne]

set_option maxHeartbeats 4000000 in
set_option maxRecDepth 100000 in
theorem secret_lieOn.calls (A0 : Option Addr) (c0 : Nat) (l0 : List (S43)) (a1 : Int) (r : Bool) (w : World) (hr0 : Kd.C k43 w A0 l0.length l0) (hc0 : l0.length ≤ c0) (h : secret_lieOn.f l0 a1 = some r) :
    Calls Try.prog 90 #[.slice A0 l0.length c0, .int .i64 a1] w fun e w' => e = .returned (.bool r) ∧ Below w.heap.size w w' := by
  unfold secret_lieOn.f at h
  split at h
  · rename_i hg
    obtain ⟨hv, h1, h6⟩ := hg
    obtain ⟨n, rfl⟩ := Int.eq_ofNat_of_zero_le (show 0 ≤ a1 by omega)
    rw [Int.toNat_natCast] at h
    have hr := Option.some.inj h
    have HR := Aside0.mk hr
    have hu43 := Try.underlying43
    clear h hr
    by_cases hle : l0.length ≤ n
    · have HE : Aside0 (lies l0 n = true) := ⟨by unfold lies; simp [hle]⟩
      have hlez : (l0.length : Int) ≤ (n : Int) := by omega
      clear hr0
      go_enter Try.func90, Try.ntmps90
      go_wp2_with fail
      go_ret
      exact ⟨by rw [← HR.out, HE.out]; rfl, Below.refl _ _⟩
    · have hlez : ¬ (l0.length : Int) ≤ (n : Int) := by omega
      have hlt2 : (l0.take n).length = n := by rw [List.length_take]; omega
      have hvt := valid_take hv n
      have HO := Aside0.mk (secret_of.calls A0 c0 (l0.take n) (interp (pts (l0.take n))) w (Kd.C_take hr0 (by omega)) (by omega) (by unfold secret_of.f; rw [if_pos hvt]))
      rw [hlt2] at HO
      have hcl : (interp (pts (l0.take n))).length = n := by rw [interp_length, pts, List.length_map, hlt2]
      have HE : Aside0 (lies l0 n = l0.all fun q => atI (interp (pts (l0.take n))) q.f0 == q.f1) := ⟨by unfold lies; rw [show decide (l0.length ≤ n) = false by simp; omega, Bool.false_or]⟩
      have hat : ∀ q ∈ l0, secret_curve_at.f (interp (pts (l0.take n))) q.f0 = some (atI (interp (pts (l0.take n))) q.f0) := fun q hq => at_eq (interp_num _) (by omega) (num_iff.2 (by have := okP_iff.1 ((valid_iff.1 hv).2.1 q hq); omega))
      have HAT := Aside0.mk hat
      have HCL := Aside0.mk hcl
      obtain ⟨c, hc⟩ : ∃ c, interp (pts (l0.take n)) = c := ⟨_, rfl⟩
      rw [hc] at HO HE HAT HCL
      have HR0 := Aside0.mk hr0
      have HC0 := Aside0.mk hc0
      have hnc : n ≤ c0 := by omega
      have hnl : (n : Int) ≤ (l0.length : Int) := by omega
      clear hc hcl hat hvt hlt2 hv hr0 hc0
      go_enter Try.func90, Try.ntmps90
      go_wp2_with fail
      with_reducible refine HO.out.mono ?_
      rintro e w1 ⟨v, rfl, hR, hb⟩
      obtain ⟨A, cap, e1⟩ := Kd.R_slice hR
      subst e1
      have HB := Aside0.mk hb
      have HRR := Aside0.mk hR
      clear hR hb HO
      obtain ⟨n1, hn1⟩ : ∃ n1, w1.heap.size = n1 := ⟨_, rfl⟩
      have HN1 := Aside0.mk hn1
      clear hn1
      go_wp2_with fail
      have hpred : PredB 113 #[.pointer (some ⟨w1.heap.size, 0, none⟩)] enc43 (fun q => atI c q.f0 != q.f1) l0 (w1.alloc (.cells #[.slice A c.length cap] 68)) := fun W q hq hb =>
        off113 q.f0 q.f1 w1.heap.size A cap c _ W ((hb.block w1.heap.size (alloc_new w1 _).1).trans (alloc_new w1 _).2) (Kd.C_below (Kd.C_alloc (Kd.R_reads' HRR.out).2.2 _) hb) (Kd.R_reads' HRR.out).2.1 (HAT.out q hq)
      with_reducible refine (contains43 A0 c0 l0 113 _ _ eg113 _ (Kd.C_alloc (Kd.C_below HR0.out HB.out) _) hpred).mono ?_
      rintro e w2 ⟨rfl, hb2⟩
      have HB2 := Aside0.mk (below_step (below_alloc HB.out _) hb2)
      clear hb2 hpred
      generalize hbv : (l0.any fun q => atI c q.f0 != q.f1) = bv
      have HBV := Aside0.mk hbv
      clear hbv
      go_wp2_with fail
      go_ret
      exact ⟨by rw [← HR.out, HE.out, ← not_any_ne, HBV.out]; rfl, HB2.out⟩
  · cases h
end Go.Proofs.Ythlbjdiicmojfaa.P

/-! Part PF106. -/
-- Written for this claim by wip/print_more.py (a session's program that runs the kit's printer with hand-proved functions beside). Lean checks it.
namespace Go.Proofs.Ythlbjdiicmojfaa.P
open Go.RowKit Go.Proofs.YthlbjdiicmojfaaW.PrintWords Go.Proofs.YthlbjdiicmojfaaW.PrintLast Go.Proofs.YthlbjdiicmojfaaW.PrintMore
attribute [local go_sem] max2_int min2_int max_two min_two max_three min_three max_four min_four   -- for this text's walks alone
set_option linter.unusedVariables false
set_option linter.unusedSimpArgs false

/-! ### secret_wrong: function 106 -/
def secret_wrong.l0 : Nat → List (S43) → Int → List Int → Int → Int → Option (Int × Bool)
  | 0, _, _, _, _, _ => none
  | k + 1, x0, x1, x6, x12, x13 => if x13 < x12 then ((secret_without.f x0 x13).bind fun t629 => ((secret_lieOn.f t629 x1).bind fun t632 => (if t632 = true then (if x6.length < 17592186044416 then (secret_wrong.l0 k x0 x1 (x6 ++ [x13]) x12 (wrap64 (x13 + 1))) else (none)) else (secret_wrong.l0 k x0 x1 x6 x12 (wrap64 (x13 + 1)))))) else (if (x6.length : Int) = 1 then (if 0 < (x6.length : Int) then (some (rd x6 0, true)) else (none)) else (some (0, false)))
def secret_wrong.f (k : Nat) (l0 : List (S43)) (a1 : Int) : Option (Int × Bool) := (secret_lieOn.f l0 a1).bind fun t627 => (if t627 = true then (some (0, false)) else (secret_wrong.l0 k l0 a1 ([] : List Int) (l0.length : Int) 0))
theorem secret_wrong.mono_l : ∀ k, (∀ y0 y1 y2 y3 y4, LeO (secret_wrong.l0 k y0 y1 y2 y3 y4) (secret_wrong.l0 (k + 1) y0 y1 y2 y3 y4))
  | 0 => fun _ _ _ _ _ r h => by simp [secret_wrong.l0] at h
  | k + 1 => by
    have ih0 := secret_wrong.mono_l k
    · intro y0 y1 y2 y3 y4
      unfold secret_wrong.l0
      repeat' first
      | (with_reducible exact ih0 _ _ _ _ _)
      | (with_reducible exact LeO.refl _)
      | (with_reducible exact LeO.none _)
      | (with_reducible refine LeO.ite ?_ ?_)
      | (with_reducible refine LeO.bind ?_ (fun _ => ?_))
      | exact ih0 _ _ _ _ _
      | exact LeO.none _
      | refine LeO.ite ?_ ?_
      | refine LeO.bind ?_ (fun _ => ?_)
theorem secret_wrong.mono : ∀ a0 a1 k, LeO (secret_wrong.f k a0 a1) (secret_wrong.f (k + 1) a0 a1) := by
  intro a0 a1 k
  have ih0 := secret_wrong.mono_l k
  unfold secret_wrong.f
  repeat' first
      | (with_reducible exact ih0 _ _ _ _ _)
      | (with_reducible exact LeO.refl _)
      | (with_reducible exact LeO.none _)
      | (with_reducible refine LeO.ite ?_ ?_)
      | (with_reducible refine LeO.bind ?_ (fun _ => ?_))
      | exact ih0 _ _ _ _ _
      | exact LeO.none _
      | refine LeO.ite ?_ ?_
      | refine LeO.bind ?_ (fun _ => ?_)
set_option maxHeartbeats 8000000 in
set_option maxRecDepth 100000 in
theorem secret_wrong.calls (k : Nat) (A0 : Option Addr) (c0 : Nat) (l0 : List (S43)) (a1 : Int) (r1 : Int) (r2 : Bool) (w : World) (hr0 : Kd.C k43 w A0 l0.length l0) (hc0 : l0.length ≤ c0) (h : secret_wrong.f k l0 a1 = some (r1, r2)) :
    Calls Try.prog 106 #[.slice A0 l0.length c0, .int .i64 a1] w fun e w' => e = .returned (.tuple #[.int .i64 r1, .bool r2]) ∧ Below w.heap.size w w' := by
  have HR0 := Aside0.mk hr0
  have HC0 := Aside0.mk hc0
  clear hr0 hc0
  have HB := Aside0.mk (Below.refl w.heap.size w)
  have H : ((secret_lieOn.f l0 a1).bind fun t627 => (if t627 = true then (some (0, false)) else (secret_wrong.l0 k l0 a1 ([] : List Int) (l0.length : Int) 0))) = some (r1, r2) := h
  clear h
  replace H := Option.bind_eq_some_iff.mp H
  obtain ⟨t627, A30, H⟩ := H
  replace H : (if t627 = true then (some (0, false)) else (secret_wrong.l0 k l0 a1 ([] : List Int) (l0.length : Int) 0)) = some (r1, r2) := H
  have A3 := Aside0.mk A30
  clear A30
  by_cases c4 : t627 = true
  · subst c4
    have H1 : (some (0, false)) = some (r1, r2) := by rw [if_pos rfl] at H; exact H
    clear H
    have H := H1
    clear H1
    simp only [Option.some.injEq, Prod.mk.injEq] at H
    obtain ⟨rfl, rfl⟩ := H
    go_enter Try.func106, Try.ntmps106
    go_wp2_with (first | ((with_reducible refine gate_callee (f := 90) rfl ?_); refine goesL_ (some 10) rfl rfl Try.func90 (by kernel_rfl) rfl #[.slice A0 l0.length c0, .int .i64 a1] rfl (by (try simp only [List.map_toArray, List.map_cons, List.map_nil]); first | done | rfl | (simp only [List.length_drop, List.length_take]; rfl)) ?_; (with_reducible refine (secret_lieOn.calls _ _ l0 a1 true _ ?side1 ?side2 A3.out).mono ?_); (case side1 => repeat (first | exact HR0.out | (with_reducible refine Kd.C_alloc ?_ _) | (with_reducible refine Kd.C_drewN ?_ _) | (with_reducible refine Kd.C_drew ?_))); (case side2 => exact HC0.out); rintro e w5 ⟨rfl, hb⟩; refine ⟨_, rfl, ?_⟩; have n0_ := Aside0.mk (below_step (by repeat (first | (with_reducible first | exact HB.out | apply below_alloc | apply pw_below_drewN | apply below_drew1) | exact HB.out)) hb); clear HB; have HB := n0_; clear n0_; (try clear hb); (try clear hb2); (try clear hk); (try clear hi)))
    go_ret2
    exact ⟨by first | rfl | (simp [errW_none, errW_some] <;> rfl) | (simp [*, errW_none, errW_some] <;> rfl), by repeat (first | (with_reducible first | exact HB.out | apply below_alloc | apply pw_below_drewN | apply below_drew1) | exact HB.out)⟩
  · replace c4 := Bool.eq_false_iff.mpr c4
    subst c4
    have H1 : (secret_wrong.l0 k l0 a1 ([] : List Int) (l0.length : Int) 0) = some (r1, r2) := by rw [if_neg (show ¬ (false = true) by decide)] at H; exact H
    clear H
    have H := H1
    clear H1
    have H' := Aside0.mk H
    clear H
    go_enter Try.func106, Try.ntmps106
    go_wp2_with (first | ((with_reducible refine gate_callee (f := 90) rfl ?_); refine goesL_ (some 10) rfl rfl Try.func90 (by kernel_rfl) rfl #[.slice A0 l0.length c0, .int .i64 a1] rfl (by (try simp only [List.map_toArray, List.map_cons, List.map_nil]); first | done | rfl | (simp only [List.length_drop, List.length_take]; rfl)) ?_; (with_reducible refine (secret_lieOn.calls _ _ l0 a1 false _ ?side1 ?side2 A3.out).mono ?_); (case side1 => repeat (first | exact HR0.out | (with_reducible refine Kd.C_alloc ?_ _) | (with_reducible refine Kd.C_drewN ?_ _) | (with_reducible refine Kd.C_drew ?_))); (case side2 => exact HC0.out); rintro e w6 ⟨rfl, hb⟩; refine ⟨_, rfl, ?_⟩; have n0_ := Aside0.mk (below_step (by repeat (first | (with_reducible first | exact HB.out | apply below_alloc | apply pw_below_drewN | apply below_drew1) | exact HB.out)) hb); clear HB; have HB := n0_; clear n0_; (try clear hb); (try clear hb2); (try clear hk); (try clear hi)))
    go_loopg [6, 13] k (fun kq v6 v13 w' => ∃ (x6_1 : List Int) (x13_1 : Int), v13 = .int .i64 x13_1 ∧ Aside0 (secret_wrong.l0 kq l0 a1 x6_1 (l0.length : Int) x13_1 = some (r1, r2)) ∧ Aside0 (kq ≤ k) ∧ Aside0 (Kd.R (Kd.int .i64) 3 w' w.heap.size (fun _ => True) v6 x6_1) ∧ Aside0 (Below w.heap.size w w'))
    case atStart => exact ⟨(([] : List Int)), (0), (by first | rfl | (simp; done) | (simp [*]; done)), H', ⟨Nat.le_refl _⟩, ⟨by first | exact Kd.R_nil _ _ _ _ _ | exact Kd.N_nil _ _ _ _ _ | exact Kd.V_nil _ _ _ _ _ | exact Kd.Q_nil _ _ _ _ _ | exact Kd.S_nil _ _ _ _ _⟩, ⟨by repeat (first | (with_reducible first | exact HB.out | apply below_alloc | apply pw_below_drewN | apply below_drew1) | exact HB.out)⟩⟩
    case round =>
      clear H'
      try clear c1
      try clear p2
      try clear c4
      obtain ⟨x6_1, x13_1, rfl, HA, HK1, HO_6, HB⟩ := hrel
      cases gk with
      | zero => exact absurd HA.out (by simp [secret_wrong.l0])
      | succ k1 =>
        have H := HA.out
        clear HA
        simp only [secret_wrong.l0] at H
        by_cases c7 : x13_1 < (l0.length : Int)
        · rw [if_pos c7] at H
          have c7b0 : decide (x13_1 < (l0.length : Int)) = true := decide_eq_true c7
          clear c7
          replace H := Option.bind_eq_some_iff.mp H
          obtain ⟨t629, A80, H⟩ := H
          replace H : ((secret_lieOn.f t629 a1).bind fun t632 => (if t632 = true then (if x6_1.length < 17592186044416 then (secret_wrong.l0 k1 l0 a1 (x6_1 ++ [x13_1]) (l0.length : Int) (wrap64 (x13_1 + 1))) else (none)) else (secret_wrong.l0 k1 l0 a1 x6_1 (l0.length : Int) (wrap64 (x13_1 + 1))))) = some (r1, r2) := H
          have A8 := Aside0.mk A80
          clear A80
          replace H := Option.bind_eq_some_iff.mp H
          obtain ⟨t632, A90, H⟩ := H
          replace H : (if t632 = true then (if x6_1.length < 17592186044416 then (secret_wrong.l0 k1 l0 a1 (x6_1 ++ [x13_1]) (l0.length : Int) (wrap64 (x13_1 + 1))) else (none)) else (secret_wrong.l0 k1 l0 a1 x6_1 (l0.length : Int) (wrap64 (x13_1 + 1)))) = some (r1, r2) := H
          have A9 := Aside0.mk A90
          clear A90
          by_cases c10 : t632 = true
          · subst c10
            have H1 : (if x6_1.length < 17592186044416 then (secret_wrong.l0 k1 l0 a1 (x6_1 ++ [x13_1]) (l0.length : Int) (wrap64 (x13_1 + 1))) else (none)) = some (r1, r2) := by rw [if_pos rfl] at H; exact H
            clear H
            have H := H1
            clear H1
            by_cases c11 : x6_1.length < 17592186044416
            · rw [if_pos c11] at H
              have LMc11 := Aside0.mk c11
              clear c11
              obtain ⟨y633, hy633⟩ : ∃ y_ : List Int, y_ = (x6_1 ++ [x13_1]) := ⟨_, rfl⟩
              replace H : (secret_wrong.l0 k1 l0 a1 y633 (l0.length : Int) (wrap64 (x13_1 + 1))) = some (r1, r2) := by first | (rw [hy633]; with_reducible exact H) | (have H2_ := (Option.bind_some _ _).symm.trans H; rw [hy633]; with_reducible exact H2_) | (have H2_ := (Option.bind_some _ _).symm.trans H; with_reducible exact H2_) | with_reducible exact H | (rw [hy633]; exact H) | exact H
              have Ny633 := Aside0.mk hy633
              clear hy633
              have H' := Aside0.mk H
              clear H
              go_wp2_with (first | ((with_reducible refine gate_callee (f := 100) rfl ?_); refine goesL_ (some 18) rfl rfl Try.func100 (by kernel_rfl) rfl #[.slice A0 l0.length c0, .int .i64 x13_1] rfl (by (try simp only [List.map_toArray, List.map_cons, List.map_nil]); first | done | rfl | (simp only [List.length_drop, List.length_take]; rfl)) ?_; (with_reducible refine (secret_without.calls _ _ l0 x13_1 t629 _ ?side1 ?side2 A8.out).mono ?_); (case side1 => repeat (first | exact (Kd.C_below HR0.out HB.out) | (with_reducible refine Kd.C_alloc ?_ _) | (with_reducible refine Kd.C_drewN ?_ _) | (with_reducible refine Kd.C_drew ?_))); (case side2 => exact HC0.out); rintro e w12 ⟨v630, rfl, ho0, hb⟩; refine ⟨_, rfl, ?_⟩; have n0_ := Aside0.mk (Kd.R_below (by (with_reducible repeat (first | apply Kd.R_alloc | apply Kd.R_drewN | apply Kd.R_drew)); exact HO_6.out) hb); have n1_ := Aside0.mk (Kd.R_lower ho0 (below_size (by repeat (first | (with_reducible first | exact HB.out | apply below_alloc | apply pw_below_drewN | apply below_drew1) | exact HB.out)))); have n2_ := Aside0.mk (below_step (by repeat (first | (with_reducible first | exact HB.out | apply below_alloc | apply pw_below_drewN | apply below_drew1) | exact HB.out)) hb); clear HO_6; clear HB; have HO_6 := n0_; have HO631 := n1_; have HB := n2_; clear n0_ n1_ n2_; (try clear hb); (try clear hb2); (try clear hk); (try clear hi); (try clear ho0); obtain ⟨Ao13, co13, eo13⟩ := Kd.R_slice HO631.out; subst eo13) | ((with_reducible refine gate_callee (f := 90) rfl ?_); refine goesL_ (some 20) rfl rfl Try.func90 (by kernel_rfl) rfl #[.slice Ao13 t629.length co13, .int .i64 a1] rfl (by (try simp only [List.map_toArray, List.map_cons, List.map_nil]); first | done | rfl | (simp only [List.length_drop, List.length_take]; rfl)) ?_; (with_reducible refine (secret_lieOn.calls _ _ t629 a1 true _ ?side1 ?side2 A9.out).mono ?_); (case side1 => repeat (first | exact (Kd.R_reads' HO631.out).2.2 | (with_reducible refine Kd.C_alloc ?_ _) | (with_reducible refine Kd.C_drewN ?_ _) | (with_reducible refine Kd.C_drew ?_))); (case side2 => exact (Kd.R_reads' HO631.out).2.1); rintro e w14 ⟨rfl, hb⟩; refine ⟨_, rfl, ?_⟩; have n0_ := Aside0.mk (Kd.R_below (by (with_reducible repeat (first | apply Kd.R_alloc | apply Kd.R_drewN | apply Kd.R_drew)); exact HO_6.out) hb); have n1_ := Aside0.mk (Kd.R_below (by (with_reducible repeat (first | apply Kd.R_alloc | apply Kd.R_drewN | apply Kd.R_drew)); exact HO631.out) hb); have n2_ := Aside0.mk (below_step (by repeat (first | (with_reducible first | exact HB.out | apply below_alloc | apply pw_below_drewN | apply below_drew1) | exact HB.out)) hb); clear HO_6; clear HO631; clear HB; have HO_6 := n0_; have HO631 := n1_; have HB := n2_; clear n0_ n1_ n2_; (try clear hb); (try clear hb2); (try clear hk); (try clear hi)) | ((with_reducible refine gate_builtin (b := .append) (xs := #[.tmp 21, .tmp 23]) rfl ?_); at_builtin; refine Kd.R_append (Kd.int .i64) (w0 := w) w.heap.size rfl (.tmp 21) (.tmp 23) 26 3 (.int .i64 0) 8 rfl Try.underlying26 info3 rfl (by decide) (by omega) u6 x6_1 x13_1 [.int .i64 x13_1] (fun _ => True) (fun _ => False) rfl rfl ?aP (fun _ hk => hk.elim) ?aF ?aO ?aB ?aS ?aL ?_; (case aP => exact rfl); (case aB => exact (by repeat (first | (with_reducible first | exact HB.out | apply below_alloc | apply pw_below_drewN | apply below_drew1) | exact HB.out))); (case aF => exact (fun _ _ => trivial)); (case aO => exact (by (with_reducible repeat (first | apply Kd.R_alloc | apply Kd.R_drewN | apply Kd.R_drew)); exact HO_6.out)); (case aS => exact (below_size (by repeat (first | (with_reducible first | exact HB.out | apply below_alloc | apply pw_below_drewN | apply below_drew1) | exact HB.out)))); (case aL => have := LMc11.out; omega); intro v634 w15 ho hb hg hat; rw [← Ny633.out] at ho; have n0_ := Aside0.mk (Kd.R_over' (by (with_reducible repeat (first | apply Kd.R_alloc | apply Kd.R_drewN | apply Kd.R_drew)); exact HO631.out) (Kd.R_typed (by (with_reducible repeat (first | apply Kd.R_alloc | apply Kd.R_drewN | apply Kd.R_drew)); exact HO_6.out)) (by decide) hg); have n1_ := Aside0.mk (hb); have n2_ := Aside0.mk (ho); clear HO631; clear HB; clear HO_6; have HO631 := n0_; have HB := n1_; have HO635 := n2_; clear n0_ n1_ n2_; clear ho hb hg hat))
              go_roundg k1
              case measure => have := HK1.out; omega
              case rel => exact ⟨(y633), (wrap64 (x13_1 + 1)), (by first | rfl | (simp; done) | (simp [*]; done)), H', ⟨by have := HK1.out; omega⟩, ⟨by (with_reducible repeat (first | apply Kd.R_alloc | apply Kd.R_drewN | apply Kd.R_drew)); exact HO635.out⟩, ⟨by repeat (first | (with_reducible first | exact HB.out | apply below_alloc | apply pw_below_drewN | apply below_drew1) | exact HB.out)⟩⟩
            · rw [if_neg c11] at H
              exact absurd H (by simp)
          · replace c10 := Bool.eq_false_iff.mpr c10
            subst c10
            have H1 : (secret_wrong.l0 k1 l0 a1 x6_1 (l0.length : Int) (wrap64 (x13_1 + 1))) = some (r1, r2) := by rw [if_neg (show ¬ (false = true) by decide)] at H; exact H
            clear H
            have H := H1
            clear H1
            have H' := Aside0.mk H
            clear H
            go_wp2_with (first | ((with_reducible refine gate_callee (f := 100) rfl ?_); refine goesL_ (some 18) rfl rfl Try.func100 (by kernel_rfl) rfl #[.slice A0 l0.length c0, .int .i64 x13_1] rfl (by (try simp only [List.map_toArray, List.map_cons, List.map_nil]); first | done | rfl | (simp only [List.length_drop, List.length_take]; rfl)) ?_; (with_reducible refine (secret_without.calls _ _ l0 x13_1 t629 _ ?side1 ?side2 A8.out).mono ?_); (case side1 => repeat (first | exact (Kd.C_below HR0.out HB.out) | (with_reducible refine Kd.C_alloc ?_ _) | (with_reducible refine Kd.C_drewN ?_ _) | (with_reducible refine Kd.C_drew ?_))); (case side2 => exact HC0.out); rintro e w16 ⟨v630, rfl, ho0, hb⟩; refine ⟨_, rfl, ?_⟩; have n0_ := Aside0.mk (Kd.R_below (by (with_reducible repeat (first | apply Kd.R_alloc | apply Kd.R_drewN | apply Kd.R_drew)); exact HO_6.out) hb); have n1_ := Aside0.mk (Kd.R_lower ho0 (below_size (by repeat (first | (with_reducible first | exact HB.out | apply below_alloc | apply pw_below_drewN | apply below_drew1) | exact HB.out)))); have n2_ := Aside0.mk (below_step (by repeat (first | (with_reducible first | exact HB.out | apply below_alloc | apply pw_below_drewN | apply below_drew1) | exact HB.out)) hb); clear HO_6; clear HB; have HO_6 := n0_; have HO631 := n1_; have HB := n2_; clear n0_ n1_ n2_; (try clear hb); (try clear hb2); (try clear hk); (try clear hi); (try clear ho0); obtain ⟨Ao17, co17, eo17⟩ := Kd.R_slice HO631.out; subst eo17) | ((with_reducible refine gate_callee (f := 90) rfl ?_); refine goesL_ (some 20) rfl rfl Try.func90 (by kernel_rfl) rfl #[.slice Ao17 t629.length co17, .int .i64 a1] rfl (by (try simp only [List.map_toArray, List.map_cons, List.map_nil]); first | done | rfl | (simp only [List.length_drop, List.length_take]; rfl)) ?_; (with_reducible refine (secret_lieOn.calls _ _ t629 a1 false _ ?side1 ?side2 A9.out).mono ?_); (case side1 => repeat (first | exact (Kd.R_reads' HO631.out).2.2 | (with_reducible refine Kd.C_alloc ?_ _) | (with_reducible refine Kd.C_drewN ?_ _) | (with_reducible refine Kd.C_drew ?_))); (case side2 => exact (Kd.R_reads' HO631.out).2.1); rintro e w18 ⟨rfl, hb⟩; refine ⟨_, rfl, ?_⟩; have n0_ := Aside0.mk (Kd.R_below (by (with_reducible repeat (first | apply Kd.R_alloc | apply Kd.R_drewN | apply Kd.R_drew)); exact HO_6.out) hb); have n1_ := Aside0.mk (Kd.R_below (by (with_reducible repeat (first | apply Kd.R_alloc | apply Kd.R_drewN | apply Kd.R_drew)); exact HO631.out) hb); have n2_ := Aside0.mk (below_step (by repeat (first | (with_reducible first | exact HB.out | apply below_alloc | apply pw_below_drewN | apply below_drew1) | exact HB.out)) hb); clear HO_6; clear HO631; clear HB; have HO_6 := n0_; have HO631 := n1_; have HB := n2_; clear n0_ n1_ n2_; (try clear hb); (try clear hb2); (try clear hk); (try clear hi)))
            go_roundg k1
            case measure => have := HK1.out; omega
            case rel => exact ⟨(x6_1), (wrap64 (x13_1 + 1)), (by first | rfl | (simp; done) | (simp [*]; done)), H', ⟨by have := HK1.out; omega⟩, ⟨by (with_reducible repeat (first | apply Kd.R_alloc | apply Kd.R_drewN | apply Kd.R_drew)); exact HO_6.out⟩, ⟨by repeat (first | (with_reducible first | exact HB.out | apply below_alloc | apply pw_below_drewN | apply below_drew1) | exact HB.out)⟩⟩
        · rw [if_neg c7] at H
          have c7b0 : decide (x13_1 < (l0.length : Int)) = false := decide_eq_false c7
          clear c7
          by_cases c19 : (x6_1.length : Int) = 1
          · rw [if_pos c19] at H
            have c19b0 : ((x6_1.length : Int) == 1) = true := beq_iff_eq.mpr c19
            have c19b1 : ((x6_1.length : Int) != 1) = false := bne_eq_false_iff_eq.mpr c19
            clear c19
            by_cases c20 : 0 < (x6_1.length : Int)
            · rw [if_pos c20] at H
              have c20b0 : decide (0 < (x6_1.length : Int)) = true := decide_eq_true c20
              have c20b1 : decide (0 < x6_1.length) = true := decide_eq_true (by omega)
              clear c20
              simp only [Option.some.injEq, Prod.mk.injEq] at H
              obtain ⟨rfl, rfl⟩ := H
              obtain ⟨Ao21, co21, eo21⟩ := Kd.R_slice HO_6.out
              subst eo21
              have p628 : 0 ≤ (0 : Int) := (by omega)
              have q628 : 0 < (x6_1.length : Int) := of_decide_eq_true (by first | (with_reducible assumption) | assumption)
              obtain ⟨ad628, e628, hx628_0⟩ := Kd.at_int (Kd.R_reads' HO_6.out).2.2 0 p628 q628
              cases e628
              have qi628 : (0 < x6_1.length) = True := eq_true (by omega)
              (try rw [show ((0 : Int)).toNat = 0 from rfl] at hx628_0)
              (try rw [Addr.add_zero'] at hx628_0)
              replace p628 := eq_true p628
              replace q628 := eq_true q628
              go_wp2
              go_ret2
              exact ⟨by first | rfl | (simp [errW_none, errW_some] <;> rfl) | (simp [*, errW_none, errW_some] <;> rfl), by repeat (first | (with_reducible first | exact HB.out | apply below_alloc | apply pw_below_drewN | apply below_drew1) | exact HB.out)⟩
            · rw [if_neg c20] at H
              exact absurd H (by simp)
          · rw [if_neg c19] at H
            have c19b0 : ((x6_1.length : Int) == 1) = false := beq_eq_false_iff_ne.mpr c19
            have c19b1 : ((x6_1.length : Int) != 1) = true := bne_iff_ne.mpr c19
            simp only [Option.some.injEq, Prod.mk.injEq] at H
            obtain ⟨rfl, rfl⟩ := H
            obtain ⟨Ao22, co22, eo22⟩ := Kd.R_slice HO_6.out
            subst eo22
            go_wp2
            go_ret2
            exact ⟨by first | rfl | (simp [errW_none, errW_some] <;> rfl) | (simp [*, errW_none, errW_some] <;> rfl), by repeat (first | (with_reducible first | exact HB.out | apply below_alloc | apply pw_below_drewN | apply below_drew1) | exact HB.out)⟩

end Go.Proofs.Ythlbjdiicmojfaa.P

/-! Part PF72. -/
-- Written for this claim by wip/print_more.py (a session's program that runs the kit's printer with hand-proved functions beside). Lean checks it.
namespace Go.Proofs.Ythlbjdiicmojfaa.P
open Go.RowKit Go.Proofs.YthlbjdiicmojfaaW.PrintWords Go.Proofs.YthlbjdiicmojfaaW.PrintLast Go.Proofs.YthlbjdiicmojfaaW.PrintMore
attribute [local go_sem] max2_int min2_int max_two min_two max_three min_three max_four min_four   -- for this text's walks alone
set_option linter.unusedVariables false
set_option linter.unusedSimpArgs false

/-! ### secret_Repair: function 72 -/
def secret_Repair.f (k : Nat) (l0 : List (S43)) (a1 : Int) : Option ((List (S43)) × Bool × Int) := (secret_more.f l0 a1).bind fun t636 => (if t636 = 0 then ((api_Part_93.f l0).bind fun t637 => ((secret_lieOn.f l0 a1).bind fun t640 => (if t640 = true then (some (t637, true, 0)) else ((secret_wrong.f k l0 a1).bind fun bt641 => (if bt641.2 = true then ((secret_without.f l0 bt641.1).bind fun t643 => (if 0 ≤ a1 then (if a1 ≤ (t643.length : Int) then ((secret_of.f (t643.take (a1 : Int).toNat)).bind fun t650 => (if 0 ≤ bt641.1 then (if bt641.1 < (l0.length : Int) then ((secret_curve_at.f t650 ((rd_T43 l0 bt641.1).f0)).bind fun t654 => (if bt641.1 < (t637.length : Int) then (some ((t637.set (bt641.1 : Int).toNat (⟨(rd_T43 t637 bt641.1).f0, t654⟩ : S43)), true, 0)) else (none))) else (none)) else (none))) else (none)) else (none))) else (some (([] : List (S43)), false, 0))))))) else (some (([] : List (S43)), false, t636)))
theorem secret_Repair.mono : ∀ a0 a1 k, LeO (secret_Repair.f k a0 a1) (secret_Repair.f (k + 1) a0 a1) := by
  intro a0 a1 k
  unfold secret_Repair.f
  repeat' first
      | (with_reducible exact secret_wrong.mono _ _ _)
      | (with_reducible exact LeO.refl _)
      | (with_reducible exact LeO.none _)
      | (with_reducible refine LeO.ite ?_ ?_)
      | (with_reducible refine LeO.bind ?_ (fun _ => ?_))
      | exact secret_wrong.mono _ _ _
      | exact LeO.none _
      | refine LeO.ite ?_ ?_
      | refine LeO.bind ?_ (fun _ => ?_)
def secret_Repair.T10 : Bool × List (List Nat × List Nat) := (true, [([], []), ([], []), ([], []), ([], []), ([2, 3], [2, 3]), ([], []), ([4, 5], [4, 5]), ([6, 4], [6]), ([], []), ([], []), ([8, 9], [8, 9]), ([10], [10]), ([11], [11]), ([7, 12, 7], [7, 12]), ([0, 1, 0, 1, 2, 3, 4, 5, 6, 7, 8, 9, 10, 11, 12, 13], [0, 1]), ([14, 0, 1, 2, 3, 4, 5, 6, 7, 8, 9, 10, 11, 12, 13], [14]), ([15, 13, 13, 0, 1, 2, 3, 4, 5, 6, 7, 8, 9, 10, 11, 12, 13], [13, 15])])
def secret_Repair.B10 : List Nat := [0, 0, 0, 0, 12, 0, 60, 124, 0, 0, 768, 1792, 3840, 8188, 16383, 32767, 65535]
theorem secret_Repair.tab10 : rtab .any (opsOf Try.f72 10) = secret_Repair.T10 := by kernel_rfl
theorem secret_Repair.bits10 : waitsOk secret_Repair.T10.2 secret_Repair.B10 = true := by kernel_rfl
set_option maxHeartbeats 8000000 in
set_option maxRecDepth 100000 in
theorem secret_Repair.calls (k : Nat) (A0 : Option Addr) (c0 : Nat) (l0 : List (S43)) (a1 : Int) (r1 : List (S43)) (r2 : Bool) (r3 : Int) (w : World) (hr0 : Kd.C k43 w A0 l0.length l0) (hc0 : l0.length ≤ c0) (h : secret_Repair.f k l0 a1 = some (r1, r2, r3)) :
    Calls Try.prog 72 #[.slice A0 l0.length c0, .int .i64 a1] w fun e w' => ∃ v0_ : Value, e = .returned (.tuple #[v0_, .bool r2, .int .i64 r3]) ∧ Kd.R k43 43 w' w.heap.size (fun _ => True) v0_ r1 ∧ Below w.heap.size w w' := by
  have HR0 := Aside0.mk hr0
  have HC0 := Aside0.mk hc0
  clear hr0 hc0
  have HB := Aside0.mk (Below.refl w.heap.size w)
  have H : ((secret_more.f l0 a1).bind fun t636 => (if t636 = 0 then ((api_Part_93.f l0).bind fun t637 => ((secret_lieOn.f l0 a1).bind fun t640 => (if t640 = true then (some (t637, true, 0)) else ((secret_wrong.f k l0 a1).bind fun bt641 => (if bt641.2 = true then ((secret_without.f l0 bt641.1).bind fun t643 => (if 0 ≤ a1 then (if a1 ≤ (t643.length : Int) then ((secret_of.f (t643.take (a1 : Int).toNat)).bind fun t650 => (if 0 ≤ bt641.1 then (if bt641.1 < (l0.length : Int) then ((secret_curve_at.f t650 ((rd_T43 l0 bt641.1).f0)).bind fun t654 => (if bt641.1 < (t637.length : Int) then (some ((t637.set (bt641.1 : Int).toNat (⟨(rd_T43 t637 bt641.1).f0, t654⟩ : S43)), true, 0)) else (none))) else (none)) else (none))) else (none)) else (none))) else (some (([] : List (S43)), false, 0))))))) else (some (([] : List (S43)), false, t636)))) = some (r1, r2, r3) := h
  clear h
  replace H := Option.bind_eq_some_iff.mp H
  obtain ⟨t636, A30, H⟩ := H
  replace H : (if t636 = 0 then ((api_Part_93.f l0).bind fun t637 => ((secret_lieOn.f l0 a1).bind fun t640 => (if t640 = true then (some (t637, true, 0)) else ((secret_wrong.f k l0 a1).bind fun bt641 => (if bt641.2 = true then ((secret_without.f l0 bt641.1).bind fun t643 => (if 0 ≤ a1 then (if a1 ≤ (t643.length : Int) then ((secret_of.f (t643.take (a1 : Int).toNat)).bind fun t650 => (if 0 ≤ bt641.1 then (if bt641.1 < (l0.length : Int) then ((secret_curve_at.f t650 ((rd_T43 l0 bt641.1).f0)).bind fun t654 => (if bt641.1 < (t637.length : Int) then (some ((t637.set (bt641.1 : Int).toNat (⟨(rd_T43 t637 bt641.1).f0, t654⟩ : S43)), true, 0)) else (none))) else (none)) else (none))) else (none)) else (none))) else (some (([] : List (S43)), false, 0))))))) else (some (([] : List (S43)), false, t636))) = some (r1, r2, r3) := H
  have A3 := Aside0.mk A30
  clear A30
  by_cases c4 : t636 = 0
  · rw [if_pos c4] at H
    have c4b0 : (t636 == 0) = true := beq_iff_eq.mpr c4
    have c4b1 : (t636 != 0) = false := bne_eq_false_iff_eq.mpr c4
    clear c4
    replace H := Option.bind_eq_some_iff.mp H
    obtain ⟨t637, A50, H⟩ := H
    replace H : ((secret_lieOn.f l0 a1).bind fun t640 => (if t640 = true then (some (t637, true, 0)) else ((secret_wrong.f k l0 a1).bind fun bt641 => (if bt641.2 = true then ((secret_without.f l0 bt641.1).bind fun t643 => (if 0 ≤ a1 then (if a1 ≤ (t643.length : Int) then ((secret_of.f (t643.take (a1 : Int).toNat)).bind fun t650 => (if 0 ≤ bt641.1 then (if bt641.1 < (l0.length : Int) then ((secret_curve_at.f t650 ((rd_T43 l0 bt641.1).f0)).bind fun t654 => (if bt641.1 < (t637.length : Int) then (some ((t637.set (bt641.1 : Int).toNat (⟨(rd_T43 t637 bt641.1).f0, t654⟩ : S43)), true, 0)) else (none))) else (none)) else (none))) else (none)) else (none))) else (some (([] : List (S43)), false, 0)))))) = some (r1, r2, r3) := H
    have A5 := Aside0.mk A50
    clear A50
    replace H := Option.bind_eq_some_iff.mp H
    obtain ⟨t640, A60, H⟩ := H
    replace H : (if t640 = true then (some (t637, true, 0)) else ((secret_wrong.f k l0 a1).bind fun bt641 => (if bt641.2 = true then ((secret_without.f l0 bt641.1).bind fun t643 => (if 0 ≤ a1 then (if a1 ≤ (t643.length : Int) then ((secret_of.f (t643.take (a1 : Int).toNat)).bind fun t650 => (if 0 ≤ bt641.1 then (if bt641.1 < (l0.length : Int) then ((secret_curve_at.f t650 ((rd_T43 l0 bt641.1).f0)).bind fun t654 => (if bt641.1 < (t637.length : Int) then (some ((t637.set (bt641.1 : Int).toNat (⟨(rd_T43 t637 bt641.1).f0, t654⟩ : S43)), true, 0)) else (none))) else (none)) else (none))) else (none)) else (none))) else (some (([] : List (S43)), false, 0))))) = some (r1, r2, r3) := H
    have A6 := Aside0.mk A60
    clear A60
    by_cases c7 : t640 = true
    · subst c7
      have H1 : (some (t637, true, 0)) = some (r1, r2, r3) := by rw [if_pos rfl] at H; exact H
      clear H
      have H := H1
      clear H1
      simp only [Option.some.injEq, Prod.mk.injEq] at H
      obtain ⟨rfl, rfl, rfl⟩ := H
      go_enter Try.func72, Try.ntmps72
      go_wp2_with (first | ((with_reducible refine gate_callee (f := 105) rfl ?_); refine goesL_ (some 13) rfl rfl Try.func105 (by kernel_rfl) rfl #[.slice A0 l0.length c0, .int .i64 a1] rfl (by (try simp only [List.map_toArray, List.map_cons, List.map_nil]); first | done | rfl | (simp only [List.length_drop, List.length_take]; rfl)) ?_; (with_reducible refine (secret_more.calls _ _ l0 a1 t636 _ ?side1 ?side2 A3.out).mono ?_); (case side1 => repeat (first | exact HR0.out | (with_reducible refine Kd.C_alloc ?_ _) | (with_reducible refine Kd.C_drewN ?_ _) | (with_reducible refine Kd.C_drew ?_))); (case side2 => exact HC0.out); rintro e w8 ⟨rfl, hb⟩; refine ⟨_, rfl, ?_⟩; have n0_ := Aside0.mk (below_step (by repeat (first | (with_reducible first | exact HB.out | apply below_alloc | apply pw_below_drewN | apply below_drew1) | exact HB.out)) hb); clear HB; have HB := n0_; clear n0_; (try clear hb); (try clear hb2); (try clear hk); (try clear hi)) | ((with_reducible refine gate_callee (f := 93) rfl ?_); refine goesL_ (some 18) rfl rfl Try.func93 (by kernel_rfl) rfl #[.slice A0 l0.length c0] rfl (by (try simp only [List.map_toArray, List.map_cons, List.map_nil]); first | done | rfl | (simp only [List.length_drop, List.length_take]; rfl)) ?_; (with_reducible refine (api_Part_93.calls _ _ l0 t637 _ ?side1 ?side2 A5.out).mono ?_); (case side1 => repeat (first | exact (Kd.C_below HR0.out HB.out) | (with_reducible refine Kd.C_alloc ?_ _) | (with_reducible refine Kd.C_drewN ?_ _) | (with_reducible refine Kd.C_drew ?_))); (case side2 => exact HC0.out); rintro e w9 ⟨v638, rfl, ho0, hb⟩; refine ⟨_, rfl, ?_⟩; have n0_ := Aside0.mk (Kd.R_lower ho0 (below_size (by repeat (first | (with_reducible first | exact HB.out | apply below_alloc | apply pw_below_drewN | apply below_drew1) | exact HB.out)))); have n1_ := Aside0.mk (below_step (by repeat (first | (with_reducible first | exact HB.out | apply below_alloc | apply pw_below_drewN | apply below_drew1) | exact HB.out)) hb); clear HB; have HO639 := n0_; have HB := n1_; clear n0_ n1_; (try clear hb); (try clear hb2); (try clear hk); (try clear hi); (try clear ho0)) | ((with_reducible refine gate_callee (f := 90) rfl ?_); refine goesL_ (some 21) rfl rfl Try.func90 (by kernel_rfl) rfl #[.slice A0 l0.length c0, .int .i64 a1] rfl (by (try simp only [List.map_toArray, List.map_cons, List.map_nil]); first | done | rfl | (simp only [List.length_drop, List.length_take]; rfl)) ?_; (with_reducible refine (secret_lieOn.calls _ _ l0 a1 true _ ?side1 ?side2 A6.out).mono ?_); (case side1 => repeat (first | exact (Kd.C_below HR0.out HB.out) | (with_reducible refine Kd.C_alloc ?_ _) | (with_reducible refine Kd.C_drewN ?_ _) | (with_reducible refine Kd.C_drew ?_))); (case side2 => exact HC0.out); rintro e w10 ⟨rfl, hb⟩; refine ⟨_, rfl, ?_⟩; have n0_ := Aside0.mk (Kd.R_below (by (with_reducible repeat (first | apply Kd.R_alloc | apply Kd.R_drewN | apply Kd.R_drew)); exact HO639.out) hb); have n1_ := Aside0.mk (below_step (by repeat (first | (with_reducible first | exact HB.out | apply below_alloc | apply pw_below_drewN | apply below_drew1) | exact HB.out)) hb); clear HO639; clear HB; have HO639 := n0_; have HB := n1_; clear n0_ n1_; (try clear hb); (try clear hb2); (try clear hk); (try clear hi)))
      go_ret3
      exact ⟨_, by first | rfl | (simp [errW_none, errW_some] <;> rfl) | (simp [*, errW_none, errW_some] <;> rfl), by (with_reducible repeat (first | apply Kd.R_alloc | apply Kd.R_drewN | apply Kd.R_drew)); exact HO639.out, by repeat (first | (with_reducible first | exact HB.out | apply below_alloc | apply pw_below_drewN | apply below_drew1) | exact HB.out)⟩
    · replace c7 := Bool.eq_false_iff.mpr c7
      subst c7
      have H1 : ((secret_wrong.f k l0 a1).bind fun bt641 => (if bt641.2 = true then ((secret_without.f l0 bt641.1).bind fun t643 => (if 0 ≤ a1 then (if a1 ≤ (t643.length : Int) then ((secret_of.f (t643.take (a1 : Int).toNat)).bind fun t650 => (if 0 ≤ bt641.1 then (if bt641.1 < (l0.length : Int) then ((secret_curve_at.f t650 ((rd_T43 l0 bt641.1).f0)).bind fun t654 => (if bt641.1 < (t637.length : Int) then (some ((t637.set (bt641.1 : Int).toNat (⟨(rd_T43 t637 bt641.1).f0, t654⟩ : S43)), true, 0)) else (none))) else (none)) else (none))) else (none)) else (none))) else (some (([] : List (S43)), false, 0)))) = some (r1, r2, r3) := by rw [if_neg (show ¬ (false = true) by decide)] at H; exact H
      clear H
      have H := H1
      clear H1
      replace H := Option.bind_eq_some_iff.mp H
      obtain ⟨⟨t641, t642⟩, A110, H⟩ := H
      replace H : (if t642 = true then ((secret_without.f l0 t641).bind fun t643 => (if 0 ≤ a1 then (if a1 ≤ (t643.length : Int) then ((secret_of.f (t643.take (a1 : Int).toNat)).bind fun t650 => (if 0 ≤ t641 then (if t641 < (l0.length : Int) then ((secret_curve_at.f t650 ((rd_T43 l0 t641).f0)).bind fun t654 => (if t641 < (t637.length : Int) then (some ((t637.set (t641 : Int).toNat (⟨(rd_T43 t637 t641).f0, t654⟩ : S43)), true, 0)) else (none))) else (none)) else (none))) else (none)) else (none))) else (some (([] : List (S43)), false, 0))) = some (r1, r2, r3) := H
      have A11 := Aside0.mk A110
      clear A110
      by_cases c12 : t642 = true
      · subst c12
        have H1 : ((secret_without.f l0 t641).bind fun t643 => (if 0 ≤ a1 then (if a1 ≤ (t643.length : Int) then ((secret_of.f (t643.take (a1 : Int).toNat)).bind fun t650 => (if 0 ≤ t641 then (if t641 < (l0.length : Int) then ((secret_curve_at.f t650 ((rd_T43 l0 t641).f0)).bind fun t654 => (if t641 < (t637.length : Int) then (some ((t637.set (t641 : Int).toNat (⟨(rd_T43 t637 t641).f0, t654⟩ : S43)), true, 0)) else (none))) else (none)) else (none))) else (none)) else (none))) = some (r1, r2, r3) := by rw [if_pos rfl] at H; exact H
        clear H
        have H := H1
        clear H1
        replace H := Option.bind_eq_some_iff.mp H
        obtain ⟨t643, A130, H⟩ := H
        replace H : (if 0 ≤ a1 then (if a1 ≤ (t643.length : Int) then ((secret_of.f (t643.take (a1 : Int).toNat)).bind fun t650 => (if 0 ≤ t641 then (if t641 < (l0.length : Int) then ((secret_curve_at.f t650 ((rd_T43 l0 t641).f0)).bind fun t654 => (if t641 < (t637.length : Int) then (some ((t637.set (t641 : Int).toNat (⟨(rd_T43 t637 t641).f0, t654⟩ : S43)), true, 0)) else (none))) else (none)) else (none))) else (none)) else (none)) = some (r1, r2, r3) := H
        have A13 := Aside0.mk A130
        clear A130
        by_cases c14 : 0 ≤ a1
        · rw [if_pos c14] at H
          have c14b0 := eq_true c14
          have c14b1 : decide (0 ≤ a1) = true := decide_eq_true c14
          clear c14
          by_cases c15 : a1 ≤ (t643.length : Int)
          · rw [if_pos c15] at H
            have c15b0 := eq_true c15
            have c15b1 : decide (a1 ≤ (t643.length : Int)) = true := decide_eq_true c15
            clear c15
            obtain ⟨y646, hy646⟩ : ∃ y_ : List (S43), y_ = (t643.take (a1 : Int).toNat) := ⟨_, rfl⟩
            replace H : ((secret_of.f y646).bind fun t650 => (if 0 ≤ t641 then (if t641 < (l0.length : Int) then ((secret_curve_at.f t650 ((rd_T43 l0 t641).f0)).bind fun t654 => (if t641 < (t637.length : Int) then (some ((t637.set (t641 : Int).toNat (⟨(rd_T43 t637 t641).f0, t654⟩ : S43)), true, 0)) else (none))) else (none)) else (none))) = some (r1, r2, r3) := by first | (rw [hy646]; with_reducible exact H) | (have H2_ := (Option.bind_some _ _).symm.trans H; rw [hy646]; with_reducible exact H2_) | (have H2_ := (Option.bind_some _ _).symm.trans H; with_reducible exact H2_) | with_reducible exact H | (rw [hy646]; exact H) | exact H
            have Ny646 := Aside0.mk hy646
            clear hy646
            replace H := Option.bind_eq_some_iff.mp H
            obtain ⟨t650, A160, H⟩ := H
            replace H : (if 0 ≤ t641 then (if t641 < (l0.length : Int) then ((secret_curve_at.f t650 ((rd_T43 l0 t641).f0)).bind fun t654 => (if t641 < (t637.length : Int) then (some ((t637.set (t641 : Int).toNat (⟨(rd_T43 t637 t641).f0, t654⟩ : S43)), true, 0)) else (none))) else (none)) else (none)) = some (r1, r2, r3) := H
            have A16 := Aside0.mk A160
            clear A160
            by_cases c17 : 0 ≤ t641
            · rw [if_pos c17] at H
              have c17b0 : decide (0 ≤ t641) = true := decide_eq_true c17
              clear c17
              by_cases c18 : t641 < (l0.length : Int)
              · rw [if_pos c18] at H
                have c18b0 : decide (t641 < (l0.length : Int)) = true := decide_eq_true c18
                clear c18
                replace H := Option.bind_eq_some_iff.mp H
                obtain ⟨t654, A190, H⟩ := H
                replace H : (if t641 < (t637.length : Int) then (some ((t637.set (t641 : Int).toNat (⟨(rd_T43 t637 t641).f0, t654⟩ : S43)), true, 0)) else (none)) = some (r1, r2, r3) := H
                have A19 := Aside0.mk A190
                clear A190
                by_cases c20 : t641 < (t637.length : Int)
                · rw [if_pos c20] at H
                  have c20b0 : decide (t641 < (t637.length : Int)) = true := decide_eq_true c20
                  clear c20
                  obtain ⟨y655, hy655⟩ : ∃ y_ : List (S43), y_ = (t637.set (t641 : Int).toNat (⟨(rd_T43 t637 t641).f0, t654⟩ : S43)) := ⟨_, rfl⟩
                  replace H : (some (y655, true, 0)) = some (r1, r2, r3) := by first | (rw [hy655]; with_reducible exact H) | (have H2_ := (Option.bind_some _ _).symm.trans H; rw [hy655]; with_reducible exact H2_) | (have H2_ := (Option.bind_some _ _).symm.trans H; with_reducible exact H2_) | with_reducible exact H | (rw [hy655]; exact H) | exact H
                  have Ny655 := Aside0.mk hy655
                  clear hy655
                  simp only [Option.some.injEq, Prod.mk.injEq] at H
                  obtain ⟨rfl, rfl, rfl⟩ := H
                  go_enter Try.func72, Try.ntmps72
                  try go_wp2_with (first | ((with_reducible refine gate_callee (f := 105) rfl ?_); refine goesL_ (some 13) rfl rfl Try.func105 (by kernel_rfl) rfl #[.slice A0 l0.length c0, .int .i64 a1] rfl (by (try simp only [List.map_toArray, List.map_cons, List.map_nil]); first | done | rfl | (simp only [List.length_drop, List.length_take]; rfl)) ?_; (with_reducible refine (secret_more.calls _ _ l0 a1 t636 _ ?side1 ?side2 A3.out).mono ?_); (case side1 => repeat (first | exact HR0.out | (with_reducible refine Kd.C_alloc ?_ _) | (with_reducible refine Kd.C_drewN ?_ _) | (with_reducible refine Kd.C_drew ?_))); (case side2 => exact HC0.out); rintro e w22 ⟨rfl, hb⟩; refine ⟨_, rfl, ?_⟩; have n0_ := Aside0.mk (below_step (by repeat (first | (with_reducible first | exact HB.out | apply below_alloc | apply pw_below_drewN | apply below_drew1) | exact HB.out)) hb); clear HB; have HB := n0_; clear n0_; (try clear hb); (try clear hb2); (try clear hk); (try clear hi)) | ((with_reducible refine gate_callee (f := 93) rfl ?_); refine goesL_ (some 18) rfl rfl Try.func93 (by kernel_rfl) rfl #[.slice A0 l0.length c0] rfl (by (try simp only [List.map_toArray, List.map_cons, List.map_nil]); first | done | rfl | (simp only [List.length_drop, List.length_take]; rfl)) ?_; (with_reducible refine (api_Part_93.calls _ _ l0 t637 _ ?side1 ?side2 A5.out).mono ?_); (case side1 => repeat (first | exact (Kd.C_below HR0.out HB.out) | (with_reducible refine Kd.C_alloc ?_ _) | (with_reducible refine Kd.C_drewN ?_ _) | (with_reducible refine Kd.C_drew ?_))); (case side2 => exact HC0.out); rintro e w23 ⟨v638, rfl, ho0, hb⟩; refine ⟨_, rfl, ?_⟩; have n0_ := Aside0.mk (Kd.R_lower ho0 (below_size (by repeat (first | (with_reducible first | exact HB.out | apply below_alloc | apply pw_below_drewN | apply below_drew1) | exact HB.out)))); have n1_ := Aside0.mk (below_step (by repeat (first | (with_reducible first | exact HB.out | apply below_alloc | apply pw_below_drewN | apply below_drew1) | exact HB.out)) hb); clear HB; have HO639 := n0_; have HB := n1_; clear n0_ n1_; (try clear hb); (try clear hb2); (try clear hk); (try clear hi); (try clear ho0)) | ((with_reducible refine gate_callee (f := 90) rfl ?_); refine goesL_ (some 21) rfl rfl Try.func90 (by kernel_rfl) rfl #[.slice A0 l0.length c0, .int .i64 a1] rfl (by (try simp only [List.map_toArray, List.map_cons, List.map_nil]); first | done | rfl | (simp only [List.length_drop, List.length_take]; rfl)) ?_; (with_reducible refine (secret_lieOn.calls _ _ l0 a1 false _ ?side1 ?side2 A6.out).mono ?_); (case side1 => repeat (first | exact (Kd.C_below HR0.out HB.out) | (with_reducible refine Kd.C_alloc ?_ _) | (with_reducible refine Kd.C_drewN ?_ _) | (with_reducible refine Kd.C_drew ?_))); (case side2 => exact HC0.out); rintro e w24 ⟨rfl, hb⟩; refine ⟨_, rfl, ?_⟩; have n0_ := Aside0.mk (Kd.R_below (by (with_reducible repeat (first | apply Kd.R_alloc | apply Kd.R_drewN | apply Kd.R_drew)); exact HO639.out) hb); have n1_ := Aside0.mk (below_step (by repeat (first | (with_reducible first | exact HB.out | apply below_alloc | apply pw_below_drewN | apply below_drew1) | exact HB.out)) hb); clear HO639; clear HB; have HO639 := n0_; have HB := n1_; clear n0_ n1_; (try clear hb); (try clear hb2); (try clear hk); (try clear hi)) | ((with_reducible refine gate_callee (f := 106) rfl ?_); refine goesL_ (some 26) rfl rfl Try.func106 (by kernel_rfl) rfl #[.slice A0 l0.length c0, .int .i64 a1] rfl (by (try simp only [List.map_toArray, List.map_cons, List.map_nil]); first | done | rfl | (simp only [List.length_drop, List.length_take]; rfl)) ?_; (with_reducible refine (secret_wrong.calls k _ _ l0 a1 t641 true _ ?side1 ?side2 A11.out).mono ?_); (case side1 => repeat (first | exact (Kd.C_below HR0.out HB.out) | (with_reducible refine Kd.C_alloc ?_ _) | (with_reducible refine Kd.C_drewN ?_ _) | (with_reducible refine Kd.C_drew ?_))); (case side2 => exact HC0.out); rintro e w25 ⟨rfl, hb⟩; refine ⟨_, rfl, ?_⟩; have n0_ := Aside0.mk (Kd.R_below (by (with_reducible repeat (first | apply Kd.R_alloc | apply Kd.R_drewN | apply Kd.R_drew)); exact HO639.out) hb); have n1_ := Aside0.mk (below_step (by repeat (first | (with_reducible first | exact HB.out | apply below_alloc | apply pw_below_drewN | apply below_drew1) | exact HB.out)) hb); clear HO639; clear HB; have HO639 := n0_; have HB := n1_; clear n0_ n1_; (try clear hb); (try clear hb2); (try clear hk); (try clear hi)))
                  have n0_ := Aside0.mk (Kd.R_drew HO639.out)
                  have n1_ := Aside0.mk (below_drew1 HB.out)
                  clear HO639
                  clear HB
                  have HO639 := n0_
                  have HB := n1_
                  clear n0_ n1_
                  have p653 : 0 ≤ (t641 : Int) := of_decide_eq_true (by first | (with_reducible assumption) | assumption)
                  have q653 : t641 < (l0.length : Int) := of_decide_eq_true (by first | (with_reducible assumption) | assumption)
                  obtain ⟨ad653, e653, hx653_0, hx653_1⟩ := at_T43 HR0.out t641 p653 q653
                  have hw653_1 := hx653_1
                  have hw653_0 := hx653_0
                  cases e653
                  replace hx653_0 := (HB.out.cell (World.block_lt_of_cell? w _ hx653_0)).trans hx653_0
                  replace hx653_1 := (HB.out.cell (World.block_lt_of_cell? w _ hx653_1)).trans hx653_1
                  replace p653 := eq_true p653
                  replace q653 := eq_true q653
                  refine start_ (n := 17) (S := fun w' => w'.cell? (ad653.add ((t641).toNat * 2)) = some (.int .i64 ((rd_T43 l0 t641).f0)) ∧ w'.cell? ⟨(ad653.add ((t641).toNat * 2)).block, (ad653.add ((t641).toNat * 2)).off + 1, none⟩ = some (.int .i64 ((rd_T43 l0 t641).f1))) (ds := [16]) #[false, false, false, false, false, false, false, false, false, false, false, false, false, false, false, false, false] (by kernel_rfl) rfl rfl ⟨((HB.out.cell (World.block_lt_of_cell? w _ hw653_0)).trans hw653_0), ((HB.out.cell (World.block_lt_of_cell? w _ hw653_1)).trans hw653_1)⟩ (fun hHeld => ?_); refine with_tabW secret_Repair.tab10 secret_Repair.bits10 (fun HT_ HW_ => ?_)
                  generalize w25.drew = w26 at HO639 HB hx653_0 hx653_1 hHeld ⊢
                  refine pure_ (i := 0) (N := some 31) (v := ?_) (a' := ?_) #[true, false, false, false, false, false, false, false, false, false, false, false, false, false, false, false, false] rfl rfl (any_of HT_.out (by kernel_rfl)) (fun _ _ _ h => h) (Or.inl ⟨by rfl, ?_⟩) ?_ ?_
                  rotate_left
                  · intro w'
                    go_simp
                    with_reducible rfl
                  rotate_left
                  · simp only [Act.put, List.setIfInBounds_toArray, List.set_cons_zero, List.set_cons_succ, i64_w, i32_w]
                    rfl
                  refine pure_ (i := 1) (N := some 32) (v := ?_) (a' := ?_) #[true, true, false, false, false, false, false, false, false, false, false, false, false, false, false, false, false] rfl rfl (any_of HT_.out (by kernel_rfl)) (fun _ _ _ h => h) (Or.inl ⟨by rfl, ?_⟩) ?_ ?_
                  rotate_left
                  · intro w'
                    go_simp
                    with_reducible rfl
                  rotate_left
                  · simp only [Act.put, List.setIfInBounds_toArray, List.set_cons_zero, List.set_cons_succ, i64_w, i32_w]
                    rfl
                  refine pure_ (i := 2) (N := some 33) (v := ?_) (a' := ?_) #[true, true, true, false, false, false, false, false, false, false, false, false, false, false, false, false, false] rfl rfl (any_of HT_.out (by kernel_rfl)) (fun _ _ _ h => h) (Or.inl ⟨by rfl, ?_⟩) ?_ ?_
                  rotate_left
                  · intro w'
                    go_simp
                    with_reducible rfl
                  rotate_left
                  · simp only [Act.put, List.setIfInBounds_toArray, List.set_cons_zero, List.set_cons_succ, i64_w, i32_w]
                    rfl
                  refine pure_ (i := 3) (N := some 34) (v := ?_) (a' := ?_) #[true, true, true, true, false, false, false, false, false, false, false, false, false, false, false, false, false] rfl rfl (any_of HT_.out (by kernel_rfl)) (fun _ _ _ h => h) (Or.inl ⟨by rfl, ?_⟩) ?_ ?_
                  rotate_left
                  · intro w'
                    go_simp
                    with_reducible rfl
                  rotate_left
                  · simp only [Act.put, List.setIfInBounds_toArray, List.set_cons_zero, List.set_cons_succ, i64_w, i32_w]
                    rfl
                  refine pure_ (i := 5) (N := some 36) (v := ?_) (a' := ?_) #[true, true, true, true, false, true, false, false, false, false, false, false, false, false, false, false, false] rfl rfl (any_of HT_.out (by kernel_rfl)) (fun _ _ _ h => h) (Or.inl ⟨by rfl, ?_⟩) ?_ ?_
                  rotate_left
                  · intro w'
                    go_simp
                    with_reducible rfl
                  rotate_left
                  · simp only [Act.put, List.setIfInBounds_toArray, List.set_cons_zero, List.set_cons_succ, i64_w, i32_w]
                    rfl
                  refine pure_ (i := 8) (N := some 39) (v := ?_) (a' := ?_) #[true, true, true, true, false, true, false, false, true, false, false, false, false, false, false, false, false] rfl rfl (any_of HT_.out (by kernel_rfl)) (fun _ _ _ h => h) (Or.inl ⟨by rfl, ?_⟩) ?_ ?_
                  rotate_left
                  · intro w'
                    go_simp
                    with_reducible rfl
                  rotate_left
                  · simp only [Act.put, List.setIfInBounds_toArray, List.set_cons_zero, List.set_cons_succ, i64_w, i32_w]
                    rfl
                  refine pure_ (i := 9) (N := some 40) (v := ?_) (a' := ?_) #[true, true, true, true, false, true, false, false, true, true, false, false, false, false, false, false, false] rfl rfl (any_of HT_.out (by kernel_rfl)) (fun _ _ _ h => h) (Or.inl ⟨by rfl, ?_⟩) ?_ ?_
                  rotate_left
                  · intro w'
                    go_simp
                    with_reducible rfl
                  rotate_left
                  · simp only [Act.put, List.setIfInBounds_toArray, List.set_cons_zero, List.set_cons_succ, i64_w, i32_w]
                    rfl
                  refine pure_ (i := 10) (N := some 41) (v := ?_) (a' := ?_) #[true, true, true, true, false, true, false, false, true, true, true, false, false, false, false, false, false] rfl rfl (any_of HT_.out (by kernel_rfl)) (fun _ _ _ h => h) (Or.inl ⟨by rfl, ?_⟩) ?_ ?_
                  rotate_left
                  · intro w'
                    go_simp
                    with_reducible rfl
                  rotate_left
                  · simp only [Act.put, List.setIfInBounds_toArray, List.set_cons_zero, List.set_cons_succ, i64_w, i32_w]
                    rfl
                  refine pure_ (i := 11) (N := some 42) (v := ?_) (a' := ?_) #[true, true, true, true, false, true, false, false, true, true, true, true, false, false, false, false, false] rfl rfl (any_of HT_.out (by kernel_rfl)) (fun _ _ _ h => h) (Or.inl ⟨by rfl, ?_⟩) ?_ ?_
                  rotate_left
                  · intro w'
                    go_simp
                    with_reducible rfl
                  rotate_left
                  · simp only [Act.put, List.setIfInBounds_toArray, List.set_cons_zero, List.set_cons_succ, i64_w, i32_w]
                    rfl
                  refine take_ (i := 12) (N := some 43) (v := ?_) (a' := ?_) #[true, true, true, true, false, true, false, false, true, true, true, true, true, false, false, false, false] rfl rfl (take_ofW HT_.out HW_.out (by kernel_rfl)) (fun _ _ _ h => h) (Or.inl ⟨by rfl, ?_⟩) hHeld ?_ ?_
                  rotate_left
                  · rintro w' ⟨s0, s1⟩
                    go_simp
                    with_reducible rfl
                  rotate_left
                  · simp only [Act.put, List.setIfInBounds_toArray, List.set_cons_zero, List.set_cons_succ, i64_w, i32_w]
                    rfl
                  refine one_ (i := 4) (N := some 35) #[true, true, true, true, true, true, false, false, true, true, true, true, true, false, false, false, false] rfl rfl (one_of HT_.out (by kernel_rfl)) (by decide) (fun K hK => ?_)
                  refine goes_ Try.func100 (by kernel_rfl) rfl #[.slice (some ad653) l0.length c0, .int .i64 t641] (by rfl) rfl rfl (by (try simp only [List.map_toArray, List.map_cons, List.map_nil]); first | done | rfl | (simp only [List.length_drop, List.length_take]; rfl)) ?_
                  with_reducible refine (secret_without.calls _ _ l0 t641 t643 _ ?side1 ?side2 A13.out).mono ?_
                  (case side1 => repeat (first | exact (Kd.C_below HR0.out HB.out) | (with_reducible refine Kd.C_alloc ?_ _) | (with_reducible refine Kd.C_drewN ?_ _) | (with_reducible refine Kd.C_drew ?_)))
                  (case side2 => exact HC0.out)
                  rintro e w27 ⟨v644, rfl, ho0, hb⟩
                  refine ⟨_, rfl, ?_⟩
                  have n0_ := Aside0.mk (Kd.R_elder' (by (with_reducible repeat (first | apply Kd.R_alloc | apply Kd.R_drewN | apply Kd.R_drew)); exact HO639.out) (Kd.R_base ho0) hb)
                  have n1_ := Aside0.mk (Kd.R_lower (Kd.R_new' ho0 (Kd.R_lt (by (with_reducible repeat (first | apply Kd.R_alloc | apply Kd.R_drewN | apply Kd.R_drew)); exact HO639.out))) (below_size (by repeat (first | (with_reducible first | exact HB.out | apply below_alloc | apply pw_below_drewN | apply below_drew1) | exact HB.out))))
                  have n2_ := Aside0.mk (below_step (by repeat (first | (with_reducible first | exact HB.out | apply below_alloc | apply pw_below_drewN | apply below_drew1) | exact HB.out)) hb)
                  clear HO639
                  clear HB
                  have HO639 := n0_
                  have HO645 := n1_
                  have HB := n2_
                  clear n0_ n1_ n2_
                  (try clear hb)
                  (try clear hb2)
                  (try clear hk)
                  (try clear hi)
                  (try clear ho0)
                  obtain ⟨Ao29, co29, eo29⟩ := Kd.R_slice HO645.out
                  (first | subst eo29 | (injection eo29 with f1_ f2_ f3_; have f4_ := f1_.symm; have f5_ := f3_.symm; clear f1_ f2_ f3_; subst f4_; subst f5_))
                  have q28 : (a1 : Int) ≤ ((t643.length : Int) : Int) := of_decide_eq_true (by first | (with_reducible assumption) | assumption)
                  obtain ⟨i028, hi028, _, hsz28, _⟩ := info_parts info43
                  have hroom28 : t643.length ≤ co29 := (Kd.R_reads' HO645.out).2.1
                  have hC28 : Kd.C k43 _ Ao29 t643.length t643 := (Kd.R_reads' HO645.out).2.2
                  have hcut28 := cut_to (P := Try.prog) 22 43 .i64 Try.underlying22 hi028 Ao29 t643.length co29 a1 (of_decide_eq_true (by first | (with_reducible assumption) | assumption)) q28 hroom28
                  have hr28 := Kd.C_take (m := (a1 : Int).toNat) hC28 (by omega)
                  have hy28 : y646.length = (a1 : Int).toNat := (by rw [Ny646.out, List.length_take]; omega)
                  rw [← Ny646.out] at hr28
                  rw [← hy28] at hcut28
                  have HR649 := Aside0.mk hr28
                  have HC649 := Aside0.mk (show y646.length ≤ co29 from by omega)
                  clear hr28 hC28 hroom28 hi028 hsz28
                  have KY28 := Aside0.mk hy28
                  clear hy28
                  have KL28 := Aside0.mk (show (a1 : Int).toNat ≤ t643.length from by omega)
                  replace q28 := eq_true q28
                  refine hK.out _ _ ⟨((HB.out.cell (World.block_lt_of_cell? w _ hw653_0)).trans hw653_0), ((HB.out.cell (World.block_lt_of_cell? w _ hw653_1)).trans hw653_1)⟩ (fun hHeld => ?_)
                  clear hK K
                  refine norm_ (a' := ?_) ?_ ?_
                  rotate_left
                  · show Act.put _ (some 35) _ = _
                    simp only [Act.put, List.setIfInBounds_toArray, List.set_cons_zero, List.set_cons_succ, i64_w, i32_w]
                    rfl
                  refine pure_ (i := 6) (N := some 37) (v := ?_) (a' := ?_) #[true, true, true, true, true, true, true, false, true, true, true, true, true, false, false, false, false] rfl rfl (any_of HT_.out (by kernel_rfl)) (fun _ _ _ h => h) (Or.inl ⟨by rfl, ?_⟩) ?_ ?_
                  rotate_left
                  · intro w'
                    go_simp
                    with_reducible rfl
                  rotate_left
                  · simp only [Act.put, List.setIfInBounds_toArray, List.set_cons_zero, List.set_cons_succ, i64_w, i32_w]
                    rfl
                  refine one_ (i := 7) (N := some 38) #[true, true, true, true, true, true, true, true, true, true, true, true, true, false, false, false, false] rfl rfl (one_of HT_.out (by kernel_rfl)) (by decide) (fun K hK => ?_)
                  refine goes_ Try.func87 (by kernel_rfl) rfl #[.slice Ao29 y646.length co29] (by rfl) rfl rfl (by (try simp only [List.map_toArray, List.map_cons, List.map_nil]); first | done | rfl | (simp only [List.length_drop, List.length_take]; rfl)) ?_
                  with_reducible refine (secret_of.calls _ _ y646 t650 _ ?side1 ?side2 A16.out).mono ?_
                  (case side1 => repeat (first | exact (by repeat (first | (with_reducible exact HR649.out) | (with_reducible refine Kd.C_alloc ?_ _) | (with_reducible refine Kd.C_drewN ?_ _) | (with_reducible refine Kd.C_drew ?_) | exact HR649.out)) | (with_reducible refine Kd.C_alloc ?_ _) | (with_reducible refine Kd.C_drewN ?_ _) | (with_reducible refine Kd.C_drew ?_)))
                  (case side2 => exact HC649.out)
                  rintro e w30 ⟨v651, rfl, ho0, hb⟩
                  refine ⟨_, rfl, ?_⟩
                  have n0_ := Aside0.mk (Kd.R_below (by (with_reducible repeat (first | apply Kd.R_alloc | apply Kd.R_drewN | apply Kd.R_drew)); exact HO639.out) hb)
                  have n1_ := Aside0.mk (Kd.R_below (by (with_reducible repeat (first | apply Kd.R_alloc | apply Kd.R_drewN | apply Kd.R_drew)); exact HO645.out) hb)
                  have n2_ := Aside0.mk (Kd.R_lower ho0 (below_size (by repeat (first | (with_reducible first | exact HB.out | apply below_alloc | apply pw_below_drewN | apply below_drew1) | exact HB.out))))
                  have n3_ := Aside0.mk (Kd.C_below (by repeat (first | (with_reducible exact HR649.out) | (with_reducible refine Kd.C_alloc ?_ _) | (with_reducible refine Kd.C_drewN ?_ _) | (with_reducible refine Kd.C_drew ?_) | exact HR649.out)) hb)
                  have n4_ := Aside0.mk (below_step (by repeat (first | (with_reducible first | exact HB.out | apply below_alloc | apply pw_below_drewN | apply below_drew1) | exact HB.out)) hb)
                  clear HO639
                  clear HO645
                  clear HR649
                  clear HB
                  have HO639 := n0_
                  have HO645 := n1_
                  have HO652 := n2_
                  have HR649 := n3_
                  have HB := n4_
                  clear n0_ n1_ n2_ n3_ n4_
                  (try clear hb)
                  (try clear hb2)
                  (try clear hk)
                  (try clear hi)
                  (try clear ho0)
                  obtain ⟨Ao31, co31, eo31⟩ := Kd.R_slice HO652.out
                  (first | subst eo31 | (injection eo31 with f1_ f2_ f3_; have f4_ := f1_.symm; have f5_ := f3_.symm; clear f1_ f2_ f3_; subst f4_; subst f5_))
                  refine hK.out _ _ ⟨((HB.out.cell (World.block_lt_of_cell? w _ hw653_0)).trans hw653_0), ((HB.out.cell (World.block_lt_of_cell? w _ hw653_1)).trans hw653_1)⟩ (fun hHeld => ?_)
                  clear hK K
                  refine norm_ (a' := ?_) ?_ ?_
                  rotate_left
                  · show Act.put _ (some 38) _ = _
                    simp only [Act.put, List.setIfInBounds_toArray, List.set_cons_zero, List.set_cons_succ, i64_w, i32_w]
                    rfl
                  refine one_ (i := 13) (N := some 44) #[true, true, true, true, true, true, true, true, true, true, true, true, true, true, false, false, false] rfl rfl (one_of HT_.out (by kernel_rfl)) (by decide) (fun K hK => ?_)
                  refine goes_ Try.func80 (by kernel_rfl) rfl #[.slice Ao31 t650.length co31, .int .i64 ((rd_T43 l0 t641).f0)] (by rfl) rfl rfl (by (try simp only [List.map_toArray, List.map_cons, List.map_nil]); first | done | rfl | (simp only [List.length_drop, List.length_take]; rfl)) ?_
                  with_reducible refine (secret_curve_at.calls _ _ t650 ((rd_T43 l0 t641).f0) t654 _ ?side1 ?side2 A19.out).mono ?_
                  (case side1 => repeat (first | exact (Kd.R_reads' HO652.out).2.2 | (with_reducible refine Kd.C_alloc ?_ _) | (with_reducible refine Kd.C_drewN ?_ _) | (with_reducible refine Kd.C_drew ?_)))
                  (case side2 => exact (Kd.R_reads' HO652.out).2.1)
                  rintro e w32 ⟨rfl, hb⟩
                  refine ⟨_, rfl, ?_⟩
                  have n0_ := Aside0.mk (Kd.R_below (by (with_reducible repeat (first | apply Kd.R_alloc | apply Kd.R_drewN | apply Kd.R_drew)); exact HO639.out) hb)
                  have n1_ := Aside0.mk (Kd.R_below (by (with_reducible repeat (first | apply Kd.R_alloc | apply Kd.R_drewN | apply Kd.R_drew)); exact HO645.out) hb)
                  have n2_ := Aside0.mk (Kd.R_below (by (with_reducible repeat (first | apply Kd.R_alloc | apply Kd.R_drewN | apply Kd.R_drew)); exact HO652.out) hb)
                  have n3_ := Aside0.mk (Kd.C_below (by repeat (first | (with_reducible exact HR649.out) | (with_reducible refine Kd.C_alloc ?_ _) | (with_reducible refine Kd.C_drewN ?_ _) | (with_reducible refine Kd.C_drew ?_) | exact HR649.out)) hb)
                  have n4_ := Aside0.mk (below_step (by repeat (first | (with_reducible first | exact HB.out | apply below_alloc | apply pw_below_drewN | apply below_drew1) | exact HB.out)) hb)
                  clear HO639
                  clear HO645
                  clear HO652
                  clear HR649
                  clear HB
                  have HO639 := n0_
                  have HO645 := n1_
                  have HO652 := n2_
                  have HR649 := n3_
                  have HB := n4_
                  clear n0_ n1_ n2_ n3_ n4_
                  (try clear hb)
                  (try clear hb2)
                  (try clear hk)
                  (try clear hi)
                  have p21 : 0 ≤ (t641 : Int) := of_decide_eq_true (by first | (with_reducible assumption) | assumption)
                  have q21 : (t641 : Int) < ((t637.length : Int) : Int) := of_decide_eq_true (by first | (with_reducible assumption) | assumption)
                  obtain ⟨go21, co21, eo21, gb21, gl21, cl21, HG21⟩ := Kd.R_form HO639.out (by omega)
                  (first | cases eo21 | (injection eo21 with ea_ en_ ec_; (first | subst ea_ | (injection ea_ with ea_; subst ea_)); subst ec_; clear en_))
                  have GB21 := Aside0.mk gb21
                  have GG21 := Aside0.mk HG21
                  clear gb21 gl21 HG21
                  obtain ⟨ce21, hcl21, hM21, hcc21, hfr21⟩ := Kd.R_elem HO639.out z43 (t641 : Int) p21 q21
                  obtain rfl := k43_openM hM21
                  have hx21_0 : World.cell? _ ⟨go21, (t641 : Int).toNat * 2, none⟩ = some (.int .i64 ((rd_T43 t637 t641).f0)) := hcc21 0 _ rfl
                  have hx21_1 : World.cell? _ ⟨go21, (t641 : Int).toNat * 2 + 1, none⟩ = some (.int .i64 ((rd_T43 t637 t641).f1)) := hcc21 1 _ rfl
                  have hf21_0 : World.frozen? _ ⟨go21, (t641 : Int).toNat * 2, none⟩ = false := hfr21 0
                  have hf21_1 : World.frozen? _ ⟨go21, (t641 : Int).toNat * 2 + 1, none⟩ = false := hfr21 1
                  clear hcl21 hcc21 hfr21 hM21
                  replace p21 := eq_true p21
                  replace q21 := eq_true q21
                  obtain ⟨ce33, hcl33, hM33, hcc33, hfr33⟩ := Kd.R_elem HO639.out z43 (t641 : Int) (of_decide_eq_true (by first | (with_reducible assumption) | assumption)) (by have h_ : (t641 : Int) < ((t637.length : Int) : Int) := of_decide_eq_true (by first | (with_reducible assumption) | assumption); first | exact h_ | (have e_ := (Kd.R_reads' HO639.out).1; omega) | simpa using h_)
                  obtain rfl := k43_openM hM33
                  have HP33 := (Kd.R_seg HO639.out (t641 : Int) (of_decide_eq_true (by first | (with_reducible assumption) | assumption)) (by have h_ : (t641 : Int) < ((t637.length : Int) : Int) := of_decide_eq_true (by first | (with_reducible assumption) | assumption); first | exact h_ | (have e_ := (Kd.R_reads' HO639.out).1; omega) | simpa using h_) (seg := [.int .i64 t654]) (j := 1) hcl33 hcc33 (show 2 ≤ 2 from by decide) (x' := (⟨(rd_T43 t637 t641).f0, t654⟩ : S43)) (k43_mkM _ _ _ (⟨(rd_T43 t637 t641).f0, t654⟩ : S43) ) (fun _ hk => hk)).1
                  rw [← Ny655.out] at HP33
                  have HQ33 := Aside0.mk HP33
                  clear hcl33 hcc33 hfr33 hM33 HP33
                  refine hK.out _ _ ⟨((HB.out.cell (World.block_lt_of_cell? w _ hw653_0)).trans hw653_0), ((HB.out.cell (World.block_lt_of_cell? w _ hw653_1)).trans hw653_1)⟩ (fun hHeld => ?_)
                  clear hK K
                  refine norm_ (a' := ?_) ?_ ?_
                  rotate_left
                  · show Act.put _ (some 44) _ = _
                    simp only [Act.put, List.setIfInBounds_toArray, List.set_cons_zero, List.set_cons_succ, i64_w, i32_w]
                    rfl
                  refine pure_ (i := 14) (N := some 45) (v := ?_) (a' := ?_) #[true, true, true, true, true, true, true, true, true, true, true, true, true, true, true, false, false] rfl rfl (any_of HT_.out (by kernel_rfl)) (fun _ _ _ h => h) (Or.inl ⟨by rfl, ?_⟩) ?_ ?_
                  rotate_left
                  · intro w'
                    go_simp
                    with_reducible rfl
                  rotate_left
                  · simp only [Act.put, List.setIfInBounds_toArray, List.set_cons_zero, List.set_cons_succ, i64_w, i32_w]
                    rfl
                  refine pure_ (i := 15) (N := some 46) (v := ?_) (a' := ?_) #[true, true, true, true, true, true, true, true, true, true, true, true, true, true, true, true, false] rfl rfl (any_of HT_.out (by kernel_rfl)) (fun _ _ _ h => h) (Or.inl ⟨by rfl, ?_⟩) ?_ ?_
                  rotate_left
                  · intro w'
                    go_simp
                    with_reducible rfl
                  rotate_left
                  · simp only [Act.put, List.setIfInBounds_toArray, List.set_cons_zero, List.set_cons_succ, i64_w, i32_w]
                    rfl
                  refine last_ (i := 16) (N := none) #[true, true, true, true, true, true, true, true, true, true, true, true, true, true, true, true, true] rfl rfl (one_of HT_.out (by kernel_rfl)) (by decide) (fun K hK => ?_)
                  refine skip_ (w1 := ?_) (by rfl) rfl ?_ ?_
                  rotate_left
                  · go_simp
                    rfl
                  refine hK.out _ _ ?_
                  clear hK K
                  refine done_ (done_of HT_.out (by kernel_rfl)) ?_
                  try go_wp2
                  go_ret3
                  exact ⟨_, by first | rfl | (simp [errW_none, errW_some] <;> rfl) | (simp [*, errW_none, errW_some] <;> rfl), by (with_reducible repeat (first | apply Kd.R_alloc | apply Kd.R_drewN | apply Kd.R_drew)); exact Kd.R_mono HQ33.out (fun _ hk => trivial), by repeat (first | (with_reducible first | exact HB.out | apply below_alloc | apply pw_below_drewN | apply below_drew1 | refine below_set ?_ GB21.out) | exact HB.out)⟩
                · rw [if_neg c20] at H
                  exact absurd H (by simp)
              · rw [if_neg c18] at H
                exact absurd H (by simp)
            · rw [if_neg c17] at H
              exact absurd H (by simp)
          · rw [if_neg c15] at H
            exact absurd H (by simp)
        · rw [if_neg c14] at H
          exact absurd H (by simp)
      · replace c12 := Bool.eq_false_iff.mpr c12
        subst c12
        have H1 : (some (([] : List (S43)), false, 0)) = some (r1, r2, r3) := by rw [if_neg (show ¬ (false = true) by decide)] at H; exact H
        clear H
        have H := H1
        clear H1
        simp only [Option.some.injEq, Prod.mk.injEq] at H
        obtain ⟨rfl, rfl, rfl⟩ := H
        go_enter Try.func72, Try.ntmps72
        go_wp2_with (first | ((with_reducible refine gate_callee (f := 105) rfl ?_); refine goesL_ (some 13) rfl rfl Try.func105 (by kernel_rfl) rfl #[.slice A0 l0.length c0, .int .i64 a1] rfl (by (try simp only [List.map_toArray, List.map_cons, List.map_nil]); first | done | rfl | (simp only [List.length_drop, List.length_take]; rfl)) ?_; (with_reducible refine (secret_more.calls _ _ l0 a1 t636 _ ?side1 ?side2 A3.out).mono ?_); (case side1 => repeat (first | exact HR0.out | (with_reducible refine Kd.C_alloc ?_ _) | (with_reducible refine Kd.C_drewN ?_ _) | (with_reducible refine Kd.C_drew ?_))); (case side2 => exact HC0.out); rintro e w34 ⟨rfl, hb⟩; refine ⟨_, rfl, ?_⟩; have n0_ := Aside0.mk (below_step (by repeat (first | (with_reducible first | exact HB.out | apply below_alloc | apply pw_below_drewN | apply below_drew1) | exact HB.out)) hb); clear HB; have HB := n0_; clear n0_; (try clear hb); (try clear hb2); (try clear hk); (try clear hi)) | ((with_reducible refine gate_callee (f := 93) rfl ?_); refine goesL_ (some 18) rfl rfl Try.func93 (by kernel_rfl) rfl #[.slice A0 l0.length c0] rfl (by (try simp only [List.map_toArray, List.map_cons, List.map_nil]); first | done | rfl | (simp only [List.length_drop, List.length_take]; rfl)) ?_; (with_reducible refine (api_Part_93.calls _ _ l0 t637 _ ?side1 ?side2 A5.out).mono ?_); (case side1 => repeat (first | exact (Kd.C_below HR0.out HB.out) | (with_reducible refine Kd.C_alloc ?_ _) | (with_reducible refine Kd.C_drewN ?_ _) | (with_reducible refine Kd.C_drew ?_))); (case side2 => exact HC0.out); rintro e w35 ⟨v638, rfl, ho0, hb⟩; refine ⟨_, rfl, ?_⟩; have n0_ := Aside0.mk (Kd.R_lower ho0 (below_size (by repeat (first | (with_reducible first | exact HB.out | apply below_alloc | apply pw_below_drewN | apply below_drew1) | exact HB.out)))); have n1_ := Aside0.mk (below_step (by repeat (first | (with_reducible first | exact HB.out | apply below_alloc | apply pw_below_drewN | apply below_drew1) | exact HB.out)) hb); clear HB; have HO639 := n0_; have HB := n1_; clear n0_ n1_; (try clear hb); (try clear hb2); (try clear hk); (try clear hi); (try clear ho0)) | ((with_reducible refine gate_callee (f := 90) rfl ?_); refine goesL_ (some 21) rfl rfl Try.func90 (by kernel_rfl) rfl #[.slice A0 l0.length c0, .int .i64 a1] rfl (by (try simp only [List.map_toArray, List.map_cons, List.map_nil]); first | done | rfl | (simp only [List.length_drop, List.length_take]; rfl)) ?_; (with_reducible refine (secret_lieOn.calls _ _ l0 a1 false _ ?side1 ?side2 A6.out).mono ?_); (case side1 => repeat (first | exact (Kd.C_below HR0.out HB.out) | (with_reducible refine Kd.C_alloc ?_ _) | (with_reducible refine Kd.C_drewN ?_ _) | (with_reducible refine Kd.C_drew ?_))); (case side2 => exact HC0.out); rintro e w36 ⟨rfl, hb⟩; refine ⟨_, rfl, ?_⟩; have n0_ := Aside0.mk (Kd.R_below (by (with_reducible repeat (first | apply Kd.R_alloc | apply Kd.R_drewN | apply Kd.R_drew)); exact HO639.out) hb); have n1_ := Aside0.mk (below_step (by repeat (first | (with_reducible first | exact HB.out | apply below_alloc | apply pw_below_drewN | apply below_drew1) | exact HB.out)) hb); clear HO639; clear HB; have HO639 := n0_; have HB := n1_; clear n0_ n1_; (try clear hb); (try clear hb2); (try clear hk); (try clear hi)) | ((with_reducible refine gate_callee (f := 106) rfl ?_); refine goesL_ (some 26) rfl rfl Try.func106 (by kernel_rfl) rfl #[.slice A0 l0.length c0, .int .i64 a1] rfl (by (try simp only [List.map_toArray, List.map_cons, List.map_nil]); first | done | rfl | (simp only [List.length_drop, List.length_take]; rfl)) ?_; (with_reducible refine (secret_wrong.calls k _ _ l0 a1 t641 false _ ?side1 ?side2 A11.out).mono ?_); (case side1 => repeat (first | exact (Kd.C_below HR0.out HB.out) | (with_reducible refine Kd.C_alloc ?_ _) | (with_reducible refine Kd.C_drewN ?_ _) | (with_reducible refine Kd.C_drew ?_))); (case side2 => exact HC0.out); rintro e w37 ⟨rfl, hb⟩; refine ⟨_, rfl, ?_⟩; have n0_ := Aside0.mk (Kd.R_below (by (with_reducible repeat (first | apply Kd.R_alloc | apply Kd.R_drewN | apply Kd.R_drew)); exact HO639.out) hb); have n1_ := Aside0.mk (below_step (by repeat (first | (with_reducible first | exact HB.out | apply below_alloc | apply pw_below_drewN | apply below_drew1) | exact HB.out)) hb); clear HO639; clear HB; have HO639 := n0_; have HB := n1_; clear n0_ n1_; (try clear hb); (try clear hb2); (try clear hk); (try clear hi)))
        go_ret3
        exact ⟨_, by first | rfl | (simp [errW_none, errW_some] <;> rfl) | (simp [*, errW_none, errW_some] <;> rfl), by first | exact Kd.R_nil _ _ _ _ _ | exact Kd.N_nil _ _ _ _ _ | exact Kd.V_nil _ _ _ _ _ | exact Kd.Q_nil _ _ _ _ _ | exact Kd.S_nil _ _ _ _ _, by repeat (first | (with_reducible first | exact HB.out | apply below_alloc | apply pw_below_drewN | apply below_drew1) | exact HB.out)⟩
  · rw [if_neg c4] at H
    have c4b0 : (t636 == 0) = false := beq_eq_false_iff_ne.mpr c4
    have c4b1 : (t636 != 0) = true := bne_iff_ne.mpr c4
    simp only [Option.some.injEq, Prod.mk.injEq] at H
    obtain ⟨rfl, rfl, rfl⟩ := H
    go_enter Try.func72, Try.ntmps72
    go_wp2_with (first | ((with_reducible refine gate_callee (f := 105) rfl ?_); refine goesL_ (some 13) rfl rfl Try.func105 (by kernel_rfl) rfl #[.slice A0 l0.length c0, .int .i64 a1] rfl (by (try simp only [List.map_toArray, List.map_cons, List.map_nil]); first | done | rfl | (simp only [List.length_drop, List.length_take]; rfl)) ?_; (with_reducible refine (secret_more.calls _ _ l0 a1 t636 _ ?side1 ?side2 A3.out).mono ?_); (case side1 => repeat (first | exact HR0.out | (with_reducible refine Kd.C_alloc ?_ _) | (with_reducible refine Kd.C_drewN ?_ _) | (with_reducible refine Kd.C_drew ?_))); (case side2 => exact HC0.out); rintro e w38 ⟨rfl, hb⟩; refine ⟨_, rfl, ?_⟩; have n0_ := Aside0.mk (below_step (by repeat (first | (with_reducible first | exact HB.out | apply below_alloc | apply pw_below_drewN | apply below_drew1) | exact HB.out)) hb); clear HB; have HB := n0_; clear n0_; (try clear hb); (try clear hb2); (try clear hk); (try clear hi)))
    go_ret3
    exact ⟨_, by first | rfl | (simp [errW_none, errW_some] <;> rfl) | (simp [*, errW_none, errW_some] <;> rfl), by first | exact Kd.R_nil _ _ _ _ _ | exact Kd.N_nil _ _ _ _ _ | exact Kd.V_nil _ _ _ _ _ | exact Kd.Q_nil _ _ _ _ _ | exact Kd.S_nil _ _ _ _ _, by repeat (first | (with_reducible first | exact HB.out | apply below_alloc | apply pw_below_drewN | apply below_drew1) | exact HB.out)⟩

end Go.Proofs.Ythlbjdiicmojfaa.P

/-! Part PF73. -/
-- Written for this claim by wip/print_more.py (a session's program that runs the kit's printer with hand-proved functions beside). Lean checks it.
namespace Go.Proofs.Ythlbjdiicmojfaa.P
open Go.RowKit Go.Proofs.YthlbjdiicmojfaaW.PrintWords Go.Proofs.YthlbjdiicmojfaaW.PrintLast Go.Proofs.YthlbjdiicmojfaaW.PrintMore
attribute [local go_sem] max2_int min2_int max_two min_two max_three min_three max_four min_four   -- for this text's walks alone
set_option linter.unusedVariables false
set_option linter.unusedSimpArgs false

/-! ### secret_Wrong: function 73 -/
def secret_Wrong.f (k : Nat) (l0 : List (S43)) (a1 : Int) : Option (Int × Bool × Int) := (secret_more.f l0 a1).bind fun t680 => (if t680 = 0 then ((secret_wrong.f k l0 a1).bind fun bt681 => (some (bt681.1, bt681.2, 0))) else (some (0, false, t680)))
theorem secret_Wrong.mono : ∀ a0 a1 k, LeO (secret_Wrong.f k a0 a1) (secret_Wrong.f (k + 1) a0 a1) := by
  intro a0 a1 k
  unfold secret_Wrong.f
  repeat' first
      | (with_reducible exact secret_wrong.mono _ _ _)
      | (with_reducible exact LeO.refl _)
      | (with_reducible exact LeO.none _)
      | (with_reducible refine LeO.ite ?_ ?_)
      | (with_reducible refine LeO.bind ?_ (fun _ => ?_))
      | exact secret_wrong.mono _ _ _
      | exact LeO.none _
      | refine LeO.ite ?_ ?_
      | refine LeO.bind ?_ (fun _ => ?_)
set_option maxHeartbeats 8000000 in
set_option maxRecDepth 100000 in
theorem secret_Wrong.calls (k : Nat) (A0 : Option Addr) (c0 : Nat) (l0 : List (S43)) (a1 : Int) (r1 : Int) (r2 : Bool) (r3 : Int) (w : World) (hr0 : Kd.C k43 w A0 l0.length l0) (hc0 : l0.length ≤ c0) (h : secret_Wrong.f k l0 a1 = some (r1, r2, r3)) :
    Calls Try.prog 73 #[.slice A0 l0.length c0, .int .i64 a1] w fun e w' => e = .returned (.tuple #[.int .i64 r1, .bool r2, .int .i64 r3]) ∧ Below w.heap.size w w' := by
  have HR0 := Aside0.mk hr0
  have HC0 := Aside0.mk hc0
  clear hr0 hc0
  have HB := Aside0.mk (Below.refl w.heap.size w)
  have H : ((secret_more.f l0 a1).bind fun t680 => (if t680 = 0 then ((secret_wrong.f k l0 a1).bind fun bt681 => (some (bt681.1, bt681.2, 0))) else (some (0, false, t680)))) = some (r1, r2, r3) := h
  clear h
  replace H := Option.bind_eq_some_iff.mp H
  obtain ⟨t680, A30, H⟩ := H
  replace H : (if t680 = 0 then ((secret_wrong.f k l0 a1).bind fun bt681 => (some (bt681.1, bt681.2, 0))) else (some (0, false, t680))) = some (r1, r2, r3) := H
  have A3 := Aside0.mk A30
  clear A30
  by_cases c4 : t680 = 0
  · rw [if_pos c4] at H
    have c4b0 : (t680 == 0) = true := beq_iff_eq.mpr c4
    have c4b1 : (t680 != 0) = false := bne_eq_false_iff_eq.mpr c4
    clear c4
    replace H := Option.bind_eq_some_iff.mp H
    obtain ⟨⟨t681, t682⟩, A50, H⟩ := H
    replace H : (some (t681, t682, 0)) = some (r1, r2, r3) := H
    have A5 := Aside0.mk A50
    clear A50
    simp only [Option.some.injEq, Prod.mk.injEq] at H
    obtain ⟨rfl, rfl, rfl⟩ := H
    go_enter Try.func73, Try.ntmps73
    go_wp2_with (first | ((with_reducible refine gate_callee (f := 105) rfl ?_); refine goesL_ (some 12) rfl rfl Try.func105 (by kernel_rfl) rfl #[.slice A0 l0.length c0, .int .i64 a1] rfl (by (try simp only [List.map_toArray, List.map_cons, List.map_nil]); first | done | rfl | (simp only [List.length_drop, List.length_take]; rfl)) ?_; (with_reducible refine (secret_more.calls _ _ l0 a1 t680 _ ?side1 ?side2 A3.out).mono ?_); (case side1 => repeat (first | exact HR0.out | (with_reducible refine Kd.C_alloc ?_ _) | (with_reducible refine Kd.C_drewN ?_ _) | (with_reducible refine Kd.C_drew ?_))); (case side2 => exact HC0.out); rintro e w6 ⟨rfl, hb⟩; refine ⟨_, rfl, ?_⟩; have n0_ := Aside0.mk (below_step (by repeat (first | (with_reducible first | exact HB.out | apply below_alloc | apply pw_below_drewN | apply below_drew1) | exact HB.out)) hb); clear HB; have HB := n0_; clear n0_; (try clear hb); (try clear hb2); (try clear hk); (try clear hi)) | ((with_reducible refine gate_callee (f := 106) rfl ?_); refine goesL_ (some 19) rfl rfl Try.func106 (by kernel_rfl) rfl #[.slice A0 l0.length c0, .int .i64 a1] rfl (by (try simp only [List.map_toArray, List.map_cons, List.map_nil]); first | done | rfl | (simp only [List.length_drop, List.length_take]; rfl)) ?_; (with_reducible refine (secret_wrong.calls k _ _ l0 a1 t681 t682 _ ?side1 ?side2 A5.out).mono ?_); (case side1 => repeat (first | exact (Kd.C_below HR0.out HB.out) | (with_reducible refine Kd.C_alloc ?_ _) | (with_reducible refine Kd.C_drewN ?_ _) | (with_reducible refine Kd.C_drew ?_))); (case side2 => exact HC0.out); rintro e w7 ⟨rfl, hb⟩; refine ⟨_, rfl, ?_⟩; have n0_ := Aside0.mk (below_step (by repeat (first | (with_reducible first | exact HB.out | apply below_alloc | apply pw_below_drewN | apply below_drew1) | exact HB.out)) hb); clear HB; have HB := n0_; clear n0_; (try clear hb); (try clear hb2); (try clear hk); (try clear hi)))
    go_ret3
    exact ⟨by first | rfl | (simp [errW_none, errW_some] <;> rfl) | (simp [*, errW_none, errW_some] <;> rfl), by repeat (first | (with_reducible first | exact HB.out | apply below_alloc | apply pw_below_drewN | apply below_drew1) | exact HB.out)⟩
  · rw [if_neg c4] at H
    have c4b0 : (t680 == 0) = false := beq_eq_false_iff_ne.mpr c4
    have c4b1 : (t680 != 0) = true := bne_iff_ne.mpr c4
    simp only [Option.some.injEq, Prod.mk.injEq] at H
    obtain ⟨rfl, rfl, rfl⟩ := H
    go_enter Try.func73, Try.ntmps73
    go_wp2_with (first | ((with_reducible refine gate_callee (f := 105) rfl ?_); refine goesL_ (some 12) rfl rfl Try.func105 (by kernel_rfl) rfl #[.slice A0 l0.length c0, .int .i64 a1] rfl (by (try simp only [List.map_toArray, List.map_cons, List.map_nil]); first | done | rfl | (simp only [List.length_drop, List.length_take]; rfl)) ?_; (with_reducible refine (secret_more.calls _ _ l0 a1 t680 _ ?side1 ?side2 A3.out).mono ?_); (case side1 => repeat (first | exact HR0.out | (with_reducible refine Kd.C_alloc ?_ _) | (with_reducible refine Kd.C_drewN ?_ _) | (with_reducible refine Kd.C_drew ?_))); (case side2 => exact HC0.out); rintro e w8 ⟨rfl, hb⟩; refine ⟨_, rfl, ?_⟩; have n0_ := Aside0.mk (below_step (by repeat (first | (with_reducible first | exact HB.out | apply below_alloc | apply pw_below_drewN | apply below_drew1) | exact HB.out)) hb); clear HB; have HB := n0_; clear n0_; (try clear hb); (try clear hb2); (try clear hk); (try clear hi)))
    go_ret3
    exact ⟨by first | rfl | (simp [errW_none, errW_some] <;> rfl) | (simp [*, errW_none, errW_some] <;> rfl), by repeat (first | (with_reducible first | exact HB.out | apply below_alloc | apply pw_below_drewN | apply below_drew1) | exact HB.out)⟩

end Go.Proofs.Ythlbjdiicmojfaa.P
