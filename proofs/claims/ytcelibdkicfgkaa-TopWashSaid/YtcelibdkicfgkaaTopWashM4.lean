/- Parts of the proof of the law TopWash: walks of functions that it reaches, and plain facts about numbers, lists and curves; without a condition. -/
import Derived.Test.YtcelibdkicfgkaaTopWashM2
import Derived.Test.YtcelibdkicfgkaaTopWashM3
import Derived.Test.YtcelibdkicfgkaaTopWashM1
/-! Part H18. -/
/- wash.Moves: the moves that lead from one lot to a finer one. -/
namespace Go.Proofs.Ytcelibdkicfgkaa.P
open Go.RowKit Go.Proofs.YtcelibdkicfgkaaW.PrintWords Go.Proofs.YtcelibdkicfgkaaW.PrintLast Go.Proofs.YtcelibdkicfgkaaW.PrintMore
attribute [local go_sem] max2_int min2_int max_two min_two max_three min_three max_four min_four   -- for this text's walks alone
set_option linter.unusedVariables false

def wash_Moves.B12 : List Nat := [0, 0, 2, 6, 14, 0, 32, 96, 224, 0, 1022, 2046, 4095, 8191]
theorem wash_Moves.tab12 : rtab .any (opsOf Try.f18 12) = rtab .any (opsOf Try.f18 12) := rfl
theorem wash_Moves.bits12 : waitsOk (rtab .any (opsOf Try.f18 12)).2 wash_Moves.B12 = true := by kernel_rfl
/-- Sums of a row that hold (wk). -/
theorem wk_inv (d : Int → Int) : ∀ (n p : Nat) (sum : Int), (wk n p sum (su d p) d).2 = true → ∀ t, p ≤ t → t < p + n → 0 ≤ su d (t + 1)
  | 0, p, sum, _ => by intro t h1 h2; omega
  | n + 1, p, sum, h => by
    intro t h1 h2
    simp only [wk] at h
    by_cases c : su d p + d (p : Int) < 0
    · rw [if_pos c] at h; cases h
    · rw [if_neg c] at h
      have e : su d p + d (p : Int) = su d (p + 1) := rfl
      rw [e] at h c
      by_cases hp : t = p
      · subst hp; omega
      · exact wk_inv d n (p + 1) _ h t (by omega) (by omega)
theorem su_sub (f g : Int → Int) : ∀ n, su (fun t => f t - g t) n = su f n - su g n
  | 0 => rfl
  | n + 1 => by simp only [su]; rw [su_sub f g n]; omega
theorem vErr_f0 {l : List S61} (h : vErr l = 0) : ∀ g ∈ l, 0 ≤ g.f0 := fun g hg => (vErr_sizes h g hg).1
theorem pair_of {l0 l1 : List S61} (h0 : vErr l0 = 0) (h1 : vErr l1 = 0) (ht : tot l0 = tot l1) (hw : (wk 21 0 0 0 fun s => pt l0 s - pt l1 s).2 = true) : Pair l0 l1 := by
  obtain ⟨a1, a2, a3⟩ := vErr_zero h0
  obtain ⟨b1, b2, b3⟩ := vErr_zero h1
  refine ⟨a2, b2, ht, fun s => ?_, a3, b3⟩
  by_cases c : s ≤ 0
  · rw [cu_low a2 c, cu_low b2 c]; exact Int.le_refl _
  by_cases d : 20 < s
  · rw [cu_high (l := l0) (fun g hg => by have := (a3 g hg).1; omega), cu_high (l := l1) (fun g hg => by have := (b3 g hg).1; omega), ht]; exact Int.le_refl _
  · have h := wk_inv (fun s => pt l0 s - pt l1 s) 21 0 0 hw s.toNat (by omega) (by omega)
    rw [su_sub, su_pt _ _ (vErr_f0 h0), su_pt _ _ (vErr_f0 h1), show (((s.toNat + 1 : Nat) : Int) - 1) = s by omega] at h
    omega
theorem pair_eq (l0 l1 : List S61) (k : Nat) (hk : 10 ≤ k) : wash_pair.f k l0 l1 = some (if vErr l0 = 0 then (if vErr l1 = 0 then (if tot l0 = tot l1 then 0 else 5) else vErr l1) else vErr l0) := by
  unfold wash_pair.f
  rw [validate_eq l0 k hk, Option.bind_some]
  by_cases h0 : vErr l0 = 0
  · rw [if_pos h0, if_pos h0, validate_eq l1 k hk, Option.bind_some]
    by_cases h1 : vErr l1 = 0
    · rw [if_pos h1, if_pos h1, mass_eq l0 (vErr_zero h0).1 (vErr_mass h0) k hk, mass_eq l1 (vErr_zero h1).1 (vErr_mass h1) k hk]
      simp only [Option.bind_some]
      split <;> rfl
    · rw [if_neg h1, if_neg h1]
  · rw [if_neg h0, if_neg h0]
theorem q_tail {W : World} {base : Nat} {ok : Nat → Prop} {g o n c : Nat} {xs : List S61} (h : Kd.Q k61 61 W base ok (.slice (some ⟨g, o, none⟩) n c) xs) (hn : 0 < n) :
    ∃ A' c', (∀ W' : World, (Instr.slice 22 (.slice (some ⟨g, o, none⟩) n c) (some (.int .i64 1)) none none).run Try.prog W' = .ok (.slice A' (n - 1) c') W') ∧ Kd.Q k61 61 W base ok (.slice A' (n - 1) c') (xs.drop 1) ∧ (Value.slice A' (n - 1) c').ownBlock = some g := by
  obtain ⟨i0, hi0, _, hsz, _⟩ := info_parts infoG
  have hx := (Kd.Q_reads' h).1
  have h1 := cut_from (P := Try.prog) 22 61 .i64 Try.underlying22 hi0 2 hsz (some ⟨g, o, none⟩) n c 1 (by omega) (by omega)
  have h2 := Kd.Q_drop (k := 1) h (by omega)
  refine ⟨_, _, h1, h2, ?_⟩
  split <;> rfl
theorem q_put {W : World} {base : Nat} {ok : Nat → Prop} {g o n c : Nat} {x : S61} {xs : List S61} (h : Kd.Q k61 61 W base ok (.slice (some ⟨g, o, none⟩) n c) (x :: xs)) :
    W.cell? ⟨g, o, none⟩ = some (.int .i64 x.f0) ∧ W.cell? ⟨g, o + 1, none⟩ = some (.int .i64 x.f1) ∧ W.frozen? ⟨g, o + 1, none⟩ = false ∧
    ∀ v : Int, Kd.Q k61 61 (W.setCell ⟨g, o + 1, none⟩ (.int .i64 v)) base ok (.slice (some ⟨g, o, none⟩) n c) (⟨x.f0, v⟩ :: xs) ∧ W.grownBy (W.setCell ⟨g, o + 1, none⟩ (.int .i64 v)) (some g) := by
  have hn := (Kd.Q_reads' h).1
  obtain ⟨cs, hcl, hM, hcc, hfr⟩ := Kd.Q_elem h z61 0 (by omega) (by rw [hn]; simp)
  have hM2 : k61.M W base (fun k => ok k ∧ k ≠ g) x cs := hM
  obtain rfl := k61_openM hM2
  refine ⟨hcc 0 _ rfl, hcc 1 _ rfl, hfr 1, fun v => ?_⟩
  have hs := Kd.Q_seg h 0 (by omega) (by rw [hn]; simp) (j := 1) (seg := [.int .i64 v]) hcl hcc (show 1 + 1 ≤ 2 by decide) (x' := ⟨x.f0, v⟩) (okp := fun _ => False) (k61_mkM _ _ _ ⟨x.f0, v⟩) (fun _ hk => hk.elim)
  exact hs

set_option maxHeartbeats 8000000 in
set_option maxRecDepth 100000 in
theorem wash_Moves.calls (A0 : Option Addr) (c0 : Nat) (l0 : List (S61)) (A1 : Option Addr) (c1 : Nat) (l1 : List (S61)) (r1 : List S56) (r2 : Bool) (r3 : Int) (w : World) (hr0 : Kd.C k61 w A0 l0.length l0) (hc0 : l0.length ≤ c0) (hr1 : Kd.C k61 w A1 l1.length l1) (hc1 : l1.length ≤ c1) (h : wash_Moves.f l0 l1 = some (r1, r2, r3)) :
    Calls Try.prog 18 #[.slice A0 l0.length c0, .slice A1 l1.length c1] w fun e w' => ∃ v0_ : Value, e = .returned (.tuple #[v0_, .bool r2, .int .i64 r3]) ∧ Kd.R k56 56 w' w.heap.size (fun _ => True) v0_ r1 ∧ Below w.heap.size w w' := by
  have hR := Option.some.inj h
  have HPr := Aside0.mk (wash_pair.calls 10 A0 c0 l0 A1 c1 l1 _ w hr0 hc0 hr1 hc1 (pair_eq l0 l1 10 (Nat.le_refl _)))
  have HR0 := Aside0.mk hr0
  have HC0 := Aside0.mk hc0
  have HR1 := Aside0.mk hr1
  have HC1 := Aside0.mk hc1
  have hu61 := Try.underlying61
  have hu56 := Try.underlying56
  clear h hr0 hc0 hr1 hc1
  obtain ⟨ev, hev⟩ : ∃ z, (if vErr l0 = 0 then (if vErr l1 = 0 then (if tot l0 = tot l1 then (0 : Int) else 5) else vErr l1) else vErr l0) = z := ⟨_, rfl⟩
  rw [hev] at HPr
  by_cases he : ev = 0
  · have hall : vErr l0 = 0 ∧ vErr l1 = 0 ∧ tot l0 = tot l1 := by
      by_cases c0 : vErr l0 = 0
      · rw [if_pos c0] at hev
        by_cases c1 : vErr l1 = 0
        · rw [if_pos c1] at hev
          by_cases c2 : tot l0 = tot l1
          · exact ⟨c0, c1, c2⟩
          · rw [if_neg c2] at hev; omega
        · rw [if_neg c1] at hev; omega
      · rw [if_neg c0] at hev; omega
    obtain ⟨hv0, hv1, htt⟩ := hall
    subst he
    clear hev
    rw [if_pos hv0, if_pos hv1, if_pos htt] at hR
    obtain ⟨⟨ws, wo⟩, hwk⟩ : ∃ z, (wk 21 0 0 0 fun s => pt l0 s - pt l1 s) = z := ⟨_, rfl⟩
    have HWk : Aside0 (∀ W, Below w.heap.size w W → Calls Try.prog 30 #[.slice A0 l0.length c0, .slice A1 l1.length c1] W fun e w' => e = .returned (.tuple #[.int .i64 ws, .bool wo]) ∧ Below W.heap.size W w') := ⟨fun W hW => wash_work.calls A0 c0 l0 A1 c1 l1 ws wo W (Kd.C_below HR0.out hW) HC0.out (Kd.C_below HR1.out hW) HC1.out (by unfold wash_work.f; rw [if_pos ⟨hv0, hv1⟩, hwk])⟩
    have hpo := fun hc => pair_of hv0 hv1 htt hc
    rw [hwk] at hR hpo
    have hlen0 := (vErr_zero hv0).1
    have hlen1 := (vErr_zero hv1).1
    cases wo with
    | false =>
      rw [if_neg (by simp)] at hR
      obtain ⟨q1, q2⟩ := Prod.mk.inj hR
      obtain ⟨q2, q3⟩ := Prod.mk.inj q2
      subst q1; subst q2; subst q3
      clear hR hv0 hv1 htt hwk hpo hlen0 hlen1
      go_enter Try.func18, Try.ntmps18
      go_wp2_with (first | (go_at_call 29; (with_reducible refine HPr.out.mono ?_); rintro e w1 ⟨rfl, hb⟩; have HB1 := Aside0.mk hb; clear hb) | (go_at_call 30; (with_reducible refine (HWk.out _ HB1.out).mono ?_); rintro e w2 ⟨rfl, hb⟩; have HB2 := Aside0.mk (below_step HB1.out hb); clear hb))
      go_ret3
      exact ⟨_, rfl, Kd.R_nil k56 56 _ _ _, HB2.out⟩
    | true =>
      rw [if_pos rfl] at hR
      obtain ⟨q1, q2⟩ := Prod.mk.inj hR
      obtain ⟨q2, q3⟩ := Prod.mk.inj q2
      subst q2; subst q3
      have HPA := Aside0.mk (hpo rfl)
      have HG := Aside0.mk q1
      have HL : Aside0 (r1.length ≤ 12) := ⟨by rw [← q1]; have := greedy_len 12 l0 l1; omega⟩
      have HK : Aside0 (l0.length + l1.length ≤ 12) := ⟨by omega⟩
      have HC30 : Aside0 (∀ W, Below w.heap.size w W → Calls Try.prog 31 #[.slice A0 l0.length c0] W fun e w' => ∃ v0_ : Value, e = .returned (v0_) ∧ Kd.R k61 61 w' W.heap.size (fun _ => True) v0_ l0 ∧ Below W.heap.size W w') := ⟨fun W hW => api_Grain_31.calls A0 c0 l0 l0 W (Kd.C_below HR0.out hW) HC0.out (by unfold api_Grain_31.f; rw [if_pos hlen0])⟩
      have HC31 : Aside0 (∀ W, Below w.heap.size w W → Calls Try.prog 31 #[.slice A1 l1.length c1] W fun e w' => ∃ v0_ : Value, e = .returned (v0_) ∧ Kd.R k61 61 w' W.heap.size (fun _ => True) v0_ l1 ∧ Below W.heap.size W w') := ⟨fun W hW => api_Grain_31.calls A1 c1 l1 l1 W (Kd.C_below HR1.out hW) HC1.out (by unfold api_Grain_31.f; rw [if_pos hlen1])⟩
      clear hR hv0 hv1 htt hwk hpo hlen0 hlen1 q1
      go_enter Try.func18, Try.ntmps18
      go_upto_region 8 with (first | (go_at_call 29; (with_reducible refine HPr.out.mono ?_); rintro e w1 ⟨rfl, hb⟩; have HB1 := Aside0.mk hb; clear hb) | (go_at_call 30; (with_reducible refine (HWk.out _ HB1.out).mono ?_); rintro e w2 ⟨rfl, hb⟩; have HB2 := Aside0.mk (below_step HB1.out hb); clear hb) | (go_at_call 31; (with_reducible refine (HC30.out _ HB2.out).mono ?_); rintro e w3 ⟨v3, rfl, ho, hb⟩; have HX3 := Aside0.mk ho; have HB3 := Aside0.mk (below_step HB2.out hb); clear ho hb) | (go_at_call 31; (with_reducible refine (HC31.out _ HB3.out).mono ?_); rintro e w4 ⟨v4, rfl, ho, hb⟩; have HY4 := Aside0.mk ho; have HX4 := Aside0.mk (Kd.R_elder' HX3.out (Kd.R_base ho) hb); have HY4b := Aside0.mk (Kd.R_new' ho (Kd.R_lt HX3.out)); have HB4 := Aside0.mk (below_step HB3.out hb); have HZ3 := Aside0.mk HB3.out.size; have HZ2 := Aside0.mk HB2.out.size; clear ho hb))
      obtain ⟨HX4, HY4b⟩ : Aside0 (Kd.Q k61 61 w4 w.heap.size (fun k_ => True ∧ some k_ ≠ v4.ownBlock) v3 l0) ∧ Aside0 (Kd.Q k61 61 w4 w.heap.size (fun k_ => True ∧ some k_ ≠ v3.ownBlock) v4 l1) := ⟨⟨Kd.Q_of_R (Kd.R_lower HX4.out HZ2.out)⟩, ⟨Kd.Q_of_R (Kd.R_lower HY4b.out HZ3.out)⟩⟩
      clear HPr HWk HC30 HC31 HB1 HB2 HB3 HX3 HY4 HZ2 HZ3
      go_wp2_with fail
      go_loopg [10, 11, 12] 12 (fun gg v10 v11 v12 wr => ∃ (X Y : List S61) (acc : List S56) (n : Nat), n ≤ gg ∧ Aside0 (X.length + Y.length ≤ n) ∧ Aside0 (Kd.Q k61 61 wr w.heap.size (fun k_ => True ∧ some k_ ≠ (v11 : Value).ownBlock) v10 X) ∧ Aside0 (Kd.Q k61 61 wr w.heap.size (fun k_ => True ∧ some k_ ≠ (v10 : Value).ownBlock) v11 Y) ∧ Aside0 (Kd.R k56 56 wr w.heap.size (fun _ => True) v12 acc) ∧ Aside0 (Pair X Y) ∧ Aside0 (acc ++ greedy n X Y = r1) ∧ Aside0 (Below w.heap.size w wr))
      case atStart => exact ⟨l0, l1, [], 12, Nat.le_refl _, HK, HX4, HY4b, ⟨Kd.R_nil k56 56 _ _ _⟩, HPA, ⟨by rw [List.nil_append]; exact HG.out⟩, HB4⟩
      case round =>
        clear HX4 HY4b HB4 HPA HG HK
        obtain ⟨X, Y, acc, n, hng, HN, HX, HY, HO, HP, HG, HB⟩ := hrel
        have HAL : Aside0 (acc.length ≤ 12) := ⟨by have := HL.out; rw [← HG.out, List.length_append] at this; omega⟩
        cases X with
        | nil =>
          obtain ⟨A3, c3, e3, -⟩ := Kd.Q_slice HX.out
          subst e3
          have HE : Aside0 (acc = r1) := ⟨by have h := HG.out; cases n <;> simpa [greedy] using h⟩
          simp only [List.length_nil]
          go_wp2_with fail
          go_ret3
          refine ⟨_, rfl, ?_, HB.out⟩
          rw [← HE.out]
          exact HO.out
        | cons gx xt =>
          obtain ⟨gy, yt, eY⟩ := HP.out.ne
          subst eY
          obtain ⟨ga, oa, ca, e10, -, -, -⟩ := Kd.Q_form HX.out (by simp)
          obtain ⟨gb, ob, cb, e11, -, -, -⟩ := Kd.Q_form HY.out (by simp)
          subst e10; subst e11
          have hne : ga ≠ gb := by have h := (HX.out.1 ga rfl).2; intro e; apply h; rw [e]; rfl
          obtain ⟨lx, hlx⟩ : ∃ z, (gx :: xt).length = z := ⟨_, rfl⟩
          obtain ⟨ly, hly⟩ : ∃ z, (gy :: yt).length = z := ⟨_, rfl⟩
          have hlx0 : 0 < lx := by rw [← hlx]; simp
          have hly0 : 0 < ly := by rw [← hly]; simp
          rw [hlx, hly] at HX HY
          rw [hlx, hly]
          have HLX := Aside0.mk hlx
          have HLY := Aside0.mk hly
          clear hlx hly
          have hgr : greedy n (gx :: xt) (gy :: yt) = one1 gx gy (min gx.f1 gy.f1) ++ greedy (n - 1) (cut1 gx (min gx.f1 gy.f1) xt) (cut1 gy (min gx.f1 gy.f1) yt) := by
            obtain ⟨m, hm⟩ : ∃ m, n = m + 1 := ⟨n - 1, by have := HN.out; simp at this; omega⟩
            rw [hm]; rfl
          have hst := HP.out.step
          have hln := Pair.len (g := gx) (h := gy) (x := xt) (y := yt)
          have hbx := HP.out.bx gx (by simp)
          have hby := HP.out.bY gy (by simp)
          have hpx := HP.out.ax.2.1
          have hpy := HP.out.ay.2.1
          have hg := HG.out
          rw [hgr] at hg
          obtain ⟨x0, x1⟩ := gx
          obtain ⟨y0, y1⟩ := gy
          simp only at hst hln hbx hby hpx hpy hg
          obtain ⟨mm, hmm⟩ : ∃ z, min x1 y1 = z := ⟨_, rfl⟩
          have hmm2 : (if y1 < x1 then y1 else x1) = mm := by rw [← hmm]; split <;> omega
          have hmb : 1 ≤ mm ∧ mm ≤ x1 ∧ mm ≤ y1 := by rw [← hmm]; omega
          rw [hmm] at hst hln hg
          obtain ⟨m1, m2, m3⟩ := hmb
          obtain ⟨bx0, bx1⟩ := hbx
          obtain ⟨by0, by1⟩ := hby
          have HST := Aside0.mk hst
          have HLN := Aside0.mk hln
          have HGG := Aside0.mk hg
          clear hst hln hg hgr hmm HP HG HL
          have hx := q_put HX.out
          have hy := q_put HY.out
          obtain ⟨hx0, hx1, -, -⟩ := hx
          obtain ⟨hy0, hy1, -, -⟩ := hy
          simp only at hx0 hx1 hy0 hy1
          go_upto_region 10 with fail
          go_quiet (fail)
          go_upto_region 11 with fail
          clear hx0 hx1 hy0 hy1
          obtain ⟨HXq, HYq, HOq, HBq⟩ : Aside0 (Kd.Q k61 61 (wr.drewN nq) w.heap.size (fun k_ => True ∧ some k_ ≠ (Value.slice (some ⟨gb, ob, none⟩) ly cb).ownBlock) (.slice (some ⟨ga, oa, none⟩) lx ca) (⟨x0, x1⟩ :: xt)) ∧ Aside0 (Kd.Q k61 61 (wr.drewN nq) w.heap.size (fun k_ => True ∧ some k_ ≠ (Value.slice (some ⟨ga, oa, none⟩) lx ca).ownBlock) (.slice (some ⟨gb, ob, none⟩) ly cb) (⟨y0, y1⟩ :: yt)) ∧ Aside0 (Kd.R k56 56 (wr.drewN nq) w.heap.size (fun _ => True) u12 acc) ∧ Aside0 (Below w.heap.size w (wr.drewN nq)) := ⟨⟨Kd.Q_drewN HX.out _⟩, ⟨Kd.Q_drewN HY.out _⟩, ⟨Kd.R_drewN HO.out _⟩, ⟨pw_below_drewN HB.out _⟩⟩
          generalize wr.drewN nq = wq at HXq HYq HOq HBq ⊢
          clear HX HY HO HB nq
          have hx := q_put HXq.out
          have hy := q_put HYq.out
          obtain ⟨hx0, hx1, -, -⟩ := hx
          obtain ⟨hy0, hy1, -, -⟩ := hy
          simp only at hx0 hx1 hy0 hy1
          go_upto_region 11 with fail
          go_quiet (fail)
          go_upto_if 52 with fail
          clear hx0 hx1 hy0 hy1
          obtain ⟨HXp, HYp, HOp, HBp⟩ : Aside0 (Kd.Q k61 61 (wq.drewN nq) w.heap.size (fun k_ => True ∧ some k_ ≠ (Value.slice (some ⟨gb, ob, none⟩) ly cb).ownBlock) (.slice (some ⟨ga, oa, none⟩) lx ca) (⟨x0, x1⟩ :: xt)) ∧ Aside0 (Kd.Q k61 61 (wq.drewN nq) w.heap.size (fun k_ => True ∧ some k_ ≠ (Value.slice (some ⟨ga, oa, none⟩) lx ca).ownBlock) (.slice (some ⟨gb, ob, none⟩) ly cb) (⟨y0, y1⟩ :: yt)) ∧ Aside0 (Kd.R k56 56 (wq.drewN nq) w.heap.size (fun _ => True) u12 acc) ∧ Aside0 (Below w.heap.size w (wq.drewN nq)) := ⟨⟨Kd.Q_drewN HXq.out _⟩, ⟨Kd.Q_drewN HYq.out _⟩, ⟨Kd.R_drewN HOq.out _⟩, ⟨pw_below_drewN HBq.out _⟩⟩
          generalize wq.drewN nq = wa at HXp HYp HOp HBp ⊢
          clear HXq HYq HOq HBq nq
          go_cut [12] (fun v12 wc => ∃ acc2 : List S56, Aside0 (acc2 = acc ++ one1 ⟨x0, x1⟩ ⟨y0, y1⟩ mm) ∧ Aside0 (Kd.Q k61 61 wc w.heap.size (fun k_ => True ∧ some k_ ≠ (Value.slice (some ⟨gb, ob, none⟩) ly cb).ownBlock) (.slice (some ⟨ga, oa, none⟩) lx ca) (⟨x0, x1⟩ :: xt)) ∧ Aside0 (Kd.Q k61 61 wc w.heap.size (fun k_ => True ∧ some k_ ≠ (Value.slice (some ⟨ga, oa, none⟩) lx ca).ownBlock) (.slice (some ⟨gb, ob, none⟩) ly cb) (⟨y0, y1⟩ :: yt)) ∧ Aside0 (Kd.R k56 56 wc w.heap.size (fun _ => True) v12 acc2) ∧ Aside0 (Below w.heap.size w wc))
          case first =>
            by_cases c : x0 < y0
            · have q : decide (x0 < y0) = true := decide_eq_true c
              go_upto_region 12 with fail
              obtain ⟨HXa, HYa, HOa, HBa⟩ := And.intro HXp (And.intro HYp (And.intro HOp HBp))
              have hx := q_put HXa.out
              have hy := q_put HYa.out
              obtain ⟨hx0, hx1, -, -⟩ := hx
              obtain ⟨hy0, hy1, -, -⟩ := hy
              simp only at hx0 hx1 hy0 hy1
              refine start_ (n := 14) (S := fun w' => w'.cell? ⟨gb, ob, none⟩ = some (.int .i64 y0) ∧ w'.cell? ⟨gb, ob + 1, none⟩ = some (.int .i64 y1) ∧ w'.cell? ⟨ga, oa, none⟩ = some (.int .i64 x0) ∧ w'.cell? ⟨ga, oa + 1, none⟩ = some (.int .i64 x1)) (ds := [11, 12]) #[false, false, false, false, false, false, false, false, false, false, false, false, false, false] (by kernel_rfl) rfl rfl ⟨hy0, hy1, hx0, hx1⟩ (fun hHeld => ?_)
              refine with_tabW wash_Moves.tab12 wash_Moves.bits12 (fun HT_ HW_ => ?_)
              have GX := Aside0.mk (Kd.Q_drew HXa.out)
              have GY := Aside0.mk (Kd.Q_drew HYa.out)
              have GO := Aside0.mk (Kd.R_drew HOa.out)
              have GB := Aside0.mk HBa.out.drew
              generalize wa.drew = wB at GX GY GO GB hHeld ⊢
              refine pure_ (i := 0) (N := some 53) (v := ?_) (a' := ?_) #[true, false, false, false, false, false, false, false, false, false, false, false, false, false] rfl rfl (any_of HT_.out (by kernel_rfl)) (fun _ _ _ h => h) (Or.inl ⟨by rfl, ?_⟩) ?_ ?_
              rotate_left
              · intro w'
                go_simp
                with_reducible rfl
              rotate_left
              · simp only [Act.put, List.setIfInBounds_toArray, List.set_cons_zero, List.set_cons_succ, i64_w, i32_w]
                rfl
              refine pure_ (i := 1) (N := some 54) (v := ?_) (a' := ?_) #[true, true, false, false, false, false, false, false, false, false, false, false, false, false] rfl rfl (any_of HT_.out (by kernel_rfl)) (fun _ _ _ h => h) (Or.inl ⟨by rfl, ?_⟩) ?_ ?_
              rotate_left
              · intro w'
                go_simp
                with_reducible rfl
              rotate_left
              · simp only [Act.put, List.setIfInBounds_toArray, List.set_cons_zero, List.set_cons_succ, i64_w, i32_w]
                rfl
              refine pure_ (i := 2) (N := some 55) (v := ?_) (a' := ?_) #[true, true, true, false, false, false, false, false, false, false, false, false, false, false] rfl rfl (any_of HT_.out (by kernel_rfl)) (fun _ _ _ h => h) (Or.inl ⟨by rfl, ?_⟩) ?_ ?_
              rotate_left
              · intro w'
                go_simp
                with_reducible rfl
              rotate_left
              · simp only [Act.put, List.setIfInBounds_toArray, List.set_cons_zero, List.set_cons_succ, i64_w, i32_w]
                rfl
              refine pure_ (i := 3) (N := some 56) (v := ?_) (a' := ?_) #[true, true, true, true, false, false, false, false, false, false, false, false, false, false] rfl rfl (any_of HT_.out (by kernel_rfl)) (fun _ _ _ h => h) (Or.inl ⟨by rfl, ?_⟩) ?_ ?_
              rotate_left
              · intro w'
                go_simp
                with_reducible rfl
              rotate_left
              · simp only [Act.put, List.setIfInBounds_toArray, List.set_cons_zero, List.set_cons_succ, i64_w, i32_w]
                rfl
              refine pure_ (i := 5) (N := some 58) (v := ?_) (a' := ?_) #[true, true, true, true, false, true, false, false, false, false, false, false, false, false] rfl rfl (any_of HT_.out (by kernel_rfl)) (fun _ _ _ h => h) (Or.inl ⟨by rfl, ?_⟩) ?_ ?_
              rotate_left
              · intro w'
                go_simp
                with_reducible rfl
              rotate_left
              · simp only [Act.put, List.setIfInBounds_toArray, List.set_cons_zero, List.set_cons_succ, i64_w, i32_w]
                rfl
              refine pure_ (i := 6) (N := some 59) (v := ?_) (a' := ?_) #[true, true, true, true, false, true, true, false, false, false, false, false, false, false] rfl rfl (any_of HT_.out (by kernel_rfl)) (fun _ _ _ h => h) (Or.inl ⟨by rfl, ?_⟩) ?_ ?_
              rotate_left
              · intro w'
                go_simp
                with_reducible rfl
              rotate_left
              · simp only [Act.put, List.setIfInBounds_toArray, List.set_cons_zero, List.set_cons_succ, i64_w, i32_w]
                rfl
              refine pure_ (i := 7) (N := some 60) (v := ?_) (a' := ?_) #[true, true, true, true, false, true, true, true, false, false, false, false, false, false] rfl rfl (any_of HT_.out (by kernel_rfl)) (fun _ _ _ h => h) (Or.inl ⟨by rfl, ?_⟩) ?_ ?_
              rotate_left
              · intro w'
                go_simp
                with_reducible rfl
              rotate_left
              · simp only [Act.put, List.setIfInBounds_toArray, List.set_cons_zero, List.set_cons_succ, i64_w, i32_w]
                rfl
              refine pure_ (i := 9) (N := some 62) (v := ?_) (a' := ?_) #[true, true, true, true, false, true, true, true, false, true, false, false, false, false] rfl rfl (any_of HT_.out (by kernel_rfl)) (fun _ _ _ h => h) (Or.inl ⟨by rfl, ?_⟩) ?_ ?_
              rotate_left
              · intro w'
                go_simp
                with_reducible rfl
              rotate_left
              · simp only [Act.put, List.setIfInBounds_toArray, List.set_cons_zero, List.set_cons_succ, i64_w, i32_w]
                rfl
              refine take_ (i := 4) (N := some 57) (v := ?_) (a' := ?_) #[true, true, true, true, true, true, true, true, false, true, false, false, false, false] rfl rfl (take_ofW HT_.out HW_.out (by kernel_rfl)) (fun _ _ _ h => h) (Or.inl ⟨by rfl, ?_⟩) hHeld ?_ ?_
              rotate_left
              · rintro w' ⟨s0, s1, s2, s3⟩
                go_simp
                with_reducible rfl
              rotate_left
              · simp only [Act.put, List.setIfInBounds_toArray, List.set_cons_zero, List.set_cons_succ, i64_w, i32_w]
                rfl
              refine take_ (i := 8) (N := some 61) (v := ?_) (a' := ?_) #[true, true, true, true, true, true, true, true, true, true, false, false, false, false] rfl rfl (take_ofW HT_.out HW_.out (by kernel_rfl)) (fun _ _ _ h => h) (Or.inl ⟨by rfl, ?_⟩) hHeld ?_ ?_
              rotate_left
              · rintro w' ⟨s0, s1, s2, s3⟩
                go_simp
                with_reducible rfl
              rotate_left
              · simp only [Act.put, List.setIfInBounds_toArray, List.set_cons_zero, List.set_cons_succ, i64_w, i32_w]
                rfl
              refine pure_ (i := 10) (N := some 63) (v := ?_) (a' := ?_) #[true, true, true, true, true, true, true, true, true, true, true, false, false, false] rfl rfl (any_of HT_.out (by kernel_rfl)) (fun _ _ _ h => h) (Or.inl ⟨by rfl, ?_⟩) ?_ ?_
              rotate_left
              · intro w'
                go_simp
                with_reducible rfl
              rotate_left
              · simp only [Act.put, List.setIfInBounds_toArray, List.set_cons_zero, List.set_cons_succ, i64_w, i32_w]
                rfl
              refine last_ (i := 11) (N := some 64) #[true, true, true, true, true, true, true, true, true, true, true, true, false, false] rfl rfl (one_of HT_.out (by kernel_rfl)) (by decide) (fun K hK => ?_)
              refine value_ (w1 := ?_) (v := ?_) (by rfl) rfl ?_ ?_
              rotate_left 2
              · go_simp
                constructor
                · rfl
                · rfl
              refine hK.out _ _ ?_
              clear hK K
              refine norm_ (a' := ?_) ?_ ?_
              rotate_left
              · show Act.put _ (some 64) _ = _
                simp only [Act.put, List.setIfInBounds_toArray, List.set_cons_zero, List.set_cons_succ, i64_w, i32_w]
                rfl
              refine last_ (i := 12) (N := some 65) #[true, true, true, true, true, true, true, true, true, true, true, true, true, false] rfl rfl (one_of HT_.out (by kernel_rfl)) (by decide) (fun K hK => ?_)
              refine Kd.R_append_step k56 (w0 := w) w.heap.size (by rfl) (.tmp 53) (.tmp 64) 23 56 (.agg #[(.int .i64 0), (.int .i64 0), (.int .i64 0)]) 24 rfl Try.underlying23 infoM rfl (by decide) (by omega) u12 acc (⟨y0, x0, mm⟩ : S56) [.int .i64 y0, .int .i64 x0, .int .i64 mm] (fun _ => True) (fun _ => False) rfl rfl ?aP (fun _ hk => hk.elim) ?aF ?aO ?aB ?aS ?aL ?_
              (case aP => exact k56_mkM _ _ _ (⟨y0, x0, mm⟩ : S56))
              (case aB => exact GB.out)
              (case aF => exact (fun _ _ => trivial))
              (case aO => exact GO.out)
              (case aS => exact below_size GB.out)
              (case aL => have := HAL.out; omega)
              intro v65 w25 ho hb hg hat
              have HX9 := Aside0.mk (Kd.Q_over' GX.out (Kd.R_typed GO.out) (by decide) hg)
              have HY9 := Aside0.mk (Kd.Q_over' GY.out (Kd.R_typed GO.out) (by decide) hg)
              have HO9 := Aside0.mk ho
              have HB9 := Aside0.mk hb
              clear ho hb hg hat
              refine hK.out _ _ ?_
              clear hK K
              refine norm_ (a' := ?_) ?_ ?_
              rotate_left
              · show Act.put _ (some 65) _ = _
                simp only [Act.put, List.setIfInBounds_toArray, List.set_cons_zero, List.set_cons_succ, i64_w, i32_w]
                rfl
              refine pure_ (i := 13) (N := some 12) (v := ?_) (a' := ?_) #[true, true, true, true, true, true, true, true, true, true, true, true, true, true] rfl rfl (any_of HT_.out (by kernel_rfl)) (fun _ _ _ h => h) (Or.inl ⟨by rfl, ?_⟩) ?_ ?_
              rotate_left
              · intro w'
                go_simp
                with_reducible rfl
              rotate_left
              · simp only [Act.put, List.setIfInBounds_toArray, List.set_cons_zero, List.set_cons_succ, i64_w, i32_w]
                rfl
              refine done_ (done_of HT_.out (by kernel_rfl)) ?_
              go_wp2_with fail
              go_meet
              case rel => exact ⟨acc ++ [⟨y0, x0, mm⟩], ⟨by unfold one1; rw [if_pos (by show x0 < y0; omega)]⟩, HX9, HY9, HO9, HB9⟩
            · have q : decide (x0 < y0) = false := decide_eq_false c
              go_wp2_with fail
              go_meet
              case rel => exact ⟨acc, ⟨by unfold one1; rw [if_neg (by show ¬ x0 < y0; omega), List.append_nil]⟩, HXp, HYp, HOp, HBp⟩
          case rest =>
            clear HXp HYp HOp HBp
            obtain ⟨acc2, HA2, HX, HY, HO, HB⟩ := hcut
            go_upto_region 13 with fail
            have hx := q_put HX.out
            obtain ⟨hx0, hx1, hxf, hxp⟩ := hx
            simp only at hx0 hx1 hxp
            obtain ⟨px, pg⟩ := hxp (x1 - mm)
            have PX := Aside0.mk px
            have PG := Aside0.mk pg
            clear px pg hxp
            go_upto_region 14 with fail
            obtain ⟨HXd, HYd, HOd, HBd⟩ : Aside0 (Kd.Q k61 61 (wc.setCell ⟨ga, oa + 1, none⟩ (.int .i64 (x1 - mm))) w.heap.size (fun k_ => True ∧ some k_ ≠ (Value.slice (some ⟨gb, ob, none⟩) ly cb).ownBlock) (.slice (some ⟨ga, oa, none⟩) lx ca) (⟨x0, x1 - mm⟩ :: xt)) ∧ Aside0 (Kd.Q k61 61 (wc.setCell ⟨ga, oa + 1, none⟩ (.int .i64 (x1 - mm))) w.heap.size (fun k_ => True ∧ some k_ ≠ (Value.slice (some ⟨ga, oa, none⟩) lx ca).ownBlock) (.slice (some ⟨gb, ob, none⟩) ly cb) (⟨y0, y1⟩ :: yt)) ∧ Aside0 (Kd.R k56 56 (wc.setCell ⟨ga, oa + 1, none⟩ (.int .i64 (x1 - mm))) w.heap.size (fun _ => True) u12 acc2) ∧ Aside0 (Below w.heap.size w (wc.setCell ⟨ga, oa + 1, none⟩ (.int .i64 (x1 - mm)))) :=
              ⟨PX, ⟨Kd.Q_after (v := .slice (some ⟨ga, oa, none⟩) lx ca) (v1 := .slice (some ⟨ga, oa, none⟩) lx ca) HY.out PG.out (Or.inl rfl)⟩, ⟨Kd.R_over' (v := .slice (some ⟨ga, oa, none⟩) lx ca) HO.out (Kd.Q_typed HX.out) (by decide) PG.out⟩, ⟨pw_below_grown HB.out (some ga) HB.out.size PG.out (fun k hk => Kd.Q_base HX.out k hk)⟩⟩
            generalize wc.setCell ⟨ga, oa + 1, none⟩ (.int .i64 (x1 - mm)) = wd at HXd HYd HOd HBd ⊢
            clear PX PG hx0 hx1 hxf HX HY HO HB
            have hx := q_put HXd.out
            obtain ⟨hx0, hx1, -, -⟩ := hx
            simp only at hx0 hx1
            go_upto_if 78 with fail
            go_cut [10] (fun v10 wc => ∃ X2 : List S61, Aside0 (X2 = cut1 ⟨x0, x1⟩ mm xt) ∧ Aside0 (Kd.Q k61 61 wc w.heap.size (fun k_ => True ∧ some k_ ≠ (Value.slice (some ⟨gb, ob, none⟩) ly cb).ownBlock) v10 X2) ∧ Aside0 (Kd.Q k61 61 wc w.heap.size (fun k_ => True ∧ some k_ ≠ (v10 : Value).ownBlock) (.slice (some ⟨gb, ob, none⟩) ly cb) (⟨y0, y1⟩ :: yt)) ∧ Aside0 (Kd.R k56 56 wc w.heap.size (fun _ => True) u12 acc2) ∧ Aside0 (Below w.heap.size w wc))
            case first =>
              by_cases c : x1 - mm = 0
              · have q : (x1 - mm == 0) = true := beq_iff_eq.mpr c
                obtain ⟨A', c', hrun, hQ, hown⟩ := q_tail HXd.out hlx0
                have HQ := Aside0.mk hQ
                have HOWN := Aside0.mk hown
                have HC1 : Aside0 (xt = cut1 ⟨x0, x1⟩ mm xt) := ⟨by unfold cut1; rw [if_pos c]⟩
                clear hQ hown c
                go_wp2_with fail
                go_meet
                case rel => exact ⟨xt, HC1, HQ, ⟨Kd.Q_mono HYd.out (fun k hk => ⟨trivial, by rw [HOWN.out]; exact hk.2⟩)⟩, HOd, HBd⟩
              · have q : (x1 - mm == 0) = false := beq_eq_false_iff_ne.mpr c
                have HC1 : Aside0 (⟨x0, x1 - mm⟩ :: xt = cut1 ⟨x0, x1⟩ mm xt) := ⟨by unfold cut1; rw [if_neg c]⟩
                clear c
                go_wp2_with fail
                go_meet
                case rel => exact ⟨_, HC1, HXd, HYd, HOd, HBd⟩
            case rest =>
              clear HXd HYd HOd HBd hx0 hx1
              obtain ⟨X2, HX2, HX, HY, HO, HB⟩ := hcut
              have HPn : Aside0 (Pair X2 (cut1 ⟨y0, y1⟩ mm yt)) := ⟨by rw [HX2.out]; exact HST.out⟩
              have HNn : Aside0 (X2.length + (cut1 ⟨y0, y1⟩ mm yt).length ≤ n - 1) := ⟨by have h1 := HLN.out; have h2 := HN.out; rw [HX2.out]; omega⟩
              have HGn : Aside0 (acc2 ++ greedy (n - 1) X2 (cut1 ⟨y0, y1⟩ mm yt) = r1) := ⟨by rw [HX2.out, HA2.out, List.append_assoc]; exact HGG.out⟩
              have hn1 : 1 ≤ n := by have h2 := HN.out; simp at h2; omega
              clear HST HLN HN HGG HX2 HA2
              go_upto_region 16 with fail
              have hy := q_put HY.out
              obtain ⟨hy0, hy1, hyf, hyp⟩ := hy
              simp only at hy0 hy1 hyp
              obtain ⟨py, pg⟩ := hyp (y1 - mm)
              have PY := Aside0.mk py
              have PG := Aside0.mk pg
              clear py pg hyp
              go_upto_region 17 with fail
              obtain ⟨HXd, HYd, HOd, HBd⟩ : Aside0 (Kd.Q k61 61 (wc.setCell ⟨gb, ob + 1, none⟩ (.int .i64 (y1 - mm))) w.heap.size (fun k_ => True ∧ some k_ ≠ (Value.slice (some ⟨gb, ob, none⟩) ly cb).ownBlock) u10 X2) ∧ Aside0 (Kd.Q k61 61 (wc.setCell ⟨gb, ob + 1, none⟩ (.int .i64 (y1 - mm))) w.heap.size (fun k_ => True ∧ some k_ ≠ (u10 : Value).ownBlock) (.slice (some ⟨gb, ob, none⟩) ly cb) (⟨y0, y1 - mm⟩ :: yt)) ∧ Aside0 (Kd.R k56 56 (wc.setCell ⟨gb, ob + 1, none⟩ (.int .i64 (y1 - mm))) w.heap.size (fun _ => True) u12 acc2) ∧ Aside0 (Below w.heap.size w (wc.setCell ⟨gb, ob + 1, none⟩ (.int .i64 (y1 - mm)))) :=
                ⟨⟨Kd.Q_after (v := .slice (some ⟨gb, ob, none⟩) ly cb) (v1 := .slice (some ⟨gb, ob, none⟩) ly cb) HX.out PG.out (Or.inl rfl)⟩, PY, ⟨Kd.R_over' (v := .slice (some ⟨gb, ob, none⟩) ly cb) HO.out (Kd.Q_typed HY.out) (by decide) PG.out⟩, ⟨pw_below_grown HB.out (some gb) HB.out.size PG.out (fun k hk => Kd.Q_base HY.out k hk)⟩⟩
              generalize wc.setCell ⟨gb, ob + 1, none⟩ (.int .i64 (y1 - mm)) = we at HXd HYd HOd HBd ⊢
              clear PY PG hy0 hy1 hyf HX HY HO HB
              have hy := q_put HYd.out
              obtain ⟨hy0, hy1, -, -⟩ := hy
              simp only at hy0 hy1
              by_cases c : y1 - mm = 0
              · have q : (y1 - mm == 0) = true := beq_iff_eq.mpr c
                obtain ⟨A', c', hrun, hQ, hown⟩ := q_tail HYd.out hly0
                have HQ := Aside0.mk hQ
                have HOWN := Aside0.mk hown
                have hc1 : cut1 ⟨y0, y1⟩ mm yt = yt := by unfold cut1; rw [if_pos c]
                rw [hc1] at HPn HNn HGn
                clear hQ hown c hc1
                go_wp2_with fail
                go_roundg (n - 1)
                case measure => omega
                case rel => exact ⟨X2, yt, acc2, n - 1, Nat.le_refl _, HNn, ⟨Kd.Q_mono HXd.out (fun k hk => ⟨trivial, by rw [HOWN.out]; exact hk.2⟩)⟩, HQ, HOd, HPn, HGn, HBd⟩
              · have q : (y1 - mm == 0) = false := beq_eq_false_iff_ne.mpr c
                have hc1 : cut1 ⟨y0, y1⟩ mm yt = ⟨y0, y1 - mm⟩ :: yt := by unfold cut1; rw [if_neg c]
                rw [hc1] at HPn HNn HGn
                clear c hc1
                go_wp2_with fail
                go_roundg (n - 1)
                case measure => omega
                case rel => exact ⟨X2, _, acc2, n - 1, Nat.le_refl _, HNn, HXd, HYd, HOd, HPn, HGn, HBd⟩
  · have hq : r1 = [] ∧ r2 = false ∧ r3 = ev := by
      by_cases c0 : vErr l0 = 0
      · rw [if_pos c0] at hev hR
        by_cases c1 : vErr l1 = 0
        · rw [if_pos c1] at hev hR
          by_cases c2 : tot l0 = tot l1
          · rw [if_pos c2] at hev; omega
          · rw [if_neg c2] at hev hR; obtain ⟨q1, q2⟩ := Prod.mk.inj hR; obtain ⟨q2, q3⟩ := Prod.mk.inj q2; exact ⟨q1.symm, q2.symm, by omega⟩
        · rw [if_neg c1] at hev hR; obtain ⟨q1, q2⟩ := Prod.mk.inj hR; obtain ⟨q2, q3⟩ := Prod.mk.inj q2; exact ⟨q1.symm, q2.symm, by omega⟩
      · rw [if_neg c0] at hev hR; obtain ⟨q1, q2⟩ := Prod.mk.inj hR; obtain ⟨q2, q3⟩ := Prod.mk.inj q2; exact ⟨q1.symm, q2.symm, by omega⟩
    obtain ⟨rfl, rfl, rfl⟩ := hq
    have hb0 : (r3 != 0) = true := bne_iff_ne.mpr he
    clear hev hR
    go_enter Try.func18, Try.ntmps18
    go_wp2_with (first | (go_at_call 29; (with_reducible refine HPr.out.mono ?_); rintro e w1 ⟨rfl, hb⟩; have HB1 := Aside0.mk hb; clear hb))
    go_ret3
    exact ⟨_, rfl, Kd.R_nil k56 56 _ _ _, HB1.out⟩
end Go.Proofs.Ytcelibdkicfgkaa.P

/-! Part PF6D. -/
namespace Go.Proofs.Ytcelibdkicfgkaa.P
open Go.RowKit Go.Proofs.YtcelibdkicfgkaaW.PrintWords Go.Proofs.YtcelibdkicfgkaaW.PrintLast Go.Proofs.YtcelibdkicfgkaaW.PrintMore
attribute [local go_sem] max2_int min2_int max_two min_two max_three min_three max_four min_four   -- for this text's walks alone
set_option linter.unusedVariables false
set_option linter.unusedSimpArgs false

attribute [local go_sem high] eqA34
/-! ### verditertop_topWash: function 6 -/
mutual
def verditertop_topWash.j0 : Nat → Int → Bool → List (S61) → List (S61) → List (S56) → Int → Int → Option (Bool)
  | 0, _, _, _, _, _, _, _ => none
  | k + 1, x2, x41, x161000, x161001, x161002, x162000, x162001 => if x41 = true then (some false) else ((verditerlaw01_Long.f x161000).bind fun t166 => (if t166 = true then (verditertop_topWash.j1 k x2 true x161000 x161001 x161002 x162000 x162001) else ((verditerlaw01_Long.f x161001).bind fun t167 => (if t167 = true then (verditertop_topWash.j1 k x2 true x161000 x161001 x161002 x162000 x162001) else (verditertop_topWash.j1 k x2 (decide ((x161002.length : Int) > 60)) x161000 x161001 x161002 x162000 x162001)))))
def verditertop_topWash.j1 : Nat → Int → Bool → List (S61) → List (S61) → List (S56) → Int → Int → Option (Bool)
  | 0, _, _, _, _, _, _, _ => none
  | k + 1, x2, x55, x161000, x161001, x161002, x162000, x162001 => if x55 = true then (some true) else ((wash_Mass.f k x161000).bind fun bt168 => (if bt168.2 = 0 then ((wash_Settle.f x161000 x162000 x162001).bind fun bt171 => ((wash_Wash.f x161000 x162000 x162001 x2).bind fun bt178 => (if bt171.2.2 = 0 then (if (bt171.1.length : Int) = (x161000.length : Int) then (verditertop_topWash.j2 k bt168.1 bt171.2.2 bt171.1 bt171.2.1 bt178.1 bt178.2 ((bt171.2.1.length : Int) != (x161000.length : Int)) x161000 x161001 x161002) else (verditertop_topWash.j2 k bt168.1 bt171.2.2 bt171.1 bt171.2.1 bt178.1 bt178.2 true x161000 x161001 x161002)) else (verditertop_topWash.j5 k bt171.2.2 bt171.2.1 bt178.1 bt178.2 x161000 x161001 x161002)))) else ((wash_Validate.f k x161000).bind fun t170 => (some (t170 == bt168.2)))))
def verditertop_topWash.j5 : Nat → Int → List (S34) → List (S34) → Int → List (S61) → List (S61) → List (S56) → Option (Bool)
  | 0, _, _, _, _, _, _, _ => none
  | k + 1, x10, x12, x13, x14, x161000, x161001, x161002 => if x14 = 0 then (if x10 = 0 then (verditertop_topWash.j6 k x12 x13 ((x13.length : Int) != (x161000.length : Int)) x161000 x161001 x161002) else (verditertop_topWash.j6 k x12 x13 true x161000 x161001 x161002)) else (verditertop_topWash.j8 k x161000 x161001 x161002)
def verditertop_topWash.j8 : Nat → List (S61) → List (S61) → List (S56) → Option (Bool)
  | 0, _, _, _ => none
  | k + 1, x161000, x161001, x161002 => (wash_IsFiner.f k x161000 x161001).bind fun bt202 => ((wash_Moves.f x161000 x161001).bind fun bt204 => ((wash_Work.f k x161000 x161001).bind fun bt209 => (if bt202.2 = bt204.2.2 then (if bt204.2.2 = bt209.2.2 then (if (bt204.2.1 != bt202.1) = true then (verditertop_topWash.j9 k bt202.1 bt204.1 bt209.1 true x161000 x161001 x161002) else (verditertop_topWash.j9 k bt202.1 bt204.1 bt209.1 (bt209.2.1 != bt202.1) x161000 x161001 x161002)) else (verditertop_topWash.j9 k bt202.1 bt204.1 bt209.1 true x161000 x161001 x161002)) else (verditertop_topWash.j9 k bt202.1 bt204.1 bt209.1 true x161000 x161001 x161002))))
def verditertop_topWash.j9 : Nat → Bool → List (S56) → Int → Bool → List (S61) → List (S61) → List (S56) → Option (Bool)
  | 0, _, _, _, _, _, _, _ => none
  | k + 1, x18, x19, x21, x278, x161000, x161001, x161002 => if x278 = true then (some false) else (if x18 = true then (verditertop_topWash.l2 k x19 x21 0 0 x161000 x161001 x161002) else (verditertop_topWash.j11 k x161000 x161001 x161002))
def verditertop_topWash.j11 : Nat → List (S61) → List (S61) → List (S56) → Option (Bool)
  | 0, _, _, _ => none
  | k + 1, x161000, x161001, x161002 => (wash_Grind.f x161001 x161002).bind fun bt216 => (if bt216.2 = 0 then ((wash_IsFiner.f k bt216.1 x161001).bind fun bt220 => ((wash_Mass.f k bt216.1).bind fun bt222 => ((wash_Mass.f k x161001).bind fun bt224 => (if bt220.2 = 0 then (if bt220.1 = true then (if bt222.2 = 0 then (if bt224.2 = 0 then (if bt222.1 = bt224.1 then ((wash_CheckFiner.f k bt216.1 x161001 x161002).bind fun t226 => (some (t226 == 0))) else (some false)) else (some false)) else (some false)) else (some false)) else (some false))))) else (some true))
def verditertop_topWash.l2 : Nat → List (S56) → Int → Int → Int → List (S61) → List (S61) → List (S56) → Option (Bool)
  | 0, _, _, _, _, _, _, _ => none
  | k + 1, x19, x21, x24, x25, x161000, x161001, x161002 => if x25 < (x19.length : Int) then (if 0 ≤ x25 then (verditertop_topWash.l2 k x19 x21 (wrap64 (x24 + (wrap64 (((rd_T56 x19 x25).f2) * (wrap64 (((rd_T56 x19 x25).f0) - ((rd_T56 x19 x25).f1))))))) (wrap64 (x25 + 1)) x161000 x161001 x161002) else (none)) else ((wash_CheckFiner.f k x161000 x161001 x19).bind fun t215 => (if t215 = 0 then (if x24 = x21 then (verditertop_topWash.j11 k x161000 x161001 x161002) else (some false)) else (some false)))
def verditertop_topWash.j6 : Nat → List (S34) → List (S34) → Bool → List (S61) → List (S61) → List (S56) → Option (Bool)
  | 0, _, _, _, _, _, _ => none
  | k + 1, x12, x13, x181, x161000, x161001, x161002 => if x181 = true then (some false) else (verditertop_topWash.l1 k x12 x13 0 x161000 x161001 x161002)
def verditertop_topWash.l1 : Nat → List (S34) → List (S34) → Int → List (S61) → List (S61) → List (S56) → Option (Bool)
  | 0, _, _, _, _, _, _ => none
  | k + 1, x12, x13, x17, x161000, x161001, x161002 => if x17 < (x13.length : Int) then (if 0 ≤ x17 then (if ((rd_T34 x13 x17).f1) < 1 then (some false) else (if ((rd_T34 x13 x17).f1) > 200000 then (some false) else (if ((rd_T34 x13 x17).f0) < 0 then (some false) else (if x17 < (x12.length : Int) then (if (wrap64 (((rd_T34 x13 x17).f0) * ((rd_T34 x12 x17).f1))) > (wrap64 (((rd_T34 x12 x17).f0) * ((rd_T34 x13 x17).f1))) then (some false) else (verditertop_topWash.l1 k x12 x13 (wrap64 (x17 + 1)) x161000 x161001 x161002)) else (none))))) else (none)) else (verditertop_topWash.j8 k x161000 x161001 x161002)
def verditertop_topWash.j2 : Nat → Int → Int → List (S34) → List (S34) → List (S34) → Int → Bool → List (S61) → List (S61) → List (S56) → Option (Bool)
  | 0, _, _, _, _, _, _, _, _, _, _ => none
  | k + 1, x9, x10, x11, x12, x13, x14, x106, x161000, x161001, x161002 => if x106 = true then (some false) else (verditertop_topWash.l0 k x9 x10 x11 x12 x13 x14 0 x161000 x161001 x161002 0 1)
def verditertop_topWash.l0 : Nat → Int → Int → List (S34) → List (S34) → List (S34) → Int → Int → List (S61) → List (S61) → List (S56) → Int → Int → Option (Bool)
  | 0, _, _, _, _, _, _, _, _, _, _, _, _ => none
  | k + 1, x9, x10, x11, x12, x13, x14, x16, x161000, x161001, x161002, x183000, x183001 => if x16 < (x161000.length : Int) then (if 0 ≤ x16 then (if x16 < (x11.length : Int) then (if ((rd_T34 x11 x16).f1) < 1 then (verditertop_topWash.j4 k x9 x10 x11 x12 x13 x14 x16 true x161000 x161001 x161002 x183000 x183001) else (if x16 < (x12.length : Int) then (if ((rd_T34 x12 x16).f1) < 1 then (verditertop_topWash.j4 k x9 x10 x11 x12 x13 x14 x16 true x161000 x161001 x161002 x183000 x183001) else (if x183001 < 1 then (verditertop_topWash.j4 k x9 x10 x11 x12 x13 x14 x16 true x161000 x161001 x161002 x183000 x183001) else (if x183001 > 100000 then (verditertop_topWash.j4 k x9 x10 x11 x12 x13 x14 x16 true x161000 x161001 x161002 x183000 x183001) else (if ((rd_T34 x11 x16).f1) > 100 then (verditertop_topWash.j4 k x9 x10 x11 x12 x13 x14 x16 true x161000 x161001 x161002 x183000 x183001) else (verditertop_topWash.j4 k x9 x10 x11 x12 x13 x14 x16 (decide (((rd_T34 x12 x16).f1) > 100)) x161000 x161001 x161002 x183000 x183001))))) else (none))) else (none)) else (none)) else ((verditerref01_Ratio.f k x9 1).bind fun bt183 => (if (!(x183000 == bt183.1) || (!(x183001 == bt183.2))) = true then (some false) else (verditertop_topWash.j5 k x10 x12 x13 x14 x161000 x161001 x161002)))
def verditertop_topWash.j4 : Nat → Int → Int → List (S34) → List (S34) → List (S34) → Int → Int → Bool → List (S61) → List (S61) → List (S56) → Int → Int → Option (Bool)
  | 0, _, _, _, _, _, _, _, _, _, _, _, _, _ => none
  | k + 1, x9, x10, x11, x12, x13, x14, x16, x154, x161000, x161001, x161002, x183000, x183001 => if x154 = true then (some false) else (if 0 ≤ x16 then (if x16 < (x11.length : Int) then (if x16 < (x12.length : Int) then ((verditerref01_Add.f k ((rd_T34 x11 x16).f0) ((rd_T34 x11 x16).f1) ((rd_T34 x12 x16).f0) ((rd_T34 x12 x16).f1)).bind fun bt191 => ((verditerref01_Add.f k x183000 x183001 bt191.1 bt191.2).bind fun bt193 => (verditertop_topWash.l0 k x9 x10 x11 x12 x13 x14 (wrap64 (x16 + 1)) x161000 x161001 x161002 bt193.1 bt193.2))) else (none)) else (none)) else (none))
end
def verditertop_topWash.f (k : Nat) (l0_0 : List (S61)) (l0_1 : List (S61)) (l0_2 : List (S56)) (a1_0 : Int) (a1_1 : Int) (a2 : Int) : Option (Bool) := (wash_Part.f k 3 2 10).bind fun bt162 => (if bt162.2.2 = 0 then (verditertop_topWash.j0 k a2 (!(bt162.1 == 3) || (!(bt162.2.1 == 5))) l0_0 l0_1 l0_2 a1_0 a1_1) else (verditertop_topWash.j0 k a2 true l0_0 l0_1 l0_2 a1_0 a1_1))
end Go.Proofs.Ytcelibdkicfgkaa.P
