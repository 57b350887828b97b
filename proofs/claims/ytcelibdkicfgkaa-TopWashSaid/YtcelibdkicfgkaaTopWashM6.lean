/- Parts of the proof of the law TopWash: walks of functions that it reaches, and plain facts about numbers, lists and curves; without a condition. -/
import Derived.Test.YtcelibdkicfgkaaTopWashM4
import Derived.Test.YtcelibdkicfgkaaTopWashM3
import Derived.Test.YtcelibdkicfgkaaTopWashM5
/-! Part PureA. -/
/- The plain law of TopWash, first part: grinding, moves, comparing. -/
namespace Go.Proofs.Ytcelibdkicfgkaa.P
open Go.RowKit Go.Proofs.YtcelibdkicfgkaaW.PrintWords Go.Proofs.YtcelibdkicfgkaaW.PrintLast Go.Proofs.YtcelibdkicfgkaaW.PrintMore
set_option linter.unusedVariables false

theorem equal_loop (l : List S61) (hl : l.length ≤ 30) : ∀ (n i k : Nat), i + n = l.length → n < k → api_Grain_32.l0 k l l (l.length : Int) (i : Int) = some true := by
  intro n
  induction n with
  | zero =>
    intro i k hi hk
    obtain ⟨k, rfl⟩ : ∃ m, k = m + 1 := ⟨k - 1, by omega⟩
    simp only [api_Grain_32.l0]
    rw [if_neg (by omega)]
  | succ n ih =>
    intro i k hi hk
    obtain ⟨k, rfl⟩ : ∃ m, k = m + 1 := ⟨k - 1, by omega⟩
    simp only [api_Grain_32.l0]
    rw [if_pos (by omega), if_pos (by omega), if_pos (by omega), if_pos (by omega), if_neg (by simp), wr_succ (n := 30) (i := i) (by omega) (by omega)]
    exact ih (i + 1) k (by omega) (by omega)
theorem equal_eq (l : List S61) (hl : l.length ≤ 30) (k : Nat) (hk : 40 ≤ k) : api_Grain_32.f k l l = some true := by
  unfold api_Grain_32.f
  rw [if_pos rfl]
  exact equal_loop l hl l.length 0 k (by omega) (by omega)
/-- The error of a pair of lots. -/
def pErr (l m : List S61) : Int := if vErr l = 0 then (if vErr m = 0 then (if tot l = tot m then 0 else 5) else vErr m) else vErr l
theorem pErr_zero {l m : List S61} (h : pErr l m = 0) : vErr l = 0 ∧ vErr m = 0 ∧ tot l = tot m := by
  unfold pErr at h
  by_cases c0 : vErr l = 0
  · rw [if_pos c0] at h
    by_cases c1 : vErr m = 0
    · rw [if_pos c1] at h
      by_cases c2 : tot l = tot m
      · exact ⟨c0, c1, c2⟩
      · rw [if_neg c2] at h; omega
    · rw [if_neg c1] at h; omega
  · rw [if_neg c0] at h; omega
theorem pErr_of {l m : List S61} (h0 : vErr l = 0) (h1 : vErr m = 0) (h2 : tot l = tot m) : pErr l m = 0 := by
  unfold pErr; rw [if_pos h0, if_pos h1, if_pos h2]
theorem pair_eq' (l m : List S61) (k : Nat) (hk : 10 ≤ k) : wash_pair.f k l m = some (pErr l m) := pair_eq l m k hk
def wkD (l m : List S61) : Int × Bool := wk 21 0 0 0 fun s => pt l s - pt m s
theorem work_eq {l m : List S61} (h : pErr l m = 0) : wash_work.f l m = some (wkD l m) := by
  obtain ⟨h0, h1, _⟩ := pErr_zero h
  unfold wash_work.f; rw [if_pos ⟨h0, h1⟩]; rfl
theorem finer_eq (l m : List S61) (k : Nat) (hk : 10 ≤ k) : wash_IsFiner.f k l m = some (if pErr l m = 0 then ((wkD l m).2, 0) else (false, pErr l m)) := by
  unfold wash_IsFiner.f
  rw [pair_eq' l m k hk, Option.bind_some]
  by_cases h : pErr l m = 0
  · rw [if_pos h, if_pos h, work_eq h]; rfl
  · rw [if_neg h, if_neg h]
theorem workf_eq (l m : List S61) (k : Nat) (hk : 10 ≤ k) : wash_Work.f k l m = some (if pErr l m = 0 then ((wkD l m).1, (wkD l m).2, 0) else (0, false, pErr l m)) := by
  unfold wash_Work.f
  rw [pair_eq' l m k hk, Option.bind_some]
  by_cases h : pErr l m = 0
  · rw [if_pos h, if_pos h, work_eq h]; rfl
  · rw [if_neg h, if_neg h]
theorem moves_eq (l m : List S61) : wash_Moves.f l m = some (if pErr l m = 0 then (if (wkD l m).2 = true then (greedy 12 l m, true, 0) else ([], false, 0)) else ([], false, pErr l m)) := by
  unfold wash_Moves.f pErr wkD
  by_cases c0 : vErr l = 0
  · rw [if_pos c0, if_pos c0]
    by_cases c1 : vErr m = 0
    · rw [if_pos c1, if_pos c1]
      by_cases c2 : tot l = tot m
      · rw [if_pos c2, if_pos c2, if_pos rfl]
      · rw [if_neg c2, if_neg c2, if_neg (by omega)]
    · rw [if_neg c1, if_neg c1, if_neg c1]
  · rw [if_neg c0, if_neg c0, if_neg c0]
theorem massf_eq (l : List S61) (k : Nat) (hk : 10 ≤ k) : wash_Mass.f k l = some (if vErr l = 0 then (tot l, 0) else (0, vErr l)) := by
  unfold wash_Mass.f
  rw [validate_eq l k hk, Option.bind_some]
  by_cases h : vErr l = 0
  · rw [if_pos h, if_pos h, mass_eq l (vErr_zero h).1 (vErr_mass h) k hk]; rfl
  · rw [if_neg h, if_neg h]
/-- Sums that hold are told. -/
theorem wk_true (d : Int → Int) : ∀ (n p : Nat) (sum : Int), (∀ t, p ≤ t → t < p + n → 0 ≤ su d (t + 1)) → wk n p sum (su d p) d = (sum + (su (fun t => su d (t.toNat + 1)) (p + n) - su (fun t => su d (t.toNat + 1)) p), true)
  | 0, p, sum, _ => by simp [wk]
  | n + 1, p, sum, h => by
    have e : su d p + d (p : Int) = su d (p + 1) := rfl
    have h0 := h p (Nat.le_refl _) (by omega)
    rw [wk, e, if_neg (by omega), show ((p : Int) + 1) = ((p + 1 : Nat) : Int) from rfl, wk_true d n (p + 1) _ fun t h1 h2 => h t (by omega) (by omega)]
    have e2 : su (fun t => su d (t.toNat + 1)) (p + 1) = su (fun t => su d (t.toNat + 1)) p + su d (p + 1) := rfl
    rw [e2, show p + 1 + n = p + (n + 1) by omega]
    congr 1
    omega
theorem wkD_true {l m : List S61} (hl : ∀ g ∈ l, 0 ≤ g.f0) (hm : ∀ g ∈ m, 0 ≤ g.f0) (h : ∀ t : Nat, t < 21 → su (pt m) (t + 1) ≤ su (pt l) (t + 1)) : wkD l m = (su (cu l) 21 - su (cu m) 21, true) := by
  unfold wkD
  have h1 := wk_true (fun s => pt l s - pt m s) 21 0 0 (fun t _ h2 => by rw [su_sub]; have := h t (by omega); omega)
  have e : su (fun s => pt l s - pt m s) 0 = 0 := rfl
  rw [e] at h1
  rw [show ((0 : Nat) : Int) = 0 from rfl] at h1
  rw [h1]
  have e3 : su (fun t => su (fun s => pt l s - pt m s) (t.toNat + 1)) (0 + 21) = su (fun t => cu l t - cu m t) 21 := by
    refine su_ext 21 fun t h1 h2 => ?_
    rw [su_sub, su_pt _ _ hl, su_pt _ _ hm, show ((t.toNat + 1 : Nat) : Int) - 1 = t by omega]
  rw [e3, su_sub]
  congr 1
  show 0 + (_ - 0) = _
  omega
/-- What grinding gives. -/
theorem grind_facts {m : List S61} {ms : List S56} {gr : List S61} (h : wash_Grind.f m ms = some (gr, 0)) :
    vErr m = 0 ∧ vErr gr = 0 ∧ tot gr = tot m ∧ (∀ t : Nat, t < 21 → su (pt m) (t + 1) ≤ su (pt gr) (t + 1)) := by
  unfold wash_Grind.f at h
  have h := Option.some.inj h
  by_cases c0 : vErr m = 0
  · rw [if_pos c0] at h
    by_cases c1 : 12 < ms.length
    · rw [if_pos c1] at h; exact absurd (Prod.mk.inj h).2 (by decide)
    rw [if_neg c1] at h
    by_cases c2 : ms.all okMvB = true
    · rw [if_pos c2] at h
      have hok : ∀ x ∈ ms, okMv x := fun x hx => okMvB_iff.1 (List.all_eq_true.1 c2 x hx)
      cases c3 : aps (pt m) ms with
      | none => rw [c3] at h; exact absurd (Prod.mk.inj h).2 (by decide)
      | some f =>
        rw [c3, grindEnd] at h
        by_cases c4 : vErr (col 21 0 f) = 0
        · rw [if_pos c4] at h
          have e := (Prod.mk.inj h).1
          obtain ⟨a1, a2, a3⟩ := vErr_zero c0
          obtain ⟨b1, b2, b3⟩ := aps_su ms (pt m) f hok (fun s => pt_pos a2) c3
          have hs : ∀ n : Nat, n ≤ 21 → su (pt (col 21 0 f)) n = su f n := fun n hn => su_ext n fun t h1 h2 => by
            rw [pt_col b1 21 0 t, if_pos (by omega)]
          have t1 : tot gr = su f 21 := by
            rw [← e, ← hs 21 (Nat.le_refl _), su_pt _ _ (vErr_f0 c4), cu_high (fun g hg => by have := ((vErr_zero c4).2.2 g hg).1; omega)]
          have t2 : tot m = su (pt m) 21 := by
            rw [su_pt _ _ (vErr_f0 c0), cu_high (fun g hg => by have := (a3 g hg).1; omega)]
          refine ⟨c0, by rw [← e]; exact c4, by rw [t1, t2, b3], fun t ht => ?_⟩
          rw [← e, hs (t + 1) (by omega)]
          exact b2 (t + 1)
        · rw [if_neg c4] at h; exact absurd (Prod.mk.inj h).2 c4
    · rw [if_neg c2] at h; exact absurd (Prod.mk.inj h).2 (by decide)
  · rw [if_neg c0] at h; exact absurd (Prod.mk.inj h).2 c0
theorem check_same {gr m : List S61} {ms : List S56} (hp : pErr gr m = 0) (h : wash_Grind.f m ms = some (gr, 0)) (k : Nat) (hk : 40 ≤ k) : wash_CheckFiner.f k gr m ms = some 0 := by
  unfold wash_CheckFiner.f
  rw [pair_eq' gr m k (by omega), Option.bind_some, if_pos hp, h, Option.bind_some, if_pos rfl, equal_eq gr (by have := (vErr_zero (pErr_zero hp).1).1; omega) k hk]
  rfl
theorem j11_true (l m : List S61) (ms : List S56) (k : Nat) (hk : 50 ≤ k) : verditertop_topWash.j11 k l m ms = some true := by
  obtain ⟨k, rfl⟩ : ∃ n, k = n + 1 := ⟨k - 1, by omega⟩
  simp only [verditertop_topWash.j11]
  obtain ⟨⟨gr, e⟩, hg⟩ : ∃ p, wash_Grind.f m ms = some p := ⟨_, rfl⟩
  rw [hg, Option.bind_some]
  by_cases he : e = 0
  · subst he
    obtain ⟨h0, h1, h2, h3⟩ := grind_facts hg
    have hp := pErr_of h1 h0 h2
    have hw := wkD_true (vErr_f0 h1) (vErr_f0 h0) h3
    rw [if_pos rfl]
    simp only [finer_eq gr m k (by omega), massf_eq gr k (by omega), massf_eq m k (by omega), Option.bind_some]
    rw [if_pos hp, if_pos h1, if_pos h0, hw]
    simp only [h2, check_same hp hg k (by omega), Option.bind_some, if_true]
    rfl
  · rw [if_neg he]
end Go.Proofs.Ytcelibdkicfgkaa.P

/-! Part PureB. -/
/- The plain law of TopWash, second part: the moves that are returned are a proof, and their work is the work. -/
namespace Go.Proofs.Ytcelibdkicfgkaa.P
open Go.RowKit Go.Proofs.YtcelibdkicfgkaaW.PrintWords Go.Proofs.YtcelibdkicfgkaaW.PrintLast Go.Proofs.YtcelibdkicfgkaaW.PrintMore
set_option linter.unusedVariables false

theorem asc_down {l : List S61} (h : asc 0 l) : asc (0 - 1) l := asc_mono (by omega) h
theorem grind_greedy {l m : List S61} (hp : pErr l m = 0) (hw : (wkD l m).2 = true) : wash_Grind.f m (greedy 12 l m) = some (l, 0) := by
  obtain ⟨h0, h1, h2⟩ := pErr_zero hp
  have P := pair_of h0 h1 h2 hw
  obtain ⟨a1, a2, a3⟩ := vErr_zero h0
  obtain ⟨b1, b2, b3⟩ := vErr_zero h1
  obtain ⟨f, e1, e2⟩ := greedy_all (k := 12) P (by omega)
  have hl := greedy_len 12 l m
  have hok : (greedy 12 l m).all okMvB = true := by
    rw [List.all_eq_true]; intro x hx; exact okMvB_iff.2 (greedy_ok 12 l m P x hx)
  have hc : col 21 0 f = l := by
    rw [col_congr (g := pt l) 21 0 (fun t _ _ => e2 t)]
    exact col_pt 21 0 l (asc_down a2) (fun g hg => by have := (a3 g hg).1; omega)
  unfold wash_Grind.f
  rw [if_pos h1, if_neg (by omega), if_pos hok, e1, grindEnd, hc, if_pos h0]
theorem check_greedy {l m : List S61} (hp : pErr l m = 0) (hw : (wkD l m).2 = true) (k : Nat) (hk : 40 ≤ k) : wash_CheckFiner.f k l m (greedy 12 l m) = some 0 := check_same hp (grind_greedy hp hw) k hk
theorem mom_range {l : List S61} (h : ∀ g ∈ l, 0 ≤ g.f0 ∧ g.f0 ≤ 20) : ∀ g ∈ l, 0 ≤ g.f0 := fun g hg => (h g hg).1
theorem work_greedy {l m : List S61} (hp : pErr l m = 0) (hw : (wkD l m).2 = true) : work2 (greedy 12 l m) = (wkD l m).1 := by
  obtain ⟨h0, h1, h2⟩ := pErr_zero hp
  have P := pair_of h0 h1 h2 hw
  obtain ⟨a1, a2, a3⟩ := vErr_zero h0
  obtain ⟨b1, b2, b3⟩ := vErr_zero h1
  have hs : ∀ t : Nat, t < 21 → su (pt m) (t + 1) ≤ su (pt l) (t + 1) := fun t _ => by
    rw [su_pt _ _ (vErr_f0 h0), su_pt _ _ (vErr_f0 h1)]; exact P.dom _
  rw [wkD_true (vErr_f0 h0) (vErr_f0 h1) hs, greedy_work 12 l m P (by omega), su_cu l (vErr_sizes h0), su_cu m (vErr_sizes h1), h2]
  show _ = _
  omega
/-- The loop over the moves. -/
theorem l2_loop (l m : List S61) (ms : List S56) (mv : List S56) (W : Int) (hmv : mv.length ≤ 12) (hok : ∀ x ∈ mv, okMv x) (hwk : work2 mv = W)
    (hch : ∀ k, 40 ≤ k → wash_CheckFiner.f k l m mv = some 0) : ∀ (n i k : Nat) (acc : Int), i + n = mv.length → n + 100 < k → 0 ≤ acc → acc ≤ 2000 * (i : Int) → acc + work2 (mv.drop i) = W →
    verditertop_topWash.l2 k mv W acc (i : Int) l m ms = some true := by
  intro n
  induction n with
  | zero =>
    intro i k acc hi hk h0 h1 h2
    obtain ⟨k, rfl⟩ : ∃ m, k = m + 1 := ⟨k - 1, by omega⟩
    rw [List.drop_of_length_le (by omega)] at h2
    simp only [work2] at h2
    simp only [verditertop_topWash.l2]
    rw [if_neg (by omega), hch k (by omega), Option.bind_some, if_pos rfl, if_pos (by omega)]
    exact j11_true l m ms k (by omega)
  | succ n ih =>
    intro i k acc hi hk h0 h1 h2
    obtain ⟨k, rfl⟩ : ∃ m, k = m + 1 := ⟨k - 1, by omega⟩
    have hlt : i < mv.length := by omega
    have hx := hok mv[i] (List.getElem_mem hlt)
    rw [List.drop_eq_getElem_cons hlt] at h2
    have hr : rd_T56 mv (i : Int) = mv[i] := by unfold rd_T56; simp [List.getD, hlt]
    simp only [verditertop_topWash.l2]
    rw [if_pos (by omega), if_pos (by omega), hr]
    simp only [work2] at h2
    generalize mv[i] = x at *
    obtain ⟨o1, o2, o3, o4, o5⟩ := hx
    have hb : 0 ≤ x.f2 * (x.f0 - x.f1) ∧ x.f2 * (x.f0 - x.f1) ≤ 100 * 20 := mul_bound (by omega) o5 (by omega) (by omega)
    rw [wr_id (a := x.f0 - x.f1) (by omega) (by omega), wr_id (a := x.f2 * (x.f0 - x.f1)) (by omega) (by omega), wr_id (a := acc + x.f2 * (x.f0 - x.f1)) (by omega) (by omega), wr_succ hlt (by omega)]
    exact ih (i + 1) k _ (by omega) (by omega) (by omega) (by omega) (by omega)
theorem j8_true (l m : List S61) (ms : List S56) (k : Nat) (hk : 300 ≤ k) : verditertop_topWash.j8 k l m ms = some true := by
  obtain ⟨k, rfl⟩ : ∃ n, k = n + 1 := ⟨k - 1, by omega⟩
  simp only [verditertop_topWash.j8, finer_eq l m k (by omega), moves_eq l m, workf_eq l m k (by omega), Option.bind_some]
  by_cases hp : pErr l m = 0
  · simp only [if_pos hp]
    obtain ⟨⟨w, b⟩, hw⟩ : ∃ p, wkD l m = p := ⟨_, rfl⟩
    rw [hw]
    cases b with
    | false =>
      simp only [Bool.false_eq_true, if_false, if_true, bne_self_eq_false]
      obtain ⟨k, rfl⟩ : ∃ n, k = n + 1 := ⟨k - 1, by omega⟩
      simp only [verditertop_topWash.j9, Bool.false_eq_true, if_false]
      exact j11_true l m ms k (by omega)
    | true =>
      simp only [Bool.false_eq_true, if_false, if_true, bne_self_eq_false]
      obtain ⟨k, rfl⟩ : ∃ n, k = n + 1 := ⟨k - 1, by omega⟩
      simp only [verditertop_topWash.j9, Bool.false_eq_true, if_false, if_true]
      have hwt : (wkD l m).2 = true := by rw [hw]
      obtain ⟨h0, h1, h2⟩ := pErr_zero hp
      have P := pair_of h0 h1 h2 hwt
      have hwg := work_greedy hp hwt
      rw [hw] at hwg
      have hlen := greedy_len 12 l m
      have a1 := (vErr_zero h0).1
      have b1 := (vErr_zero h1).1
      exact l2_loop l m ms (greedy 12 l m) w (by omega) (greedy_ok 12 l m P) hwg (fun k hk => check_greedy hp hwt k hk) (greedy 12 l m).length 0 k 0 (by omega) (by omega) (by omega) (by omega) (by rw [List.drop_zero, hwg]; omega)
  · simp only [if_neg hp, if_true, bne_self_eq_false, Bool.false_eq_true, if_false]
    obtain ⟨k, rfl⟩ : ∃ n, k = n + 1 := ⟨k - 1, by omega⟩
    simp only [verditertop_topWash.j9, Bool.false_eq_true, if_false]
    exact j11_true l m ms k (by omega)
end Go.Proofs.Ytcelibdkicfgkaa.P

/-! Part PureC. -/
/- The plain law of TopWash, third part: what sinks and what stays is all; several settlings leave no more above than one. -/
namespace Go.Proofs.Ytcelibdkicfgkaa.P
open Go.RowKit Go.Proofs.YtcelibdkicfgkaaW.PrintWords Go.Proofs.YtcelibdkicfgkaaW.PrintLast Go.Proofs.YtcelibdkicfgkaaW.PrintMore
set_option linter.unusedVariables false

theorem gcd_loop : ∀ (b a k : Nat), b < k → verditerref01_gcd.l0 k (a : Int) (b : Int) = some ((Nat.gcd a b : Nat) : Int) := by
  intro b
  induction b using Nat.strongRecOn with
  | ind b ih =>
    intro a k hk
    obtain ⟨k, rfl⟩ : ∃ m, k = m + 1 := ⟨k - 1, by omega⟩
    simp only [verditerref01_gcd.l0]
    by_cases hb : b = 0
    · subst hb
      rw [Nat.gcd_zero_right, if_pos (show ((0 : Nat) : Int) = 0 from rfl)]
    · rw [if_neg (by omega)]
      have hm : Int.tmod (a : Int) (b : Int) = ((a % b : Nat) : Int) := by rw [Int.tmod_eq_emod_of_nonneg (by omega)]; rfl
      have hlt : a % b < b := Nat.mod_lt _ (by omega)
      have e : Nat.gcd b (a % b) = Nat.gcd a b := by rw [Nat.gcd_comm a b, Nat.gcd_rec b a, Nat.gcd_comm]
      rw [hm, ih (a % b) hlt b k (by omega), e]
theorem refRatio_eq {n d : Int} (hn : 0 ≤ n) (hn2 : n ≤ 1000000000000) (hd : 1 ≤ d) (hd2 : d ≤ 10000000) (k : Nat) (hk : 10000001 ≤ k) : verditerref01_Ratio.f k n d = some ((rat n d).f0, (rat n d).f1) := by
  unfold verditerref01_Ratio.f verditerref01_gcd.f
  have hm : mx n (wrap64 (-n)) = n := by rw [wr_id (by omega) (by omega)]; unfold mx; rw [if_neg (by omega)]
  rw [hm]
  obtain ⟨a, rfl⟩ : ∃ a : Nat, n = a := ⟨n.toNat, by omega⟩
  obtain ⟨b, rfl⟩ : ∃ b : Nat, d = b := ⟨d.toNat, by omega⟩
  have hg : 0 < Nat.gcd a b := Nat.gcd_pos_of_pos_right _ (by omega)
  rw [gcd_loop b a k (by omega), Option.bind_some, if_neg (by omega)]
  have h := rat_spec hn hd
  have e1 : Int.tdiv (a : Int) (Nat.gcd a b : Nat) = (rat (a : Int) (b : Int)).f0 := rfl
  have e2 : Int.tdiv (b : Int) (Nat.gcd a b : Nat) = (rat (a : Int) (b : Int)).f1 := rfl
  rw [e1, e2, wr_id (by omega) (by omega), wr_id (by omega) (by omega)]
theorem add_eq {a0 a1 b0 b1 : Int} (ha0 : 0 ≤ a0) (ha : a0 ≤ 2000) (ha1 : 1 ≤ a1) (ha2 : a1 ≤ 20) (hb0 : 0 ≤ b0) (hb : b0 ≤ 2000) (hb1 : 1 ≤ b1) (hb2 : b1 ≤ 20) (k : Nat) (hk : 10000001 ≤ k) :
    verditerref01_Add.f k a0 a1 b0 b1 = some ((rat (a0 * b1 + b0 * a1) (a1 * b1)).f0, (rat (a0 * b1 + b0 * a1) (a1 * b1)).f1) := by
  unfold verditerref01_Add.f
  have c1 := mul_bound ha0 ha (show 0 ≤ b1 by omega) hb2
  have c2 := mul_bound hb0 hb (show 0 ≤ a1 by omega) ha2
  have c3 := mul_bound (show 0 ≤ a1 by omega) ha2 (show 0 ≤ b1 by omega) hb2
  have c4 : 1 ≤ a1 * b1 := by have := Int.mul_le_mul ha1 hb1 (by omega) (by omega : (0 : Int) ≤ a1); omega
  rw [wr_id (a := a0 * b1) (by omega) (by omega), wr_id (a := b0 * a1) (by omega) (by omega), wr_id (a := a1 * b1) (by omega) (by omega), wr_id (a := a0 * b1 + b0 * a1) (by omega) (by omega), refRatio_eq (by omega) (by omega) c4 (by omega) k hk]
  rfl
theorem add_whole {p q : Int} (hp : 0 ≤ p) (hp2 : p ≤ 2000) (hq : 0 ≤ q) (hq2 : q ≤ 2000) (k : Nat) (hk : 10000001 ≤ k) : verditerref01_Add.f k p 1 q 1 = some (p + q, 1) := by
  rw [add_eq hp hp2 (by omega) (by omega) hq hq2 (by omega) (by omega) k hk, Int.mul_one, Int.mul_one, Int.mul_one, rat_one (by omega)]
/-- A grain's fraction behind n settlings. -/
def itW (t d : Int) : Nat → S76 → S76
  | 0, x => x
  | n + 1, x => leftW t d (itW t d n x)
theorem leftN_map (t d : Int) : ∀ (n : Nat) (l : List S76), leftN t d n l = l.map (itW t d n)
  | 0, l => by simp only [leftN]; rw [show itW t d 0 = id from rfl, List.map_id]
  | n + 1, l => by rw [leftN_succ, leftN_map t d n, List.map_map]; rfl
theorem itW_f0 (t d : Int) : ∀ (n : Nat) (x : S76), (itW t d n x).f0 = x.f0
  | 0, _ => rfl
  | n + 1, x => itW_f0 t d n x
theorem itW_ok {t d : Int} (ht : 0 ≤ t) (hd : 1 ≤ d) (hd2 : d ≤ 20) {x : S76} (h : okJ 100 1 x) : ∀ n, okJ (bA n) (bB n) (itW t d n x)
  | 0 => h
  | n + 1 => okJ_step ht hd hd2 (itW_ok ht hd hd2 h n)
theorem itW_less {t d : Int} (ht : 0 ≤ t) (hd : 1 ≤ d) (hd2 : d ≤ 20) {x : S76} (h : okJ 100 1 x) : ∀ n, (itW t d (n + 1) x).f1.f0 * (itW t d 1 x).f1.f1 ≤ (itW t d 1 x).f1.f0 * (itW t d (n + 1) x).f1.f1
  | 0 => Int.le_refl _
  | n + 1 => by
    obtain ⟨h1, h2, h3, h4, h5, h6⟩ := itW_ok ht hd hd2 h (n + 1)
    obtain ⟨s1, s2, s3, s4, s5, s6⟩ := itW_ok ht hd hd2 h 1
    obtain ⟨p0, p1⟩ := part_range (g := (itW t d (n + 1) x).f0) h1 ht hd
    exact (rat_less h3 h5 s3 s5 p0 p1 hd h6 (itW_less ht hd hd2 h n)).2.2.2
/-- One grain: what sinks and what stays. -/
theorem two_facts {t d : Int} {g : S61} (ht : 0 ≤ t) (hd : 1 ≤ d) (hd2 : d ≤ 20) (hg : okJ 100 1 ⟨g, ⟨g.f1, 1⟩⟩) :
    let s := sunkW t d ⟨g, ⟨g.f1, 1⟩⟩
    let u := (leftW t d ⟨g, ⟨g.f1, 1⟩⟩).f1
    (0 ≤ s.f0 ∧ s.f0 ≤ 2000 ∧ 1 ≤ s.f1 ∧ s.f1 ≤ 20) ∧ (0 ≤ u.f0 ∧ u.f0 ≤ 2000 ∧ 1 ≤ u.f1 ∧ u.f1 ≤ 20) ∧ rat (s.f0 * u.f1 + u.f0 * s.f1) (s.f1 * u.f1) = ⟨g.f1, 1⟩ := by
  intro s u
  obtain ⟨h1, h2, h3, h4, -, -⟩ := hg
  have h3 : 0 ≤ g.f1 := h3
  have h4 : g.f1 ≤ 100 := h4
  obtain ⟨p0, p1⟩ := part_range (g := g) h1 ht hd
  have es : s = rat (g.f1 * partI t d g) d := by show rat (g.f1 * partI t d g) (1 * d) = _; rw [Int.one_mul]
  have eu : u = rat (g.f1 * (d - partI t d g)) d := by show rat (g.f1 * (d - partI t d g)) (1 * d) = _; rw [Int.one_mul]
  have h5 := rat_two h3 p0 p1 hd
  have a := mul_bound h3 h4 p0 (show partI t d g ≤ 20 by omega)
  have b := mul_bound h3 h4 (show 0 ≤ d - partI t d g by omega) (show d - partI t d g ≤ 20 by omega)
  obtain ⟨r1, r2, r3, r4, r5⟩ := rat_spec a.1 hd
  obtain ⟨q1, q2, q3, q4, q5⟩ := rat_spec b.1 hd
  rw [← es] at h5 r1 r2 r3 r4 r5
  rw [← eu] at h5 q1 q2 q3 q4 q5
  refine ⟨⟨r2, by omega, r3, by omega⟩, ⟨q2, by omega, q3, by omega⟩, ?_⟩
  have c4 : 1 ≤ s.f1 * u.f1 := by have := Int.mul_le_mul r3 q3 (by omega) (by omega : (0 : Int) ≤ s.f1); omega
  rw [h5, rat_whole h3 c4]
end Go.Proofs.Ytcelibdkicfgkaa.P

/-! Part PureD. -/
/- The plain law of TopWash: the law's inner function answers true at every input. -/
namespace Go.Proofs.Ytcelibdkicfgkaa.P
open Go.RowKit Go.Proofs.YtcelibdkicfgkaaW.PrintWords Go.Proofs.YtcelibdkicfgkaaW.PrintLast Go.Proofs.YtcelibdkicfgkaaW.PrintMore
set_option linter.unusedVariables false

theorem l1_loop (l m : List S61) (ms : List S56) (st ab : List S34) (h6 : ab.length ≤ 6) (hs : st.length = ab.length)
    (F : ∀ i : Nat, i < ab.length → 0 ≤ (rd_T34 ab i).f0 ∧ (rd_T34 ab i).f0 ≤ 1000000000 ∧ 1 ≤ (rd_T34 ab i).f1 ∧ (rd_T34 ab i).f1 ≤ 200000 ∧ 0 ≤ (rd_T34 st i).f0 ∧ (rd_T34 st i).f0 ≤ 2000 ∧ 1 ≤ (rd_T34 st i).f1 ∧ (rd_T34 st i).f1 ≤ 20 ∧ (rd_T34 ab i).f0 * (rd_T34 st i).f1 ≤ (rd_T34 st i).f0 * (rd_T34 ab i).f1) :
    ∀ (n i k : Nat), i + n = ab.length → n + 400 < k → verditertop_topWash.l1 k st ab (i : Int) l m ms = some true := by
  intro n
  induction n with
  | zero =>
    intro i k hi hk
    obtain ⟨k, rfl⟩ : ∃ m, k = m + 1 := ⟨k - 1, by omega⟩
    simp only [verditertop_topWash.l1]
    rw [if_neg (by omega)]
    exact j8_true l m ms k (by omega)
  | succ n ih =>
    intro i k hi hk
    obtain ⟨k, rfl⟩ : ∃ m, k = m + 1 := ⟨k - 1, by omega⟩
    have hlt : i < ab.length := by omega
    obtain ⟨a1, a2, a3, a4, s1, s2, s3, s4, hle⟩ := F i hlt
    simp only [verditertop_topWash.l1]
    generalize rd_T34 ab (i : Int) = a at *
    generalize rd_T34 st (i : Int) = s at *
    have b1 := mul_bound a1 a2 (show 0 ≤ s.f1 by omega) s4
    have b2 := mul_bound s1 s2 (show 0 ≤ a.f1 by omega) a4
    rw [if_pos (by omega), if_pos (by omega), if_neg (by omega), if_neg (by omega), if_neg (by omega), if_pos (by omega), wr_id (a := a.f0 * s.f1) (by omega) (by omega), wr_id (a := s.f0 * a.f1) (by omega) (by omega), if_neg (by omega), wr_succ hlt (by omega)]
    exact ih (i + 1) k (by omega) (by omega)
theorem l0_loop (l m : List S61) (ms : List S56) (sk st ab : List S34) (mass : Int) (f : Int) (h6 : l.length ≤ 6) (hv : ∀ g ∈ l, 0 ≤ g.f1 ∧ g.f1 ≤ 100) (hk1 : sk.length = l.length) (hk2 : st.length = l.length)
    (F : ∀ (i : Nat) (h : i < l.length), (0 ≤ (rd_T34 sk i).f0 ∧ (rd_T34 sk i).f0 ≤ 2000 ∧ 1 ≤ (rd_T34 sk i).f1 ∧ (rd_T34 sk i).f1 ≤ 20) ∧ (0 ≤ (rd_T34 st i).f0 ∧ (rd_T34 st i).f0 ≤ 2000 ∧ 1 ≤ (rd_T34 st i).f1 ∧ (rd_T34 st i).f1 ≤ 20) ∧ rat ((rd_T34 sk i).f0 * (rd_T34 st i).f1 + (rd_T34 st i).f0 * (rd_T34 sk i).f1) ((rd_T34 sk i).f1 * (rd_T34 st i).f1) = ⟨l[i].f1, 1⟩)
    (J : ∀ k, 10000100 ≤ k → verditertop_topWash.j5 k 0 st ab f l m ms = some true) :
    ∀ (n i k : Nat) (acc : Int), i + n = l.length → 2 * n + 10000200 < k → 0 ≤ acc → acc ≤ 100 * (i : Int) → acc + tot (l.drop i) = mass →
      verditertop_topWash.l0 k mass 0 sk st ab f (i : Int) l m ms acc 1 = some true := by
  intro n
  induction n with
  | zero =>
    intro i k acc hi hk h0 h1 h2
    obtain ⟨k, rfl⟩ : ∃ m, k = m + 1 := ⟨k - 1, by omega⟩
    rw [List.drop_of_length_le (by omega)] at h2
    simp only [tot, Int.add_zero] at h2
    subst h2
    simp only [verditertop_topWash.l0]
    rw [if_neg (by omega), refRatio_eq h0 (by omega) (by omega) (by omega) k (by omega), Option.bind_some, rat_one h0, if_neg (by simp)]
    exact J k (by omega)
  | succ n ih =>
    intro i k acc hi hk h0 h1 h2
    obtain ⟨k, rfl⟩ : ∃ m, k = m + 2 := ⟨k - 2, by omega⟩
    have hlt : i < l.length := by omega
    obtain ⟨⟨s0, s1, s2, s3⟩, ⟨t0, t1, t2, t3⟩, hrt⟩ := F i hlt
    have hg := hv l[i] (List.getElem_mem hlt)
    rw [List.drop_eq_getElem_cons hlt] at h2
    simp only [tot] at h2
    simp only [verditertop_topWash.l0]
    generalize hgx : l[i].f1 = gm at *
    have hd : decide ((rd_T34 st (i : Int)).f1 > 100) = false := decide_eq_false (by omega)
    rw [if_pos (by omega), if_pos (by omega), if_pos (by omega), if_neg (by omega), if_pos (by omega), if_neg (by omega), if_neg (by omega), if_neg (by omega), if_neg (by omega), hd]
    simp only [verditertop_topWash.j4, Bool.false_eq_true, if_false]
    rw [if_pos (by omega), if_pos (by omega), if_pos (by omega), add_eq s0 s1 s2 s3 t0 t1 t2 t3 k (by omega), Option.bind_some, hrt]
    simp only
    rw [add_whole h0 (by omega) hg.1 (by omega) k (by omega), Option.bind_some, wr_succ hlt (by omega)]
    exact ih (i + 1) k _ (by omega) (by omega) (by omega) (by omega) (by omega)
theorem part_known (k : Nat) (hk : 10000001 ≤ k) : wash_Part.f k 3 2 10 = some (3, 5, 0) := by
  unfold wash_Part.f
  rw [isTime_eq, Option.bind_some, if_pos (by decide), if_neg (by decide), if_neg (by decide)]
  rw [show mn (wrap64 (3 * 2)) 10 = 6 by rw [wr_id (a := 3 * 2) (by decide) (by decide)]; decide, ratio_eq (by decide) (by decide) (by decide) (by decide) k hk]
  have h1 : (rat 6 10).f0 = 3 := by decide
  have h2 : (rat 6 10).f1 = 5 := by decide
  rw [h1, h2]; rfl
theorem rd34_map (l : List S76) (f : S76 → S34) (i : Nat) (h : i < l.length) : rd_T34 (l.map f) (i : Int) = f l[i] := by
  unfold rd_T34; simp [List.getD, h]
theorem pureTopWash (l m : List S61) (ms : List S56) (t d n : Int) : ∃ k, verditertop_topWash.f k l m ms t d n = some true := by
  refine ⟨20000000, ?_⟩
  unfold verditertop_topWash.f
  rw [part_known _ (by decide), Option.bind_some, if_pos rfl, show (!((3 : Int) == 3) || (!((5 : Int) == 5))) = false by decide]
  obtain ⟨K, hK⟩ : ∃ K, K = 20000000 := ⟨_, rfl⟩
  rw [← hK]
  obtain ⟨K, rfl⟩ : ∃ m, K = m + 2 := ⟨K - 2, by omega⟩
  simp only [verditertop_topWash.j0, verditerlaw01_Long.f, Option.bind_some, Bool.false_eq_true, if_false]
  have j1t : verditertop_topWash.j1 (K + 1) n true l m ms t d = some true := by simp only [verditertop_topWash.j1, if_true]
  by_cases c0 : (l.length : Int) > 40
  · rw [if_pos (decide_eq_true c0)]; exact j1t
  rw [if_neg (by simpa using c0)]
  by_cases c1 : (m.length : Int) > 40
  · rw [if_pos (decide_eq_true c1)]; exact j1t
  rw [if_neg (by simpa using c1)]
  by_cases c2 : (ms.length : Int) > 60
  · rw [decide_eq_true c2]; exact j1t
  rw [decide_eq_false c2]
  clear j1t
  simp only [verditertop_topWash.j1, Bool.false_eq_true, if_false, massf_eq l K (by omega), Option.bind_some]
  by_cases hv : vErr l = 0
  · rw [if_pos hv]
    simp only [if_true]
    obtain ⟨a1, a2, a3⟩ := vErr_zero hv
    have hS : wash_Settle.f l t d = some (if isTime t d = true then ((pourL l).map (sunkW t d), (leftN t d 1 (pourL l)).map S76.f1, 0) else ([], [], 1)) := by unfold wash_Settle.f; rw [if_pos hv]
    have hW : wash_Wash.f l t d n = some (if isTime t d = true ∧ 1 ≤ n ∧ n ≤ 4 then ((leftN t d n.toNat (pourL l)).map S76.f1, 0) else ([], 1)) := by unfold wash_Wash.f; rw [if_pos hv]
    rw [hS, Option.bind_some, hW, Option.bind_some]
    by_cases ht : isTime t d = true
    · rw [if_pos ht]
      have hti : 0 ≤ t ∧ t ≤ 100 ∧ 1 ≤ d ∧ d ≤ 20 := by simp [isTime] at ht; omega
      obtain ⟨t0, t1, t2, t3⟩ := hti
      have hpl := pour_len l
      have hpg : ∀ (i : Nat) (h : i < l.length), (pourL l)[i]'(by rw [hpl]; exact h) = ⟨l[i], ⟨l[i].f1, 1⟩⟩ := fun i h => by simp [pourL]
      have hokp := pour_okJ hv
      have hst : (leftN t d 1 (pourL l)).map S76.f1 = (pourL l).map (fun x => (leftW t d x).f1) := by rw [leftN_map, List.map_map]; rfl
      simp only [if_true]
      rw [if_pos (by simp [pourL])]
      obtain ⟨⟨ab, f⟩, hab⟩ : ∃ p, (if isTime t d = true ∧ 1 ≤ n ∧ n ≤ 4 then ((leftN t d n.toNat (pourL l)).map S76.f1, (0 : Int)) else ([], 1)) = p := ⟨_, rfl⟩
      rw [hab]
      rw [hst]
      have hne : ((((pourL l).map (fun x => (leftW t d x).f1)).length : Int) != (l.length : Int)) = false := by simp [pourL]
      rw [hne]
      obtain ⟨K, rfl⟩ : ∃ m, K = m + 1 := ⟨K - 1, by omega⟩
      simp only [verditertop_topWash.j2, Bool.false_eq_true, if_false]
      have hok : ∀ (i : Nat) (h : i < l.length), okJ 100 1 ⟨l[i], ⟨l[i].f1, 1⟩⟩ := fun i h => by
        have := hokp _ (List.getElem_mem (l := pourL l) (by rw [hpl]; exact h))
        rw [hpg i h] at this; exact this
      refine l0_loop l m ms ((pourL l).map (sunkW t d)) ((pourL l).map (fun x => (leftW t d x).f1)) ab (tot l) f a1 (vErr_mass hv) (by simp [pourL]) (by simp [pourL]) (fun i h => ?_) (fun k hk => ?_) l.length 0 K 0 (by omega) (by omega) (by omega) (by omega) (by rw [List.drop_zero]; omega)
      · rw [rd34_map _ _ i (by rw [hpl]; exact h), rd34_map _ _ i (by rw [hpl]; exact h), hpg i h]
        exact two_facts t0 t2 t3 (hok i h)
      · obtain ⟨k, rfl⟩ : ∃ m, k = m + 2 := ⟨k - 2, by omega⟩
        simp only [verditertop_topWash.j5, if_true]
        by_cases hn : 1 ≤ n ∧ n ≤ 4
        · rw [if_pos ⟨ht, hn⟩] at hab
          obtain ⟨e1, e2⟩ := Prod.mk.inj hab
          subst e2
          obtain ⟨q, hq⟩ : ∃ q : Nat, n.toNat = q + 1 := ⟨n.toNat - 1, by omega⟩
          have eab : ab = (pourL l).map (fun x => (itW t d (q + 1) x).f1) := by rw [← e1, hq, leftN_map, List.map_map]; rfl
          subst eab
          have hl2 : ((((pourL l).map (fun x => (itW t d (q + 1) x).f1)).length : Int) != (l.length : Int)) = false := by simp [pourL]
          rw [if_pos rfl, hl2]
          simp only [verditertop_topWash.j6, Bool.false_eq_true, if_false]
          refine l1_loop l m ms _ _ (by simp [pourL]; exact a1) (by simp) (fun i h => ?_) ((pourL l).map (fun x => (itW t d (q + 1) x).f1)).length 0 k (by omega) (by simp [pourL]; omega)
          have h' : i < l.length := by simpa [pourL] using h
          rw [rd34_map _ _ i (by rw [hpl]; exact h'), rd34_map _ _ i (by rw [hpl]; exact h'), hpg i h']
          obtain ⟨u1, u2, u3, u4, u5, u6⟩ := itW_ok t0 t2 t3 (hok i h') (q + 1)
          obtain ⟨-, ⟨w1, w2, w3, w4⟩, -⟩ := two_facts t0 t2 t3 (hok i h')
          obtain ⟨b1, b2⟩ := bAB (n := q + 1) (by omega)
          exact ⟨u3, by omega, u5, by omega, w1, w2, w3, w4, itW_less t0 t2 t3 (hok i h') q⟩
        · rw [if_neg (fun hc => hn hc.2)] at hab
          obtain ⟨e1, e2⟩ := Prod.mk.inj hab
          subst e2
          rw [if_neg (by decide)]
          exact j8_true l m ms _ (by omega)
    · have hw2 : (if isTime t d = true ∧ 1 ≤ n ∧ n ≤ 4 then ((leftN t d n.toNat (pourL l)).map S76.f1, (0 : Int)) else ([], 1)) = ([], 1) := if_neg (fun hc => ht hc.1)
      rw [if_neg ht, hw2]
      obtain ⟨K, rfl⟩ : ∃ m, K = m + 1 := ⟨K - 1, by omega⟩
      rw [if_neg (show ¬ (1 : Int) = 0 by decide)]
      simp only [verditertop_topWash.j5]
      rw [if_neg (by decide)]
      exact j8_true l m ms K (by omega)
  · rw [if_neg hv, if_neg hv, validate_eq l K (by omega), Option.bind_some]
    simp
end Go.Proofs.Ytcelibdkicfgkaa.P
