/- Parts of the proof of the law SecretFalse: walks of functions that it reaches, and plain facts about numbers, lists and curves; without a condition. -/
import Derived.Test.YthlbjdiicmojfaaSecretFalseM5
import Derived.Test.YthlbjdiicmojfaaSecretFalseM10
/-! Part PureSecretFalse. -/
namespace Go.Proofs.Ythlbjdiicmojfaa.P
open Go.RowKit Go.Proofs.YthlbjdiicmojfaaW.PrintWords Go.Proofs.YthlbjdiicmojfaaW.PrintLast Go.Proofs.YthlbjdiicmojfaaW.PrintMore
set_option linter.unusedVariables false
/-- Parts of which one is off a curve on which as many others lie as the curve has numbers lie on no curve of that many numbers. -/
theorem not_lies {m s : List S43} {c : List Int} {n : Nat} {q : S43} (hv : valid m = 0) (hc : ∀ x ∈ c, num x = true) (hcn : c.length = n) (hlen : n < m.length) (hq : q ∈ m) (hne : q.f1 ≠ atI c q.f0) (hs : s.Sublist m) (hsl : n ≤ s.length) (hsc : ∀ p ∈ s, p.f1 = atI c p.f0) : lies m n = false := by
  refine Bool.eq_false_iff.2 fun h => ?_
  unfold lies at h
  rw [decide_eq_false (show ¬ m.length ≤ n by omega), Bool.false_or, List.all_eq_true] at h
  have htl : (m.take n).length = n := by rw [List.length_take]; omega
  have e : c = interp (pts (m.take n)) := by
    obtain ⟨_, _, hnd⟩ := valid_iff.1 (valid_sub hv hs)
    refine curve_uniq (xs := s.map S43.f0) (by rw [interp_len, pts_length, htl, hcn]) hc (interp_nums _) ?_ hnd (by rw [List.length_map]; omega) ?_
    · intro x hx
      obtain ⟨p, hp, rfl⟩ := List.mem_map.1 hx
      exact (valid_num hv (hs.subset hp)).1
    · intro x hx
      obtain ⟨p, hp, rfl⟩ := List.mem_map.1 hx
      rw [← hsc p hp]
      exact (beq_iff_eq.1 (h p (hs.subset hp))).symm
  apply hne
  rw [e]
  exact (beq_iff_eq.1 (h q hq)).symm
section
variable {l : List S43} {c : List Int} {n i : Nat} {y : Int} (hv : valid l = 0) (hc : ∀ x ∈ c, num x = true) (hcn : c.length = n) (hln : l.length = n + 2) (hon : ∀ p ∈ l, p.f1 = atI c p.f0) (hi : i < l.length) (hy : num y = true) (hne : y ≠ l[i].f1)
/-- The parts with the i-th spoilt. -/
def spoil (l : List S43) (i : Nat) (y : Int) : List S43 := l.set i ⟨(l.getD i z43).f0, y⟩
include hv hi hy in
theorem valid_spoil : valid (spoil l i y) = 0 := by
  refine valid_same hv ?_ fun p hp => ?_
  · unfold spoil
    rw [List.map_set]
    refine List.ext_getElem (by simp) fun j h1 h2 => ?_
    rw [List.getElem_set]
    by_cases e : i = j
    · subst e; rw [if_pos rfl, List.getElem_map, getD_get l z43 hi]
    · rw [if_neg e]
  · unfold spoil at hp
    rcases List.mem_or_eq_of_mem_set hp with h | rfl
    · exact (valid_num hv h).2
    · exact hy
theorem spoil_get (j : Nat) (hj : j < (spoil l i y).length) (h : i ≠ j) (hj2 : j < l.length) : (spoil l i y)[j] = l[j] := by
  simp only [spoil, List.getElem_set, if_neg h]
theorem spoil_length : (spoil l i y).length = l.length := by unfold spoil; rw [List.length_set]
include hi in
theorem spoil_at (h : i < (spoil l i y).length) : (spoil l i y)[i] = ⟨l[i].f0, y⟩ := by
  simp only [spoil, List.getElem_set_self, getD_get l z43 hi]
theorem spoil_erase : (spoil l i y).eraseIdx i = l.eraseIdx i := by
  unfold spoil
  exact List.eraseIdx_set_eq
include hv hc hcn hln hon hi hy hne in
theorem spoil_not : lies (spoil l i y) n = false := by
  have hel := erase_length l i hi
  refine not_lies (s := l.eraseIdx i) (q := ⟨l[i].f0, y⟩) (valid_spoil hv hi hy) hc hcn (by rw [spoil_length]; omega) ?_ ?_ ?_ (by omega) ?_
  · rw [← spoil_at hi (by rw [spoil_length]; exact hi)]; exact List.getElem_mem _
  · intro e
    apply hne
    rw [hon _ (List.getElem_mem hi)]; exact e
  · rw [← spoil_erase (y := y)]; exact List.eraseIdx_sublist _ _
  · intro p hp
    exact hon p ((List.eraseIdx_sublist l i).subset hp)
include hv hc hcn hln hon hi hy hne in
theorem spoil_cand (j : Nat) (hj : j < l.length) : lies ((spoil l i y).eraseIdx j) n = decide (j = i) := by
  by_cases e : j = i
  · subst e
    rw [spoil_erase, decide_eq_true rfl]
    exact lies_of_curve (valid_erase hv j) hc hcn fun p hp => hon p ((List.eraseIdx_sublist l j).subset hp)
  · rw [decide_eq_false e]
    have hsl : (spoil l i y).length = l.length := spoil_length
    have hel := erase_length (spoil l i y) j (by omega)
    have hvs := valid_spoil (y := y) hv hi hy
    have hii : (if i < j then i else i - 1) < ((spoil l i y).eraseIdx j).length := by split <;> omega
    refine not_lies (s := ((spoil l i y).eraseIdx j).eraseIdx (if i < j then i else i - 1)) (q := ⟨l[i].f0, y⟩) (valid_erase hvs j) hc hcn (by omega) ?_ ?_ (List.eraseIdx_sublist _ _) (by rw [erase_length _ _ hii]; omega) ?_
    · refine List.mem_eraseIdx_iff_getElem.2 ⟨i, by omega, fun h => e h.symm, spoil_at hi (by omega)⟩
    · intro e2
      apply hne
      rw [hon _ (List.getElem_mem hi)]; exact e2
    · intro p hp
      obtain ⟨m, hm, hmi, rfl⟩ := List.mem_eraseIdx_iff_getElem.1 hp
      rw [List.getElem_eraseIdx]
      by_cases hmj : m < j
      · rw [dif_pos hmj, spoil_get m (by omega) (by intro h; apply hmi; subst h; rw [if_pos hmj]) (by omega)]
        exact hon _ (List.getElem_mem _)
      · rw [dif_neg hmj, spoil_get (m + 1) (by omega) (by intro h; apply hmi; rw [if_neg (by omega)]; omega) (by omega)]
        exact hon _ (List.getElem_mem _)
include hv hc hcn hln hon hi hy hne in
theorem spoil_cands : cands (spoil l i y) n (spoil l i y).length = [i] := by
  rw [spoil_length]
  have key : ∀ m, m ≤ l.length → cands (spoil l i y) n m = if i < m then [i] else [] := by
    intro m
    induction m with
    | zero => intro _; rw [if_neg (by omega)]; rfl
    | succ m ih =>
      intro hm
      rw [cands_succ, ih (by omega), spoil_cand hv hc hcn hln hon hi hy hne m (by omega)]
      by_cases e : m = i
      · subst e; rw [if_neg (by omega), if_pos (by simp), if_pos (by omega)]; rfl
      · rw [if_neg (show ¬ (decide (m = i) = true) by simpa using e), List.append_nil]
        by_cases h : i < m
        · rw [if_pos h, if_pos (by omega)]
        · rw [if_neg h, if_neg (by omega)]
  rw [key l.length (Nat.le_refl _), if_pos hi]
include hv hc hcn hln hon hi hy hne in
theorem spoil_wrong (h1 : 1 ≤ n) (h6 : n ≤ 6) : wrongR (spoil l i y) (n : Int) = ((i : Int), true, 0) := by
  have hn : neededR (spoil l i y) (n : Int) = 0 := neededR_eq (valid_spoil hv hi hy) (by omega) (by omega)
  rw [wrongR_not hn (by rw [spoil_length]; omega) (by rw [Int.toNat_natCast, spoil_not hv hc hcn hln hon hi hy hne]; simp), Int.toNat_natCast, spoil_cands hv hc hcn hln hon hi hy hne]
  rfl
include hv hc hcn hln hon hi hy hne in
theorem spoil_repair (h1 : 1 ≤ n) (h6 : n ≤ 6) : repairR (spoil l i y) (n : Int) = (l, true, 0) := by
  unfold repairR
  rw [spoil_wrong hv hc hcn hln hon hi hy hne h1 h6]
  simp only [if_true, Int.toNat_natCast]
  unfold putR
  have hel := erase_length l i hi
  have hsl : i < (spoil l i y).length := by rw [spoil_length]; exact hi
  rw [spoil_erase, interp_of_curve (valid_sub (valid_erase hv i) (List.take_sublist n _)) hc (by rw [List.length_take]; omega) (fun p hp => hon p ((List.eraseIdx_sublist l i).subset (List.mem_of_mem_take hp))), getD_get _ z43 hsl, spoil_at hi hsl]
  simp only
  rw [← hon l[i] (List.getElem_mem hi)]
  unfold spoil
  rw [List.set_set]
  refine congrArg (fun x => (x, true, (0 : Int))) ?_
  exact List.set_getElem_self hi
end
theorem u64_wrap' (a : Int) : IntKind.u64.wrap a = a % 18446744073709551616 := rfl
theorem pureSecretFalse (l0 : List Int) (_h0 : (∀ z ∈ l0, (Lit.int .i64 z).wf = true)) (l1 : Int) (_h1 : (Lit.int .i64 l1).wf = true) (l2 : Int) (_h2 : (Lit.int .i64 l2).wf = true) : ∃ k, verditerlaw08_secretFalse.f k l0 l1 l2 = some true := by
  refine ⟨10000, ?_⟩
  rw [verditerlaw08_secretFalse.f]
  by_cases hl : (l0.length : Int) > 100
  · rw [if_pos hl, known_eq _ (by omega)]; rfl
  rw [if_neg hl, wrap_id (a := (l0.length : Int) + 2) (by omega) (by omega), share_eq _ _ _ (by omega), Option.bind_some]
  by_cases hc : curveErr l0 = 0
  · obtain ⟨h1, h6, hnum⟩ := curveErr_iff.1 hc
    have e : shareR l0 ((l0.length : Int) + 2) = (shares l0 (l0.length + 2), 0) := by
      unfold shareR
      rw [if_pos hc, if_pos (by omega), show ((l0.length : Int) + 2).toNat = l0.length + 2 by omega]
    have hsl := shares_length l0 (l0.length + 2)
    have hv := valid_shares l0 (show l0.length + 2 ≤ 12 by omega)
    have hon : ∀ p ∈ shares l0 (l0.length + 2), p.f1 = atI l0 p.f0 := fun p hp => (mem_shares hp).2.2
    rw [e]
    simp only
    generalize shares l0 (l0.length + 2) = l at *
    have hm : IntKind.u64.wrap (l.length : Int) = (l.length : Int) := by rw [u64_wrap']; omega
    rw [if_pos True.intro, if_pos (by omega), hm, if_neg (by omega), Option.bind_some, if_pos (by simp; omega), Option.bind_some, List.nil_append]
    obtain ⟨i, hi, hie⟩ : ∃ i : Nat, i < l.length ∧ wrap64 (Int.tmod (IntKind.u64.wrap l1) (l.length : Int)) = (i : Int) := by
      have h0 : 0 ≤ IntKind.u64.wrap l1 := by rw [u64_wrap']; omega
      have hp : (0 : Int) < (l.length : Int) := by omega
      have ha := Int.emod_nonneg (IntKind.u64.wrap l1) (show (l.length : Int) ≠ 0 by omega)
      have hb := Int.emod_lt_of_pos (IntKind.u64.wrap l1) hp
      refine ⟨(IntKind.u64.wrap l1 % (l.length : Int)).toNat, by omega, ?_⟩
      rw [Int.tmod_eq_emod_of_nonneg h0, wrap_id (by omega) (by omega)]
      omega
    rw [hie, if_pos (by omega), if_pos (by omega), Option.bind_some, rdT_get l i hi, Int.toNat_natCast]
    have hp := valid_num hv (List.getElem_mem hi)
    have hpn := num_iff.1 hp.2
    obtain ⟨b, hb0, hb1, hbe⟩ : ∃ b : Int, 0 ≤ b ∧ b ≤ 249 ∧ wrap64 (Int.tmod (IntKind.u64.wrap l2) 250) = b := by
      refine ⟨IntKind.u64.wrap l2 % 250, by omega, by omega, ?_⟩
      have h0 : 0 ≤ IntKind.u64.wrap l2 := by rw [u64_wrap']; omega
      rw [Int.tmod_eq_emod_of_nonneg h0, wrap_id (by omega) (by omega)]
    have hye : Int.tmod (wrap64 (wrap64 (Int.tmod l[i].f1 251 + 1) + wrap64 (Int.tmod (IntKind.u64.wrap l2) 250))) 251 = (l[i].f1 + 1 + b) % 251 := by
      rw [hbe, Int.tmod_eq_emod_of_nonneg hpn.1, show l[i].f1 % 251 = l[i].f1 by omega, wrap_id (a := l[i].f1 + 1) (by omega) (by omega), wrap_id (a := l[i].f1 + 1 + b) (by omega) (by omega), Int.tmod_eq_emod_of_nonneg (by omega)]
    rw [hye]
    have hyn : num ((l[i].f1 + 1 + b) % 251) = true := num_mod _
    have hne : (l[i].f1 + 1 + b) % 251 ≠ l[i].f1 := by omega
    have hyp := num_iff.1 hyn
    generalize (l[i].f1 + 1 + b) % 251 = y at *
    have hsp : l.set i ⟨l[i].f0, y⟩ = spoil l i y := by unfold spoil; rw [getD_get l z43 hi]
    have hw := spoil_wrong hv hnum rfl hsl hon hi hyn hne h1 h6
    have hr := spoil_repair hv hnum rfl hsl hon hi hyn hne h1 h6
    rw [hsp, rdT_get (spoil l i y) i (by rw [spoil_length]; exact hi), spoil_at hi (by rw [spoil_length]; exact hi), if_neg (by simp only; omega), sWrong_eq _ _ _ (by omega), Option.bind_some, sRepair_eq _ _ _ (by omega), Option.bind_some, hw, hr, if_pos rfl, if_pos rfl, if_pos rfl, if_pos rfl, if_pos rfl, same_self l (by omega) _ (by omega), Option.bind_some, if_pos rfl, known_eq _ (by omega)]
    rfl
  · have e : shareR l0 ((l0.length : Int) + 2) = ([], curveErr l0) := by unfold shareR; rw [if_neg hc]
    rw [e, if_neg hc, known_eq _ (by omega)]; rfl
end Go.Proofs.Ythlbjdiicmojfaa.P
