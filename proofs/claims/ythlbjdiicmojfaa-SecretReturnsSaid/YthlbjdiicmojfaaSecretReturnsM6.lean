/- Parts of the proof of the law SecretReturns: walks of functions that it reaches, and plain facts about numbers, lists and curves; without a condition. -/
import Derived.Test.YthlbjdiicmojfaaSecretReturnsM4
import Derived.Test.YthlbjdiicmojfaaSecretReturnsM5
import Derived.Test.YthlbjdiicmojfaaSecretReturnsM1
import Derived.Test.YthlbjdiicmojfaaSecretReturnsM3
/-! Part Thr. -/
namespace Go.Proofs.Ythlbjdiicmojfaa.P
open Go.RowKit Go.Proofs.YthlbjdiicmojfaaW.PrintWords Go.Proofs.YthlbjdiicmojfaaW.PrintLast Go.Proofs.YthlbjdiicmojfaaW.PrintMore
open Ply
set_option linter.unusedVariables false

/-- From K rounds on the answer is R. -/
def From (K : Nat) {α : Type} (g : Nat → Option α) (R : α) : Prop := ∀ k, K ≤ k → g k = some R
theorem From.step {K : Nat} {α : Type} {g f : Nat → Option α} {R : α} (h : From K f R) (e : ∀ k, K ≤ k → g (k + 1) = f k) : From (K + 1) g R := by
  intro k hk
  obtain ⟨k, rfl⟩ : ∃ j, k = j + 1 := ⟨k - 1, by omega⟩
  rw [e k (by omega)]; exact h k (by omega)
theorem From.more {K K' : Nat} {α : Type} {g : Nat → Option α} {R : α} (h : From K g R) (hk : K ≤ K') : From K' g R := fun k h' => h k (by omega)

theorem set_next (P : List Int) (x y z : Int) (q : List Int) {i : Int} (h : i = P.length) : (P ++ x :: y :: q).set (i + 1).toNat z = P ++ x :: z :: q := by
  subst h
  rw [show ((P.length : Int) + 1).toNat = P.length + 1 by omega, List.set_append, if_neg (by omega), show P.length + 1 - P.length = 1 by omega]
  rfl
theorem rd_next (P : List Int) (x y : Int) (q : List Int) {i : Int} (h : i = P.length) : rd (P ++ x :: y :: q) (i + 1) = y := by
  subst h; unfold rd
  rw [show ((P.length : Int) + 1).toNat = P.length + 1 by omega]
  simp [List.getD]

theorem l2_eq (l : List S43) (out : List Int) (i j : Nat) (below : Int) (prod : List Int) (hi : i < l.length) (hj : j < l.length) (hl : l.length ≤ 100) (hp : prod.length ≤ 100)
    (hX : num l[j].f0 = true) (hXi : num l[i].f0 = true) (hb : num below = true) {K : Nat} {R : List Int} : ∀ (rest c1 P : List Int) (carry : Int), prod = c1 ++ rest → P.length = c1.length → (∀ n ∈ rest, num n = true) → num carry = true →
    From K (fun k => verditerref08_through.l1 k l out (i : Int) (P ++ timesL rest l[j].f0 1 carry) ((below * (l[i].f0 - l[j].f0)) % 251) ((j + 1 : Nat) : Int)) R →
    From (K + rest.length + 1) (fun k => verditerref08_through.l2 k l out (i : Int) prod below (j : Int) (P ++ (carry % 251) :: List.replicate rest.length 0) (c1.length : Int)) R := by
  intro rest
  have hX' := num_iff.1 hX
  have hXi' := num_iff.1 hXi
  have hb' := num_iff.1 hb
  induction rest with
  | nil =>
    intro c1 P carry hc hP hn hcy H
    refine From.step H fun k hk => ?_
    have h1 := mul_range hb'.1 hb'.2 hXi'.1 hXi'.2
    have h2 := mul_range hb'.1 hb'.2 hX'.1 hX'.2
    have h3 : below * (l[i].f0 - l[j].f0) = below * l[i].f0 - below * l[j].f0 := Int.mul_sub ..
    rw [verditerref08_through.l2, if_neg (by rw [hc]; simp), if_pos (by omega), if_pos (by omega), if_pos (by omega), if_pos (by omega), rdT_get l i hi, rdT_get l j hj,
      wrap_id (a := l[i].f0 - l[j].f0) (by omega) (by omega), wrap_id (a := below * (l[i].f0 - l[j].f0)) (by omega) (by omega), mod_eq, Option.bind_some, wrap_succ j (by omega)]
    rfl
  | cons n rest ih =>
    intro c1 P carry hc hP hn hcy H
    have hn' := num_iff.1 (hn n (by simp))
    have hcy' := num_iff.1 hcy
    have h1 := mul_range hn'.1 hn'.2 hX'.1 hX'.2
    have hlen : prod.length = c1.length + (rest.length + 1) := by rw [hc]; simp
    have ih' := ih (c1 ++ [n]) (P ++ [(carry - n * l[j].f0 * 1) % 251]) (n * 1) (by rw [hc]; simp) (by simp [hP]) (fun m hm => hn m (by simp [hm])) (by rw [Int.mul_one]; exact hn n (by simp)) (by
      have e : P ++ [(carry - n * l[j].f0 * 1) % 251] ++ timesL rest l[j].f0 1 (n * 1) = P ++ timesL (n :: rest) l[j].f0 1 carry := by simp [timesL]
      rw [e]; exact H)
    refine From.step (From.more ih' (show K + rest.length + 1 ≤ K + (n :: rest).length by simp; omega)) fun k hk => ?_
    have hr : rd prod (c1.length : Int) = n := by rw [hc]; exact rd_at c1 n rest rfl
    have hPl : (c1.length : Int) = (P.length : Int) := by rw [hP]
    rw [verditerref08_through.l2, if_pos (by omega), if_pos (by omega), if_pos (by simp; omega), if_pos (by omega), if_pos (by omega), hr, rdT_get l j hj, rd_at P (carry % 251) _ hPl,
      wrap_id (a := n * l[j].f0) (by omega) (by omega), wrap_id (a := carry % 251 - n * l[j].f0) (by omega) (by omega), mod_eq, Option.bind_some, set_at P _ _ _ hPl, Option.bind_some,
      wrap_id (a := (c1.length : Int) + 1) (by omega) (by omega), if_pos (by omega), if_pos (by simp; omega), List.length_cons, List.replicate_succ, rd_next P _ 0 _ hPl,
      wrap_id (a := 0 + n) (by omega) (by omega), mod_eq, Option.bind_some, set_next P _ 0 _ _ hPl]
    have e1 : (carry % 251 - n * l[j].f0) % 251 = (carry - n * l[j].f0 * 1) % 251 := by rw [Int.mul_one]; omega
    have e2 : (0 + n) % 251 = (n * 1) % 251 := by rw [Int.mul_one]; omega
    rw [e1, e2, show ((c1.length : Int) + 1) = (((c1 ++ [n]).length : Nat) : Int) by simp]
    simp

/-! ### One point's curve, as the reference makes it -/
def basisR (others c : List Int) : List Int := others.foldl (fun c xj => timesL c xj 1 0) c
def belowR (xi : Int) (others : List Int) (b : Int) : Int := others.foldl (fun b xj => (b * (xi - xj)) % 251) b
/-- The other places from the j-th on. -/
def oth (xs : List Int) (i j : Nat) : List Int := if j ≤ i then (xs.drop j).eraseIdx (i - j) else xs.drop j
theorem oth_here (xs : List Int) (i : Nat) (h : i < xs.length) : oth xs i i = oth xs i (i + 1) := by
  unfold oth
  rw [if_pos (Nat.le_refl _), if_neg (by omega), Nat.sub_self, List.drop_eq_getElem_cons h]; rfl
theorem oth_next (xs : List Int) (i j : Nat) (h : j < xs.length) (hne : j ≠ i) : oth xs i j = xs[j] :: oth xs i (j + 1) := by
  unfold oth
  by_cases hlt : j ≤ i
  · rw [if_pos hlt, if_pos (by omega), List.drop_eq_getElem_cons h, show i - j = (i - (j + 1)) + 1 by omega]; rfl
  · rw [if_neg hlt, if_neg (by omega), List.drop_eq_getElem_cons h]
theorem oth_end (xs : List Int) (i : Nat) (hi : i < xs.length) : oth xs i xs.length = [] := by
  unfold oth
  rw [if_neg (by omega), List.drop_of_length_le (Nat.le_refl _)]
theorem oth_zero (xs : List Int) (i : Nat) : oth xs i 0 = xs.eraseIdx i := by
  unfold oth
  rw [if_pos (by omega)]; rfl
theorem basisR_num : ∀ (others c : List Int), (∀ n ∈ c, num n = true) → ∀ n ∈ basisR others c, num n = true
  | [], c, h => h
  | x :: others, c, h => basisR_num others _ (timesL_num _ _ _ _)
theorem basisR_length : ∀ (others c : List Int), (basisR others c).length = c.length + others.length
  | [], c => rfl
  | x :: others, c => by
    show (basisR others (timesL c x 1 0)).length = _
    rw [basisR_length others, timesL_length]; simp; omega
theorem belowR_num (xi : Int) : ∀ (others : List Int) (b : Int), num b = true → num (belowR xi others b) = true
  | [], b, h => h
  | x :: others, b, h => belowR_num xi others _ (num_mod _)

theorem l1_eq (l : List S43) (out : List Int) (i : Nat) (hi : i < l.length) (hl : l.length ≤ 12) (hX : ∀ p ∈ l, num p.f0 = true ∧ num p.f1 = true) {K : Nat} (hK : 251 ≤ K) {R : List Int} :
    ∀ (d j : Nat) (prod : List Int) (below : Int), j + d = l.length → prod.length ≤ j + 1 → (∀ n ∈ prod, num n = true) → num below = true → belowR l[i].f0 (oth (l.map S43.f0) i j) below ≠ 0 →
    From K (fun k => verditerref08_through.l3 k l out (i : Int) (basisR (oth (l.map S43.f0) i j) prod) ((l[i].f1 * invI (belowR l[i].f0 (oth (l.map S43.f0) i j) below)) % 251) 0) R →
    From (K + 1 + 20 * d) (fun k => verditerref08_through.l1 k l out (i : Int) prod below (j : Int)) R := by
  intro d
  have hXi := hX l[i] (List.getElem_mem hi)
  have hmi : i < (l.map S43.f0).length := by simpa using hi
  induction d with
  | zero =>
    intro j prod below hj hp hn hb hne H
    have hjl : j = (l.map S43.f0).length := by simpa using hj
    subst hjl
    rw [oth_end _ _ hmi] at H hne
    refine From.step H fun k hk => ?_
    have hf := num_iff.1 hXi.2
    have hne' : below ≠ 0 := hne
    have hv := num_iff.1 (num_invI below)
    have hinv := rinv_eq below hb hne' k (by omega)
    show verditerref08_through.l1 (k + 1) l out (i : Int) prod below _ = verditerref08_through.l3 k l out (i : Int) prod ((l[i].f1 * invI below) % 251) 0
    generalize invI below = t at *
    have hm := mul_range hf.1 hf.2 hv.1 hv.2
    rw [verditerref08_through.l1, if_neg (by simp), if_pos (by omega), if_pos (by omega), hinv, Option.bind_some, rdT_get l i hi, wrap_id (a := l[i].f1 * t) (by omega) (by omega), mod_eq, Option.bind_some]
  | succ d ih =>
    intro j prod below hj hp hn hb hne H
    have hjl : j < l.length := by omega
    have hmj : j < (l.map S43.f0).length := by simpa using hjl
    by_cases e : j = i
    · subst e
      rw [oth_here _ _ hmj] at H hne
      refine From.more (From.step (ih (j + 1) prod below (by omega) (by omega) hn hb hne H) fun k hk => ?_) (show K + 1 + 20 * d + 1 ≤ K + 1 + 20 * (d + 1) by omega)
      rw [verditerref08_through.l1, if_pos (by omega), if_pos rfl, wrap_succ j (by omega)]
    · rw [oth_next _ _ _ hmj e] at H hne
      rw [List.getElem_map] at H hne
      have hXj := hX l[j] (List.getElem_mem hjl)
      have ih' := ih (j + 1) (timesL prod l[j].f0 1 0) ((below * (l[i].f0 - l[j].f0)) % 251) (by omega) (by rw [timesL_length]; omega) (timesL_num _ _ _ _) (num_mod _) hne H
      have h2 := l2_eq l out i j below prod hi hjl (by omega) (by omega) hXj.1 hXi.1 hb prod [] [] 0 rfl rfl hn rfl ih'
      refine From.more (From.step h2 fun k hk => ?_) (show K + 1 + 20 * d + prod.length + 1 + 1 ≤ K + 1 + 20 * (d + 1) by omega)
      rw [verditerref08_through.l1, if_pos (by omega), if_neg (by omega), wrap_id (a := (prod.length : Int) + 1) (by omega) (by omega), if_pos (by omega), if_pos (by omega), show ((prod.length : Int) + 1).toNat = prod.length + 1 by omega, List.replicate_succ]
      rfl

theorem l3_eq (l : List S43) (i : Nat) (prod : List Int) (fac : Int) (hl : l.length ≤ 12) (hi : i < l.length) (hf : num fac = true) (hpl : prod.length ≤ 100) {K : Nat} {R : List Int} : ∀ (ro rp D c1 : List Int), prod = c1 ++ rp → D.length = c1.length → ro.length = rp.length → (∀ n ∈ rp, num n = true) → (∀ n ∈ ro, num n = true) →
    From K (fun k => verditerref08_through.l0 k l (D ++ List.zipWith (fun a b => (a + fac * b) % 251) ro rp) ((i + 1 : Nat) : Int)) R →
    From (K + rp.length + 1) (fun k => verditerref08_through.l3 k l (D ++ ro) (i : Int) prod fac (c1.length : Int)) R := by
  intro ro rp
  have hf' := num_iff.1 hf
  induction rp generalizing ro with
  | nil =>
    intro D c1 hp hD hlen hn hm H
    have e : ro = [] := List.length_eq_zero_iff.1 (by simpa using hlen)
    subst e
    refine From.step H fun k hk => ?_
    rw [verditerref08_through.l3, if_neg (by rw [hp]; simp), wrap_succ i (by omega)]
    rfl
  | cons n rp ih =>
    intro D c1 hp hD hlen hn hm H
    obtain ⟨o, ro, rfl⟩ : ∃ o ro', ro = o :: ro' := by cases ro with
      | nil => simp at hlen
      | cons o ro' => exact ⟨o, ro', rfl⟩
    have hn' := num_iff.1 (hn n (by simp))
    have ho' := num_iff.1 (hm o (by simp))
    have h1 := mul_range hf'.1 hf'.2 hn'.1 hn'.2
    have hlenp : prod.length = c1.length + (rp.length + 1) := by rw [hp]; simp
    have ih' := ih ro (D ++ [(o + fac * n) % 251]) (c1 ++ [n]) (by rw [hp]; simp) (by simp [hD]) (by simpa using hlen) (fun m h => hn m (by simp [h])) (fun m h => hm m (by simp [h])) (by
      have e : D ++ [(o + fac * n) % 251] ++ List.zipWith (fun a b => (a + fac * b) % 251) ro rp = D ++ List.zipWith (fun a b => (a + fac * b) % 251) (o :: ro) (n :: rp) := by simp
      rw [e]; exact H)
    refine From.step (From.more ih' (show K + rp.length + 1 ≤ K + (n :: rp).length by simp; omega)) fun k hk => ?_
    have hr : rd prod (c1.length : Int) = n := by rw [hp]; exact rd_at c1 n rp rfl
    have hDl : (c1.length : Int) = (D.length : Int) := by rw [hD]
    rw [verditerref08_through.l3, if_pos (by omega), if_pos (by omega), if_pos (by simp; omega), hr, rd_at D o ro hDl, wrap_id (a := fac * n) (by omega) (by omega), wrap_id (a := o + fac * n) (by omega) (by omega), mod_eq, Option.bind_some, set_at D o _ ro hDl, wrap_id (a := (c1.length : Int) + 1) (by omega) (by omega)]
    rw [show ((c1.length : Int) + 1) = (((c1 ++ [n]).length : Nat) : Int) by simp]
    simp

/-! ### All points -/
def belI (p : List (Int × Int)) (i : Nat) : Int := belowR (p.getD i (0, 0)).1 ((p.map Prod.fst).eraseIdx i) 1
def proI (p : List (Int × Int)) (i : Nat) : List Int := basisR ((p.map Prod.fst).eraseIdx i) [1]
def facI (p : List (Int × Int)) (i : Nat) : Int := ((p.getD i (0, 0)).2 * invI (belI p i)) % 251
def thrTo (p : List (Int × Int)) : Nat → List Int
  | 0 => List.replicate p.length 0
  | m + 1 => List.zipWith (fun a b => (a + facI p m * b) % 251) (thrTo p m) (proI p m)
theorem proI_length (p : List (Int × Int)) {i : Nat} (hi : i < p.length) : (proI p i).length = p.length := by
  unfold proI
  rw [basisR_length, List.length_eraseIdx, List.length_map, if_pos hi]
  simp; omega
theorem proI_num (p : List (Int × Int)) (i : Nat) : ∀ n ∈ proI p i, num n = true := basisR_num _ _ (by intro n hn; simp at hn; subst hn; rfl)
theorem thrTo_length (p : List (Int × Int)) : ∀ m, m ≤ p.length → (thrTo p m).length = p.length
  | 0, _ => by simp [thrTo]
  | m + 1, h => by rw [thrTo, List.length_zipWith, thrTo_length p m (by omega), proI_length p (by omega)]; omega
theorem thrTo_num (p : List (Int × Int)) : ∀ m, ∀ n ∈ thrTo p m, num n = true
  | 0 => by
    intro n hn
    simp [thrTo] at hn
    rw [hn.2]; rfl
  | m + 1 => by
    intro n hn
    rw [thrTo, List.mem_iff_getElem] at hn
    obtain ⟨i, hi, rfl⟩ := hn
    rw [List.getElem_zipWith]
    exact num_mod _
theorem bel_ne (xi : Int) : ∀ (others : List Int) (b : Int), cst b ≠ 0 → (∀ xj ∈ others, cst xi - cst xj ≠ 0) → cst (belowR xi others b) ≠ 0
  | [], b, hb, _ => hb
  | x :: others, b, hb, h => by
    refine bel_ne xi others ((b * (xi - x)) % 251) ?_ (fun xj hj => h xj (List.mem_cons_of_mem _ hj))
    rw [cst_mod, cst_mul, cst_sub]
    intro e
    exact h x (by simp) (nzd _ _ e hb)
theorem good_ne {p : List (Int × Int)} (h : good p) {i : Nat} (hi : i < p.length) : ∀ xj ∈ (p.map Prod.fst).eraseIdx i, cst (p.getD i (0, 0)).1 - cst xj ≠ 0 := by
  intro xj hm
  obtain ⟨j, hj, hne, rfl⟩ := List.mem_eraseIdx_iff_getElem.1 hm
  rw [List.length_map] at hj
  rw [getD_get _ _ hi]
  refine cst_ne (h.1 _ (List.getElem_mem hi)).1 (by rw [List.getElem_map]; exact (h.1 _ (List.getElem_mem hj)).1) fun e => hne ?_
  have h2 := h.2
  rw [List.Nodup, List.pairwise_iff_getElem] at h2
  rcases Nat.lt_trichotomy i j with hlt | heq | hgt
  · exact absurd (by rw [List.getElem_map, List.getElem_map]; simpa using e) (h2 i j (by simpa using hi) (by simpa using hj) hlt)
  · exact heq.symm
  · exact absurd (by rw [List.getElem_map, List.getElem_map]; simpa using e.symm) (h2 j i (by simpa using hj) (by simpa using hi) hgt)
theorem ev_basisR_zero (x : Fin 251) : ∀ (others c : List Int), (∃ xj ∈ others, cst xj = x) ∨ ev (c.map cst) x = 0 → ev ((basisR others c).map cst) x = 0
  | [], c, h => by
    rcases h with ⟨_, h, _⟩ | h
    · simp at h
    · exact h
  | y :: others, c, h => by
    refine ev_basisR_zero x others (timesL c y 1 0) ?_
    rcases h with ⟨xj, hm, he⟩ | h
    · rcases List.mem_cons.1 hm with rfl | hm
      · right
        rw [ev_timesL, ← he, cst_zero]; grind
      · exact .inl ⟨xj, hm, he⟩
    · right
      rw [ev_timesL, h, cst_zero]; grind
theorem ev_basisR_own (xi : Int) (t : Fin 251) : ∀ (others c : List Int) (b : Int), ev (c.map cst) (cst xi) = t * cst b → ev ((basisR others c).map cst) (cst xi) = t * cst (belowR xi others b)
  | [], c, b, h => h
  | y :: others, c, b, h => by
    refine ev_basisR_own xi t others (timesL c y 1 0) ((b * (xi - y)) % 251) ?_
    rw [ev_timesL, cst_zero, cst_one, h, cst_mod, cst_mul, cst_sub]; grind
theorem ev_thrTo {p : List (Int × Int)} (h : good p) {j : Nat} (hj : j < p.length) : ∀ m, m ≤ p.length → ev ((thrTo p m).map cst) (cst (p.getD j (0, 0)).1) = if j < m then cst (p.getD j (0, 0)).2 else 0
  | 0, _ => by
    rw [if_neg (by omega)]
    exact ev_zeros _ _
  | m + 1, hm => by
    rw [thrTo, ev_zip _ 1 (cst (facI p m)) (fun a b => by rw [cst_mod, cst_add, cst_mul]; grind) _ _ _ (by rw [thrTo_length p m (by omega), proI_length p (by omega)]), ev_thrTo h hj m (by omega)]
    by_cases e : j = m
    · subst e
      rw [if_neg (by omega), if_pos (by omega)]
      have h1 := ev_basisR_own (p.getD j (0, 0)).1 1 ((p.map Prod.fst).eraseIdx j) [1] 1 (by simp only [List.map_cons, List.map_nil, ev, cst_one]; grind)
      have h2 : cst (belI p j) ≠ 0 := bel_ne _ _ 1 (by decide) (good_ne h hj)
      have h3 := inv_mul (belI p j) h2
      rw [show ev ((proI p j).map cst) (cst (p.getD j (0, 0)).1) = 1 * cst (belI p j) from h1]
      unfold facI
      rw [cst_mod, cst_mul]
      generalize cst (invI (belI p j)) = a at *
      generalize cst (belI p j) = b at *
      generalize cst (p.getD j (0, 0)).2 = y at *
      grind
    · have h1 : ev ((proI p m).map cst) (cst (p.getD j (0, 0)).1) = 0 := by
        refine ev_basisR_zero _ _ _ (.inl ⟨(p.getD j (0, 0)).1, ?_, rfl⟩)
        refine List.mem_eraseIdx_iff_getElem.2 ⟨j, by simpa using hj, e, ?_⟩
        rw [List.getElem_map, getD_get _ _ hj]
      rw [h1]
      by_cases hlt : j < m
      · rw [if_pos hlt, if_pos (by omega)]; grind
      · rw [if_neg hlt, if_neg (by omega)]; grind
theorem thr_interp {p : List (Int × Int)} (h : good p) : thrTo p p.length = interp p := by
  refine interp_uniq h (thrTo_length p _ (Nat.le_refl _)) (thrTo_num p _) fun q hq => ?_
  obtain ⟨j, hj, rfl⟩ := List.mem_iff_getElem.1 hq
  symm
  refine atI_eq (h.1 _ hq).2 ?_
  have := ev_thrTo h hj p.length (Nat.le_refl _)
  rw [if_pos hj, getD_get _ _ hj] at this
  exact this.symm

theorem l0_eq (l : List S43) (hl : l.length ≤ 12) (hg : good (pts l)) : ∀ (d m : Nat), m + d = l.length → From (251 + 1 + 500 * d) (fun k => verditerref08_through.l0 k l (thrTo (pts l) m) (m : Int)) (thrTo (pts l) l.length) := by
  have hX : ∀ p ∈ l, num p.f0 = true ∧ num p.f1 = true := fun p hp => hg.1 (p.f0, p.f1) (mem_pts hp)
  have hpm : (pts l).map Prod.fst = l.map S43.f0 := by unfold pts; rw [List.map_map]; rfl
  intro d
  induction d with
  | zero =>
    intro m hm k hk
    obtain ⟨k, rfl⟩ : ∃ j, k = j + 1 := ⟨k - 1, by omega⟩
    have e : m = l.length := by omega
    subst e
    show verditerref08_through.l0 (k + 1) l _ _ = _
    rw [verditerref08_through.l0, if_neg (by omega)]
  | succ d ih =>
    intro m hm
    have hml : m < l.length := by omega
    have hmp : m < (pts l).length := by rw [pts_length]; exact hml
    have hfst : ((pts l).getD m (0, 0)).1 = l[m].f0 := by rw [getD_get _ _ hmp]; simp [pts]
    have hsnd : ((pts l).getD m (0, 0)).2 = l[m].f1 := by rw [getD_get _ _ hmp]; simp [pts]
    have hbel : belowR l[m].f0 (oth (l.map S43.f0) m 0) 1 = belI (pts l) m := by unfold belI; rw [hfst, hpm, oth_zero]
    have hpro : basisR (oth (l.map S43.f0) m 0) [1] = proI (pts l) m := by unfold proI; rw [hpm, oth_zero]
    have hne : belI (pts l) m ≠ 0 := by
      intro e
      have h2 : cst (belI (pts l) m) ≠ 0 := bel_ne _ _ 1 (by decide) (good_ne hg hmp)
      rw [e] at h2
      exact h2 rfl
    have hpl := proI_length (pts l) hmp
    rw [pts_length] at hpl
    have htl := thrTo_length (pts l) m (by rw [pts_length]; omega)
    rw [pts_length] at htl
    have h3 := l3_eq l m (proI (pts l) m) (facI (pts l) m) hl hml (num_mod _) (by omega) (thrTo (pts l) m) (proI (pts l) m) [] [] rfl rfl (by omega) (proI_num _ _) (thrTo_num _ _) (ih (m + 1) (by omega))
    have h1 := l1_eq l (thrTo (pts l) m) m hml hl hX (show 251 ≤ 251 + 1 + 500 * d + (proI (pts l) m).length + 1 by omega) (R := thrTo (pts l) l.length) l.length 0 [1] 1 (by omega) (by simp) (by intro n hn; simp at hn; subst hn; rfl) rfl (by rw [hbel]; exact hne) (by
      rw [hbel, hpro]
      have e : facI (pts l) m = (l[m].f1 * invI (belI (pts l) m)) % 251 := by unfold facI; rw [hsnd]
      rw [← e]
      exact h3)
    refine From.more (From.step h1 fun k hk => ?_) (show 251 + 1 + 500 * d + (proI (pts l) m).length + 1 + 1 + 20 * l.length + 1 ≤ 251 + 1 + 500 * (d + 1) by omega)
    rw [verditerref08_through.l0, if_pos (by omega)]
    rfl
theorem through_eq (l : List S43) (hl : l.length ≤ 12) (hg : good (pts l)) (k : Nat) (hk : 7000 ≤ k) : verditerref08_through.f k l = some (interp (pts l)) := by
  rw [verditerref08_through.f, if_pos (by omega), if_pos (by omega), Int.toNat_natCast]
  have h := l0_eq l hl hg l.length 0 (by omega) k (by omega)
  have e := thr_interp hg
  rw [pts_length] at e
  rw [e] at h
  have e2 : thrTo (pts l) 0 = List.replicate l.length 0 := by rw [thrTo, pts_length]
  rw [← e2]
  exact h
end Go.Proofs.Ythlbjdiicmojfaa.P

/-! Part PF66. -/
-- Written for this claim by wip/print_more.py (a session's program that runs the kit's printer with hand-proved functions beside). Lean checks it.
namespace Go.Proofs.Ythlbjdiicmojfaa.P
open Go.RowKit Go.Proofs.YthlbjdiicmojfaaW.PrintWords Go.Proofs.YthlbjdiicmojfaaW.PrintLast Go.Proofs.YthlbjdiicmojfaaW.PrintMore
attribute [local go_sem] max2_int min2_int max_two min_two max_three min_three max_four min_four   -- for this text's walks alone
set_option linter.unusedVariables false
set_option linter.unusedSimpArgs false

/-! ### verditerref08_Validate: function 66 -/
mutual
def verditerref08_Validate.l0 : Nat → List (S43) → Int → Option (Int)
  | 0, _, _ => none
  | k + 1, x0, x3 => if x3 < (x0.length : Int) then (if 0 ≤ x3 then ((verditerref08_within.f ((rd_T43 x0 x3).f0) 1 250).bind fun t175 => (if t175 = true then ((verditerref08_isNumber.f ((rd_T43 x0 x3).f1)).bind fun t177 => (if t177 = true then (verditerref08_Validate.l0 k x0 (wrap64 (x3 + 1))) else (some 1))) else (some 1))) else (none)) else (verditerref08_Validate.l1 k x0 0)
def verditerref08_Validate.l1 : Nat → List (S43) → Int → Option (Int)
  | 0, _, _ => none
  | k + 1, x0, x4 => if x4 < (x0.length : Int) then (verditerref08_Validate.l2 k x0 x4 0) else (some 0)
def verditerref08_Validate.l2 : Nat → List (S43) → Int → Int → Option (Int)
  | 0, _, _, _ => none
  | k + 1, x0, x4, x5 => if x5 < x4 then (if 0 ≤ x4 then (if x4 < (x0.length : Int) then (if 0 ≤ x5 then (if x5 < (x0.length : Int) then (if ((rd_T43 x0 x4).f0) = ((rd_T43 x0 x5).f0) then (some 6) else (verditerref08_Validate.l2 k x0 x4 (wrap64 (x5 + 1)))) else (none)) else (none)) else (none)) else (none)) else (verditerref08_Validate.l1 k x0 (wrap64 (x4 + 1)))
end
def verditerref08_Validate.f (k : Nat) (l0 : List (S43)) : Option (Int) := if (l0.length : Int) > 12 then (some 3) else (verditerref08_Validate.l0 k l0 0)
theorem verditerref08_Validate.mono_l : ∀ k, (∀ y0 y1, LeO (verditerref08_Validate.l0 k y0 y1) (verditerref08_Validate.l0 (k + 1) y0 y1)) ∧ (∀ y0 y1, LeO (verditerref08_Validate.l1 k y0 y1) (verditerref08_Validate.l1 (k + 1) y0 y1)) ∧ (∀ y0 y1 y2, LeO (verditerref08_Validate.l2 k y0 y1 y2) (verditerref08_Validate.l2 (k + 1) y0 y1 y2))
  | 0 => ⟨fun _ _ r h => by simp [verditerref08_Validate.l0] at h, fun _ _ r h => by simp [verditerref08_Validate.l1] at h, fun _ _ _ r h => by simp [verditerref08_Validate.l2] at h⟩
  | k + 1 => by
    obtain ⟨ih0, ih1, ih2⟩ := verditerref08_Validate.mono_l k
    refine ⟨?_, ?_, ?_⟩
    · intro y0 y1
      unfold verditerref08_Validate.l0
      repeat' first
      | (with_reducible exact ih0 _ _)
      | (with_reducible exact ih1 _ _)
      | (with_reducible exact ih2 _ _ _)
      | (with_reducible exact LeO.refl _)
      | (with_reducible exact LeO.none _)
      | (with_reducible refine LeO.ite ?_ ?_)
      | (with_reducible refine LeO.bind ?_ (fun _ => ?_))
      | exact ih0 _ _
      | exact ih1 _ _
      | exact ih2 _ _ _
      | exact LeO.none _
      | refine LeO.ite ?_ ?_
      | refine LeO.bind ?_ (fun _ => ?_)
    · intro y0 y1
      unfold verditerref08_Validate.l1
      repeat' first
      | (with_reducible exact ih0 _ _)
      | (with_reducible exact ih1 _ _)
      | (with_reducible exact ih2 _ _ _)
      | (with_reducible exact LeO.refl _)
      | (with_reducible exact LeO.none _)
      | (with_reducible refine LeO.ite ?_ ?_)
      | (with_reducible refine LeO.bind ?_ (fun _ => ?_))
      | exact ih0 _ _
      | exact ih1 _ _
      | exact ih2 _ _ _
      | exact LeO.none _
      | refine LeO.ite ?_ ?_
      | refine LeO.bind ?_ (fun _ => ?_)
    · intro y0 y1 y2
      unfold verditerref08_Validate.l2
      repeat' first
      | (with_reducible exact ih0 _ _)
      | (with_reducible exact ih1 _ _)
      | (with_reducible exact ih2 _ _ _)
      | (with_reducible exact LeO.refl _)
      | (with_reducible exact LeO.none _)
      | (with_reducible refine LeO.ite ?_ ?_)
      | (with_reducible refine LeO.bind ?_ (fun _ => ?_))
      | exact ih0 _ _
      | exact ih1 _ _
      | exact ih2 _ _ _
      | exact LeO.none _
      | refine LeO.ite ?_ ?_
      | refine LeO.bind ?_ (fun _ => ?_)
theorem verditerref08_Validate.mono : ∀ a0 k, LeO (verditerref08_Validate.f k a0) (verditerref08_Validate.f (k + 1) a0) := by
  intro a0 k
  obtain ⟨ih0, ih1, ih2⟩ := verditerref08_Validate.mono_l k
  unfold verditerref08_Validate.f
  repeat' first
      | (with_reducible exact ih0 _ _)
      | (with_reducible exact ih1 _ _)
      | (with_reducible exact ih2 _ _ _)
      | (with_reducible exact LeO.refl _)
      | (with_reducible exact LeO.none _)
      | (with_reducible refine LeO.ite ?_ ?_)
      | (with_reducible refine LeO.bind ?_ (fun _ => ?_))
      | exact ih0 _ _
      | exact ih1 _ _
      | exact ih2 _ _ _
      | exact LeO.none _
      | refine LeO.ite ?_ ?_
      | refine LeO.bind ?_ (fun _ => ?_)
set_option maxHeartbeats 8000000 in
set_option maxRecDepth 100000 in
theorem verditerref08_Validate.calls (k : Nat) (A0 : Option Addr) (c0 : Nat) (l0 : List (S43)) (r : Int) (w : World) (hr0 : Kd.C k43 w A0 l0.length l0) (hc0 : l0.length ≤ c0) (h : verditerref08_Validate.f k l0 = some r) :
    Calls Try.prog 66 #[.slice A0 l0.length c0] w fun e w' => e = .returned (.int .i64 r) ∧ Drawn0 w w' := by
  have HR0 := Aside0.mk hr0
  have HC0 := Aside0.mk hc0
  clear hr0 hc0
  have H : (if (l0.length : Int) > 12 then (some 3) else (verditerref08_Validate.l0 k l0 0)) = some r := h
  clear h
  by_cases c2 : (l0.length : Int) > 12
  · rw [if_pos c2] at H
    have c2b0 : decide (12 < (l0.length : Int)) = true := decide_eq_true c2
    have c2b1 : decide (12 < l0.length) = true := decide_eq_true (by omega)
    clear c2
    obtain rfl := Option.some.inj H
    go_enter Try.func66, Try.ntmps66
    go_wp2
    repeat (go_quiet (fail); try go_wp2)
    go_ret
    exact ⟨by first | rfl | (simp; done) | (simp [*]; done), by repeat (first | exact Drawn0.refl _ | apply Drawn0.step)⟩
  · rw [if_neg c2] at H
    have c2b0 : decide (12 < (l0.length : Int)) = false := decide_eq_false c2
    have c2b1 : decide (12 < l0.length) = false := decide_eq_false (by omega)
    clear c2
    have H' := Aside0.mk H
    clear H
    go_enter Try.func66, Try.ntmps66
    go_wp2
    repeat (go_quiet (fail); try go_wp2)
    go_loopg [3] k (fun kq v3 w' => ∃ (x3_1 : Int), v3 = .int .i64 x3_1 ∧ Aside0 (verditerref08_Validate.l0 kq l0 x3_1 = some r) ∧ Aside0 (kq ≤ k) ∧ Drawn0 w w')
    case atStart => exact ⟨(0), (by first | rfl | (simp; done) | (simp [*]; done)), H', ⟨Nat.le_refl _⟩, by repeat (first | exact Drawn0.refl _ | apply Drawn0.step)⟩
    case round =>
      clear H'
      try clear c2
      try clear c2b0
      try clear c2b1
      try clear p2
      obtain ⟨x3_1, rfl, HA, HK1, ⟨m1, rfl⟩⟩ := hrel
      cases gk with
      | zero => exact absurd HA.out (by simp [verditerref08_Validate.l0])
      | succ k1 =>
        have H := HA.out
        clear HA
        simp only [verditerref08_Validate.l0] at H
        by_cases c3 : x3_1 < (l0.length : Int)
        · rw [if_pos c3] at H
          have c3b0 : decide (x3_1 < (l0.length : Int)) = true := decide_eq_true c3
          clear c3
          by_cases c4 : 0 ≤ x3_1
          · rw [if_pos c4] at H
            have c4b0 : decide (0 ≤ x3_1) = true := decide_eq_true c4
            clear c4
            replace H := Option.bind_eq_some_iff.mp H
            obtain ⟨t175, A50, H⟩ := H
            replace H : (if t175 = true then ((verditerref08_isNumber.f ((rd_T43 l0 x3_1).f1)).bind fun t177 => (if t177 = true then (verditerref08_Validate.l0 k1 l0 (wrap64 (x3_1 + 1))) else (some 1))) else (some 1)) = some r := H
            have A5 := Aside0.mk A50
            clear A50
            by_cases c6 : t175 = true
            · subst c6
              have H1 : ((verditerref08_isNumber.f ((rd_T43 l0 x3_1).f1)).bind fun t177 => (if t177 = true then (verditerref08_Validate.l0 k1 l0 (wrap64 (x3_1 + 1))) else (some 1))) = some r := by rw [if_pos rfl] at H; exact H
              clear H
              have H := H1
              clear H1
              replace H := Option.bind_eq_some_iff.mp H
              obtain ⟨t177, A70, H⟩ := H
              replace H : (if t177 = true then (verditerref08_Validate.l0 k1 l0 (wrap64 (x3_1 + 1))) else (some 1)) = some r := H
              have A7 := Aside0.mk A70
              clear A70
              by_cases c8 : t177 = true
              · subst c8
                have H1 : (verditerref08_Validate.l0 k1 l0 (wrap64 (x3_1 + 1))) = some r := by rw [if_pos rfl] at H; exact H
                clear H
                have H := H1
                clear H1
                have H' := Aside0.mk H
                clear H
                have p174 : 0 ≤ (x3_1 : Int) := of_decide_eq_true (by first | (with_reducible assumption) | assumption)
                have q174 : x3_1 < (l0.length : Int) := of_decide_eq_true (by first | (with_reducible assumption) | assumption)
                obtain ⟨ad174, e174, hx174_0, hx174_1⟩ := at_T43 HR0.out x3_1 p174 q174
                cases e174
                replace p174 := eq_true p174
                replace q174 := eq_true q174
                go_wp2_with (first | (go_at_call 83; (with_reducible refine (verditerref08_within.calls ((rd_T43 l0 x3_1).f0) 1 250 true _ A5.out).mono ?_); rintro e w' ⟨rfl, ⟨nd, rfl⟩⟩; (try first | exact ⟨rfl, _, World.drewN_drewN _ _ _⟩ | exact ⟨rfl, _, Eq.trans (World.drewN_drewN _ _ _) (congrArg (World.drewN _) (Nat.add_assoc _ _ _))⟩); have p176 : 0 ≤ (x3_1 : Int) := of_decide_eq_true (by first | (with_reducible assumption) | assumption); have q176 : x3_1 < (l0.length : Int) := of_decide_eq_true (by first | (with_reducible assumption) | assumption); obtain ⟨ad176, e176, hx176_0, hx176_1⟩ := at_T43 HR0.out x3_1 p176 q176; obtain rfl : ad174 = ad176 := (by injection e176); replace p176 := eq_true p176; replace q176 := eq_true q176) | (go_at_call 75; (with_reducible refine (verditerref08_isNumber.calls ((rd_T43 l0 x3_1).f1) true _ A7.out).mono ?_); rintro e w' ⟨rfl, ⟨nd, rfl⟩⟩; (try first | exact ⟨rfl, _, World.drewN_drewN _ _ _⟩ | exact ⟨rfl, _, Eq.trans (World.drewN_drewN _ _ _) (congrArg (World.drewN _) (Nat.add_assoc _ _ _))⟩)))
                repeat (go_quiet (first | (go_at_call 83; (with_reducible refine (verditerref08_within.calls ((rd_T43 l0 x3_1).f0) 1 250 true _ A5.out).mono ?_); rintro e w' ⟨rfl, ⟨nd, rfl⟩⟩; (try first | exact ⟨rfl, _, World.drewN_drewN _ _ _⟩ | exact ⟨rfl, _, Eq.trans (World.drewN_drewN _ _ _) (congrArg (World.drewN _) (Nat.add_assoc _ _ _))⟩); have p176 : 0 ≤ (x3_1 : Int) := of_decide_eq_true (by first | (with_reducible assumption) | assumption); have q176 : x3_1 < (l0.length : Int) := of_decide_eq_true (by first | (with_reducible assumption) | assumption); obtain ⟨ad176, e176, hx176_0, hx176_1⟩ := at_T43 HR0.out x3_1 p176 q176; obtain rfl : ad174 = ad176 := (by injection e176); replace p176 := eq_true p176; replace q176 := eq_true q176) | (go_at_call 75; (with_reducible refine (verditerref08_isNumber.calls ((rd_T43 l0 x3_1).f1) true _ A7.out).mono ?_); rintro e w' ⟨rfl, ⟨nd, rfl⟩⟩; (try first | exact ⟨rfl, _, World.drewN_drewN _ _ _⟩ | exact ⟨rfl, _, Eq.trans (World.drewN_drewN _ _ _) (congrArg (World.drewN _) (Nat.add_assoc _ _ _))⟩))); try go_wp2_with (first | (go_at_call 83; (with_reducible refine (verditerref08_within.calls ((rd_T43 l0 x3_1).f0) 1 250 true _ A5.out).mono ?_); rintro e w' ⟨rfl, ⟨nd, rfl⟩⟩; (try first | exact ⟨rfl, _, World.drewN_drewN _ _ _⟩ | exact ⟨rfl, _, Eq.trans (World.drewN_drewN _ _ _) (congrArg (World.drewN _) (Nat.add_assoc _ _ _))⟩); have p176 : 0 ≤ (x3_1 : Int) := of_decide_eq_true (by first | (with_reducible assumption) | assumption); have q176 : x3_1 < (l0.length : Int) := of_decide_eq_true (by first | (with_reducible assumption) | assumption); obtain ⟨ad176, e176, hx176_0, hx176_1⟩ := at_T43 HR0.out x3_1 p176 q176; obtain rfl : ad174 = ad176 := (by injection e176); replace p176 := eq_true p176; replace q176 := eq_true q176) | (go_at_call 75; (with_reducible refine (verditerref08_isNumber.calls ((rd_T43 l0 x3_1).f1) true _ A7.out).mono ?_); rintro e w' ⟨rfl, ⟨nd, rfl⟩⟩; (try first | exact ⟨rfl, _, World.drewN_drewN _ _ _⟩ | exact ⟨rfl, _, Eq.trans (World.drewN_drewN _ _ _) (congrArg (World.drewN _) (Nat.add_assoc _ _ _))⟩))))
                go_roundg k1
                case measure => have := HK1.out; omega
                case rel => exact ⟨(wrap64 (x3_1 + 1)), (by first | rfl | (simp; done) | (simp [*]; done)), H', ⟨by have := HK1.out; omega⟩, by repeat (first | exact Drawn0.refl _ | apply Drawn0.step)⟩
              · replace c8 := Bool.eq_false_iff.mpr c8
                subst c8
                have H1 : (some 1) = some r := by rw [if_neg (show ¬ (false = true) by decide)] at H; exact H
                clear H
                have H := H1
                clear H1
                obtain rfl := Option.some.inj H
                have p174 : 0 ≤ (x3_1 : Int) := of_decide_eq_true (by first | (with_reducible assumption) | assumption)
                have q174 : x3_1 < (l0.length : Int) := of_decide_eq_true (by first | (with_reducible assumption) | assumption)
                obtain ⟨ad174, e174, hx174_0, hx174_1⟩ := at_T43 HR0.out x3_1 p174 q174
                cases e174
                replace p174 := eq_true p174
                replace q174 := eq_true q174
                go_wp2_with (first | (go_at_call 83; (with_reducible refine (verditerref08_within.calls ((rd_T43 l0 x3_1).f0) 1 250 true _ A5.out).mono ?_); rintro e w' ⟨rfl, ⟨nd, rfl⟩⟩; (try first | exact ⟨rfl, _, World.drewN_drewN _ _ _⟩ | exact ⟨rfl, _, Eq.trans (World.drewN_drewN _ _ _) (congrArg (World.drewN _) (Nat.add_assoc _ _ _))⟩); have p176 : 0 ≤ (x3_1 : Int) := of_decide_eq_true (by first | (with_reducible assumption) | assumption); have q176 : x3_1 < (l0.length : Int) := of_decide_eq_true (by first | (with_reducible assumption) | assumption); obtain ⟨ad176, e176, hx176_0, hx176_1⟩ := at_T43 HR0.out x3_1 p176 q176; obtain rfl : ad174 = ad176 := (by injection e176); replace p176 := eq_true p176; replace q176 := eq_true q176) | (go_at_call 75; (with_reducible refine (verditerref08_isNumber.calls ((rd_T43 l0 x3_1).f1) false _ A7.out).mono ?_); rintro e w' ⟨rfl, ⟨nd, rfl⟩⟩; (try first | exact ⟨rfl, _, World.drewN_drewN _ _ _⟩ | exact ⟨rfl, _, Eq.trans (World.drewN_drewN _ _ _) (congrArg (World.drewN _) (Nat.add_assoc _ _ _))⟩)))
                repeat (go_quiet (first | (go_at_call 83; (with_reducible refine (verditerref08_within.calls ((rd_T43 l0 x3_1).f0) 1 250 true _ A5.out).mono ?_); rintro e w' ⟨rfl, ⟨nd, rfl⟩⟩; (try first | exact ⟨rfl, _, World.drewN_drewN _ _ _⟩ | exact ⟨rfl, _, Eq.trans (World.drewN_drewN _ _ _) (congrArg (World.drewN _) (Nat.add_assoc _ _ _))⟩); have p176 : 0 ≤ (x3_1 : Int) := of_decide_eq_true (by first | (with_reducible assumption) | assumption); have q176 : x3_1 < (l0.length : Int) := of_decide_eq_true (by first | (with_reducible assumption) | assumption); obtain ⟨ad176, e176, hx176_0, hx176_1⟩ := at_T43 HR0.out x3_1 p176 q176; obtain rfl : ad174 = ad176 := (by injection e176); replace p176 := eq_true p176; replace q176 := eq_true q176) | (go_at_call 75; (with_reducible refine (verditerref08_isNumber.calls ((rd_T43 l0 x3_1).f1) false _ A7.out).mono ?_); rintro e w' ⟨rfl, ⟨nd, rfl⟩⟩; (try first | exact ⟨rfl, _, World.drewN_drewN _ _ _⟩ | exact ⟨rfl, _, Eq.trans (World.drewN_drewN _ _ _) (congrArg (World.drewN _) (Nat.add_assoc _ _ _))⟩))); try go_wp2_with (first | (go_at_call 83; (with_reducible refine (verditerref08_within.calls ((rd_T43 l0 x3_1).f0) 1 250 true _ A5.out).mono ?_); rintro e w' ⟨rfl, ⟨nd, rfl⟩⟩; (try first | exact ⟨rfl, _, World.drewN_drewN _ _ _⟩ | exact ⟨rfl, _, Eq.trans (World.drewN_drewN _ _ _) (congrArg (World.drewN _) (Nat.add_assoc _ _ _))⟩); have p176 : 0 ≤ (x3_1 : Int) := of_decide_eq_true (by first | (with_reducible assumption) | assumption); have q176 : x3_1 < (l0.length : Int) := of_decide_eq_true (by first | (with_reducible assumption) | assumption); obtain ⟨ad176, e176, hx176_0, hx176_1⟩ := at_T43 HR0.out x3_1 p176 q176; obtain rfl : ad174 = ad176 := (by injection e176); replace p176 := eq_true p176; replace q176 := eq_true q176) | (go_at_call 75; (with_reducible refine (verditerref08_isNumber.calls ((rd_T43 l0 x3_1).f1) false _ A7.out).mono ?_); rintro e w' ⟨rfl, ⟨nd, rfl⟩⟩; (try first | exact ⟨rfl, _, World.drewN_drewN _ _ _⟩ | exact ⟨rfl, _, Eq.trans (World.drewN_drewN _ _ _) (congrArg (World.drewN _) (Nat.add_assoc _ _ _))⟩))))
                go_ret
                exact ⟨by first | rfl | (simp; done) | (simp [*]; done), by repeat (first | exact Drawn0.refl _ | apply Drawn0.step)⟩
            · replace c6 := Bool.eq_false_iff.mpr c6
              subst c6
              have H1 : (some 1) = some r := by rw [if_neg (show ¬ (false = true) by decide)] at H; exact H
              clear H
              have H := H1
              clear H1
              obtain rfl := Option.some.inj H
              have p174 : 0 ≤ (x3_1 : Int) := of_decide_eq_true (by first | (with_reducible assumption) | assumption)
              have q174 : x3_1 < (l0.length : Int) := of_decide_eq_true (by first | (with_reducible assumption) | assumption)
              obtain ⟨ad174, e174, hx174_0, hx174_1⟩ := at_T43 HR0.out x3_1 p174 q174
              cases e174
              replace p174 := eq_true p174
              replace q174 := eq_true q174
              go_wp2_with (first | (go_at_call 83; (with_reducible refine (verditerref08_within.calls ((rd_T43 l0 x3_1).f0) 1 250 false _ A5.out).mono ?_); rintro e w' ⟨rfl, ⟨nd, rfl⟩⟩; (try first | exact ⟨rfl, _, World.drewN_drewN _ _ _⟩ | exact ⟨rfl, _, Eq.trans (World.drewN_drewN _ _ _) (congrArg (World.drewN _) (Nat.add_assoc _ _ _))⟩)))
              repeat (go_quiet (first | (go_at_call 83; (with_reducible refine (verditerref08_within.calls ((rd_T43 l0 x3_1).f0) 1 250 false _ A5.out).mono ?_); rintro e w' ⟨rfl, ⟨nd, rfl⟩⟩; (try first | exact ⟨rfl, _, World.drewN_drewN _ _ _⟩ | exact ⟨rfl, _, Eq.trans (World.drewN_drewN _ _ _) (congrArg (World.drewN _) (Nat.add_assoc _ _ _))⟩))); try go_wp2_with (first | (go_at_call 83; (with_reducible refine (verditerref08_within.calls ((rd_T43 l0 x3_1).f0) 1 250 false _ A5.out).mono ?_); rintro e w' ⟨rfl, ⟨nd, rfl⟩⟩; (try first | exact ⟨rfl, _, World.drewN_drewN _ _ _⟩ | exact ⟨rfl, _, Eq.trans (World.drewN_drewN _ _ _) (congrArg (World.drewN _) (Nat.add_assoc _ _ _))⟩))))
              go_ret
              exact ⟨by first | rfl | (simp; done) | (simp [*]; done), by repeat (first | exact Drawn0.refl _ | apply Drawn0.step)⟩
          · rw [if_neg c4] at H
            exact absurd H (by simp)
        · rw [if_neg c3] at H
          have c3b0 : decide (x3_1 < (l0.length : Int)) = false := decide_eq_false c3
          clear c3
          have H' := Aside0.mk H
          clear H
          go_wp2
          repeat (go_quiet (fail); try go_wp2)
          go_loopg [4] k1 (fun kq v4 w' => ∃ (x4_2 : Int), v4 = .int .i64 x4_2 ∧ Aside0 (verditerref08_Validate.l1 kq l0 x4_2 = some r) ∧ Aside0 (kq ≤ k1) ∧ Drawn0 w w')
          case atStart => exact ⟨(0), (by first | rfl | (simp; done) | (simp [*]; done)), H', ⟨Nat.le_refl _⟩, by repeat (first | exact Drawn0.refl _ | apply Drawn0.step)⟩
          case round =>
            clear H'
            try clear p1
            try clear q1
            try clear hx1
            try clear c2
            try clear c2b0
            try clear c2b1
            try clear p2
            try clear c3
            try clear c3b0
            try clear c4
            try clear c4b0
            try clear c6
            try clear p6
            try clear c8
            try clear hx174_0
            try clear hx174_1
            try clear hx176_0
            try clear hx176_1
            try clear p174
            try clear p176
            try clear p2
            try clear q174
            try clear q176
            obtain ⟨x4_2, rfl, HA, HK2, ⟨m2, rfl⟩⟩ := hrel
            cases gk with
            | zero => exact absurd HA.out (by simp [verditerref08_Validate.l1])
            | succ k2 =>
              have H := HA.out
              clear HA
              simp only [verditerref08_Validate.l1] at H
              by_cases c9 : x4_2 < (l0.length : Int)
              · rw [if_pos c9] at H
                have c9b0 : decide (x4_2 < (l0.length : Int)) = true := decide_eq_true c9
                clear c9
                have H' := Aside0.mk H
                clear H
                go_wp2
                repeat (go_quiet (fail); try go_wp2)
                go_loopg [5] k2 (fun kq v5 w' => ∃ (x5_3 : Int), v5 = .int .i64 x5_3 ∧ Aside0 (verditerref08_Validate.l2 kq l0 x4_2 x5_3 = some r) ∧ Aside0 (kq ≤ k2) ∧ Drawn0 w w')
                case atStart => exact ⟨(0), (by first | rfl | (simp; done) | (simp [*]; done)), H', ⟨Nat.le_refl _⟩, by repeat (first | exact Drawn0.refl _ | apply Drawn0.step)⟩
                case round =>
                  clear H'
                  try clear p1
                  try clear q1
                  try clear hx1
                  try clear c2
                  try clear c2b0
                  try clear c2b1
                  try clear p2
                  try clear c3
                  try clear c3b0
                  try clear c4
                  try clear c4b0
                  try clear c6
                  try clear p6
                  try clear c8
                  try clear c9
                  try clear c9b0
                  try clear hx174_0
                  try clear hx174_1
                  try clear hx176_0
                  try clear hx176_1
                  try clear p1
                  try clear p174
                  try clear p176
                  try clear p2
                  try clear p6
                  try clear q1
                  try clear q174
                  try clear q176
                  obtain ⟨x5_3, rfl, HA, HK3, ⟨m3, rfl⟩⟩ := hrel
                  cases gk with
                  | zero => exact absurd HA.out (by simp [verditerref08_Validate.l2])
                  | succ k3 =>
                    have H := HA.out
                    clear HA
                    simp only [verditerref08_Validate.l2] at H
                    by_cases c10 : x5_3 < x4_2
                    · rw [if_pos c10] at H
                      have c10b0 : decide (x5_3 < x4_2) = true := decide_eq_true c10
                      clear c10
                      by_cases c11 : 0 ≤ x4_2
                      · rw [if_pos c11] at H
                        have c11b0 : decide (0 ≤ x4_2) = true := decide_eq_true c11
                        clear c11
                        by_cases c12 : x4_2 < (l0.length : Int)
                        · rw [if_pos c12] at H
                          have c12b0 : decide (x4_2 < (l0.length : Int)) = true := decide_eq_true c12
                          clear c12
                          by_cases c13 : 0 ≤ x5_3
                          · rw [if_pos c13] at H
                            have c13b0 : decide (0 ≤ x5_3) = true := decide_eq_true c13
                            clear c13
                            by_cases c14 : x5_3 < (l0.length : Int)
                            · rw [if_pos c14] at H
                              have c14b0 : decide (x5_3 < (l0.length : Int)) = true := decide_eq_true c14
                              clear c14
                              by_cases c15 : ((rd_T43 l0 x4_2).f0) = ((rd_T43 l0 x5_3).f0)
                              · rw [if_pos c15] at H
                                have c15b0 : (((rd_T43 l0 x4_2).f0) == ((rd_T43 l0 x5_3).f0)) = true := beq_iff_eq.mpr c15
                                have c15b1 : (((rd_T43 l0 x4_2).f0) != ((rd_T43 l0 x5_3).f0)) = false := bne_eq_false_iff_eq.mpr c15
                                clear c15
                                obtain rfl := Option.some.inj H
                                have p178 : 0 ≤ (x4_2 : Int) := of_decide_eq_true (by first | (with_reducible assumption) | assumption)
                                have q178 : x4_2 < (l0.length : Int) := of_decide_eq_true (by first | (with_reducible assumption) | assumption)
                                obtain ⟨ad178, e178, hx178_0, hx178_1⟩ := at_T43 HR0.out x4_2 p178 q178
                                cases e178
                                replace p178 := eq_true p178
                                replace q178 := eq_true q178
                                have p179 : 0 ≤ (x5_3 : Int) := of_decide_eq_true (by first | (with_reducible assumption) | assumption)
                                have q179 : x5_3 < (l0.length : Int) := of_decide_eq_true (by first | (with_reducible assumption) | assumption)
                                obtain ⟨ad179, e179, hx179_0, hx179_1⟩ := at_T43 HR0.out x5_3 p179 q179
                                obtain rfl : ad178 = ad179 := (by injection e179)
                                replace p179 := eq_true p179
                                replace q179 := eq_true q179
                                go_wp2
                                repeat (go_quiet (fail); try go_wp2)
                                go_ret
                                exact ⟨by first | rfl | (simp; done) | (simp [*]; done), by repeat (first | exact Drawn0.refl _ | apply Drawn0.step)⟩
                              · rw [if_neg c15] at H
                                have c15b0 : (((rd_T43 l0 x4_2).f0) == ((rd_T43 l0 x5_3).f0)) = false := beq_eq_false_iff_ne.mpr c15
                                have c15b1 : (((rd_T43 l0 x4_2).f0) != ((rd_T43 l0 x5_3).f0)) = true := bne_iff_ne.mpr c15
                                have H' := Aside0.mk H
                                clear H
                                have p178 : 0 ≤ (x4_2 : Int) := of_decide_eq_true (by first | (with_reducible assumption) | assumption)
                                have q178 : x4_2 < (l0.length : Int) := of_decide_eq_true (by first | (with_reducible assumption) | assumption)
                                obtain ⟨ad178, e178, hx178_0, hx178_1⟩ := at_T43 HR0.out x4_2 p178 q178
                                cases e178
                                replace p178 := eq_true p178
                                replace q178 := eq_true q178
                                have p179 : 0 ≤ (x5_3 : Int) := of_decide_eq_true (by first | (with_reducible assumption) | assumption)
                                have q179 : x5_3 < (l0.length : Int) := of_decide_eq_true (by first | (with_reducible assumption) | assumption)
                                obtain ⟨ad179, e179, hx179_0, hx179_1⟩ := at_T43 HR0.out x5_3 p179 q179
                                obtain rfl : ad178 = ad179 := (by injection e179)
                                replace p179 := eq_true p179
                                replace q179 := eq_true q179
                                go_wp2
                                repeat (go_quiet (fail); try go_wp2)
                                go_roundg k3
                                case measure => have := HK1.out; have := HK2.out; have := HK3.out; omega
                                case rel => exact ⟨(wrap64 (x5_3 + 1)), (by first | rfl | (simp; done) | (simp [*]; done)), H', ⟨by have := HK1.out; have := HK2.out; have := HK3.out; omega⟩, by repeat (first | exact Drawn0.refl _ | apply Drawn0.step)⟩
                            · rw [if_neg c14] at H
                              exact absurd H (by simp)
                          · rw [if_neg c13] at H
                            exact absurd H (by simp)
                        · rw [if_neg c12] at H
                          exact absurd H (by simp)
                      · rw [if_neg c11] at H
                        exact absurd H (by simp)
                    · rw [if_neg c10] at H
                      have c10b0 : decide (x5_3 < x4_2) = false := decide_eq_false c10
                      clear c10
                      have H' := Aside0.mk H
                      clear H
                      go_wp2
                      repeat (go_quiet (fail); try go_wp2)
                      go_roundg k3
                      case measure => have := HK1.out; have := HK2.out; have := HK3.out; omega
                      case rel => exact ⟨(wrap64 (x4_2 + 1)), (by first | rfl | (simp; done) | (simp [*]; done)), H', ⟨by have := HK1.out; have := HK2.out; have := HK3.out; omega⟩, by repeat (first | exact Drawn0.refl _ | apply Drawn0.step)⟩
              · rw [if_neg c9] at H
                have c9b0 : decide (x4_2 < (l0.length : Int)) = false := decide_eq_false c9
                clear c9
                obtain rfl := Option.some.inj H
                go_wp2
                repeat (go_quiet (fail); try go_wp2)
                go_ret
                exact ⟨by first | rfl | (simp; done) | (simp [*]; done), by repeat (first | exact Drawn0.refl _ | apply Drawn0.step)⟩

end Go.Proofs.Ythlbjdiicmojfaa.P

/-! Part Rval. -/
namespace Go.Proofs.Ythlbjdiicmojfaa.P
open Go.RowKit Go.Proofs.YthlbjdiicmojfaaW.PrintWords Go.Proofs.YthlbjdiicmojfaaW.PrintLast Go.Proofs.YthlbjdiicmojfaaW.PrintMore
set_option linter.unusedVariables false

/-- Twice the same place: the reference tells 6, from i on, where a pair lies at or behind i. -/
theorem rval_l2 (l : List S43) (hl : l.length ≤ 12) (i : Nat) (hi : i < l.length) (R : Int) (K : Nat) (H : ∀ k, K ≤ k → verditerref08_Validate.l1 k l ((i + 1 : Nat) : Int) = some R) :
    ∀ (d j : Nat), j + d = i → ∀ k, K + d + 1 ≤ k → ((∃ m, ∃ h : m < l.length, j ≤ m ∧ m < i ∧ l[m].f0 = l[i].f0) → verditerref08_Validate.l2 k l (i : Int) (j : Int) = some 6) ∧ ((¬ ∃ m, ∃ h : m < l.length, j ≤ m ∧ m < i ∧ l[m].f0 = l[i].f0) → verditerref08_Validate.l2 k l (i : Int) (j : Int) = some R) := by
  intro d
  induction d with
  | zero =>
    intro j hj k hk
    obtain ⟨k, rfl⟩ : ∃ j, k = j + 1 := ⟨k - 1, by omega⟩
    refine ⟨fun ⟨m, _, h1, h2, _⟩ => by omega, fun _ => ?_⟩
    rw [verditerref08_Validate.l2, if_neg (by omega), wrap_succ i (by omega)]
    exact H k (by omega)
  | succ d ih =>
    intro j hj k hk
    obtain ⟨k, rfl⟩ : ∃ j, k = j + 1 := ⟨k - 1, by omega⟩
    have ih' := ih (j + 1) (by omega) k (by omega)
    rw [verditerref08_Validate.l2, if_pos (by omega), if_pos (by omega), if_pos (by omega), if_pos (by omega), if_pos (by omega), rdT_get l i hi, rdT_get l j (by omega)]
    by_cases e : l[i].f0 = l[j].f0
    · rw [if_pos e]
      exact ⟨fun _ => rfl, fun h => absurd ⟨j, by omega, Nat.le_refl _, by omega, e.symm⟩ h⟩
    · rw [if_neg e, wrap_succ j (by omega)]
      refine ⟨fun ⟨m, hm, h1, h2, h3⟩ => ih'.1 ⟨m, hm, ?_, h2, h3⟩, fun h => ih'.2 fun ⟨m, hm, h1, h2, h3⟩ => h ⟨m, hm, by omega, h2, h3⟩⟩
      rcases Nat.eq_or_lt_of_le h1 with rfl | h
      · exact absurd h3.symm e
      · omega
theorem rval_l1 (l : List S43) (hl : l.length ≤ 12) : ∀ (d i : Nat), i + d = l.length → ∀ k, 20 * d + 1 ≤ k →
    ((∃ n m, ∃ h : n < l.length, ∃ h' : m < l.length, i ≤ n ∧ m < n ∧ l[m].f0 = l[n].f0) → verditerref08_Validate.l1 k l (i : Int) = some 6) ∧
    ((¬ ∃ n m, ∃ h : n < l.length, ∃ h' : m < l.length, i ≤ n ∧ m < n ∧ l[m].f0 = l[n].f0) → verditerref08_Validate.l1 k l (i : Int) = some 0) := by
  intro d
  induction d with
  | zero =>
    intro i hi k hk
    obtain ⟨k, rfl⟩ : ∃ j, k = j + 1 := ⟨k - 1, by omega⟩
    refine ⟨fun ⟨n, m, h, _, h1, _⟩ => by omega, fun _ => ?_⟩
    rw [verditerref08_Validate.l1, if_neg (by omega)]
  | succ d ih =>
    intro i hi k hk
    obtain ⟨k, rfl⟩ : ∃ j, k = j + 1 := ⟨k - 1, by omega⟩
    have hil : i < l.length := by omega
    rw [verditerref08_Validate.l1, if_pos (by omega)]
    by_cases hex : ∃ n m, ∃ h : n < l.length, ∃ h' : m < l.length, i + 1 ≤ n ∧ m < n ∧ l[m].f0 = l[n].f0
    · have h2 := rval_l2 l hl i hil 6 (20 * d + 1) (fun k hk => (ih (i + 1) (by omega) k hk).1 hex) i 0 (by omega) k (by omega)
      refine ⟨fun _ => ?_, fun h => absurd (by obtain ⟨n, m, h, h', h1, h2⟩ := hex; exact ⟨n, m, h, h', by omega, h2⟩) h⟩
      by_cases hh : ∃ m, ∃ h : m < l.length, 0 ≤ m ∧ m < i ∧ l[m].f0 = l[i].f0
      · exact h2.1 hh
      · exact h2.2 hh
    · have h2 := rval_l2 l hl i hil 0 (20 * d + 1) (fun k hk => (ih (i + 1) (by omega) k hk).2 hex) i 0 (by omega) k (by omega)
      refine ⟨fun ⟨n, m, h, h', h1, h3, h4⟩ => ?_, fun h => ?_⟩
      · rcases Nat.eq_or_lt_of_le h1 with rfl | hlt
        · exact h2.1 ⟨m, h', Nat.zero_le _, h3, h4⟩
        · exact absurd ⟨n, m, h, h', by omega, h3, h4⟩ hex
      · exact h2.2 fun ⟨m, hm, _, h3, h4⟩ => h ⟨i, m, hil, hm, Nat.le_refl _, h3, h4⟩
theorem rval_l0 (l : List S43) (hl : l.length ≤ 12) (R : Int) (K : Nat) (H : ∀ k, K ≤ k → verditerref08_Validate.l1 k l 0 = some R) : ∀ (d i : Nat), i + d = l.length → ∀ k, K + d + 1 ≤ k →
    verditerref08_Validate.l0 k l (i : Int) = some (if (l.drop i).all okP = true then R else 1) := by
  intro d
  induction d with
  | zero =>
    intro i hi k hk
    obtain ⟨k, rfl⟩ : ∃ j, k = j + 1 := ⟨k - 1, by omega⟩
    rw [verditerref08_Validate.l0, if_neg (by omega), List.drop_of_length_le (by omega), H k (by omega)]; rfl
  | succ d ih =>
    intro i hi k hk
    obtain ⟨k, rfl⟩ : ∃ j, k = j + 1 := ⟨k - 1, by omega⟩
    have hil : i < l.length := by omega
    rw [verditerref08_Validate.l0, if_pos (by omega), if_pos (by omega), rdT_get l i hil, rwithin_eq, Option.bind_some, risNumber_eq, List.drop_eq_getElem_cons hil, List.all_cons]
    have he : okP l[i] = ((decide (1 ≤ l[i].f0) && decide (l[i].f0 ≤ 250)) && num l[i].f1) := rfl
    rw [he]
    cases h1 : (decide (1 ≤ l[i].f0) && decide (l[i].f0 ≤ 250)) with
    | false => rfl
    | true =>
      rw [if_pos rfl, Option.bind_some]
      cases h2 : num l[i].f1 with
      | false => rfl
      | true =>
        rw [if_pos rfl, wrap_succ i (by omega), ih (i + 1) (by omega) k (by omega)]; rfl
theorem rval_eq (l : List S43) (k : Nat) (hk : 300 ≤ k) : verditerref08_Validate.f k l = some (valid l) := by
  rw [verditerref08_Validate.f]
  unfold valid
  by_cases hl : 12 < l.length
  · rw [if_pos (by omega), if_pos hl]
  · rw [if_neg (by omega), if_neg hl]
    have hnd : (l.map S43.f0).Nodup ↔ ¬ ∃ n m, ∃ h : n < l.length, ∃ h' : m < l.length, 0 ≤ n ∧ m < n ∧ l[m].f0 = l[n].f0 := by
      rw [List.Nodup, List.pairwise_iff_getElem]
      constructor
      · intro h ⟨n, m, hn, hm, _, hlt, e⟩
        exact h m n (by simpa using hm) (by simpa using hn) hlt (by rw [List.getElem_map, List.getElem_map]; exact e)
      · intro h i j hi hj hlt e
        rw [List.getElem_map, List.getElem_map] at e
        exact h ⟨j, i, by simpa using hj, by simpa using hi, Nat.zero_le _, hlt, e⟩
    have h1 : ∀ k, 20 * l.length + 1 ≤ k → verditerref08_Validate.l1 k l 0 = some (if (l.map S43.f0).Nodup then 0 else 6) := by
      intro k hk
      have := rval_l1 l (by omega) l.length 0 (by omega) k hk
      by_cases hh : (l.map S43.f0).Nodup
      · rw [if_pos hh]; exact this.2 (hnd.1 hh)
      · rw [if_neg hh]
        refine this.1 ?_
        by_cases e : ∃ n m, ∃ h : n < l.length, ∃ h' : m < l.length, 0 ≤ n ∧ m < n ∧ l[m].f0 = l[n].f0
        · exact e
        · exact absurd (hnd.2 e) hh
    have h0 := rval_l0 l (by omega) _ _ h1 l.length 0 (by omega) k (by omega)
    rw [List.drop_zero] at h0
    exact h0
end Go.Proofs.Ythlbjdiicmojfaa.P

/-! Part Known. -/
namespace Go.Proofs.Ythlbjdiicmojfaa.P
open Go.RowKit Go.Proofs.YthlbjdiicmojfaaW.PrintWords Go.Proofs.YthlbjdiicmojfaaW.PrintLast Go.Proofs.YthlbjdiicmojfaaW.PrintMore
set_option linter.unusedVariables false
set_option maxRecDepth 100000
theorem known_ten : verditerlaw08_known.f 20 = some true := by decide +kernel
theorem known_eq (k : Nat) (hk : 20 ≤ k) : verditerlaw08_known.f k = some true := at_rounds (g := verditerlaw08_known.f) verditerlaw08_known.mono hk known_ten
end Go.Proofs.Ythlbjdiicmojfaa.P

/-! Part PF44. -/
-- Written for this claim by wip/print_more.py (a session's program that runs the kit's printer with hand-proved functions beside). Lean checks it.
namespace Go.Proofs.Ythlbjdiicmojfaa.P
open Go.RowKit Go.Proofs.YthlbjdiicmojfaaW.PrintWords Go.Proofs.YthlbjdiicmojfaaW.PrintLast Go.Proofs.YthlbjdiicmojfaaW.PrintMore
attribute [local go_sem] max2_int min2_int max_two min_two max_three min_three max_four min_four   -- for this text's walks alone
set_option linter.unusedVariables false
set_option linter.unusedSimpArgs false

/-! ### secret_At: function 44 -/
def secret_At.f (l0 : List Int) (a1 : Int) : Option (Int × Int) := (secret_isCurve.f l0).bind fun t220 => (if t220 = 0 then ((secret_isNumber.f a1).bind fun t221 => (if t221 = true then ((secret_curve_at.f l0 a1).bind fun t222 => (some (t222, 0))) else (some (0, 1)))) else (some (0, t220)))
set_option maxHeartbeats 8000000 in
set_option maxRecDepth 100000 in
theorem secret_At.calls (A0 : Option Addr) (c0 : Nat) (l0 : List Int) (a1 : Int) (r1 : Int) (r2 : Int) (w : World) (hr0 : Kd.C (Kd.int .i64) w A0 l0.length l0) (hc0 : l0.length ≤ c0) (h : secret_At.f l0 a1 = some (r1, r2)) :
    Calls Try.prog 44 #[.slice A0 l0.length c0, .int .i64 a1] w fun e w' => e = .returned (.tuple #[.int .i64 r1, .int .i64 r2]) ∧ Below w.heap.size w w' := by
  have HR0 := Aside0.mk hr0
  have HC0 := Aside0.mk hc0
  clear hr0 hc0
  have HB := Aside0.mk (Below.refl w.heap.size w)
  have H : ((secret_isCurve.f l0).bind fun t220 => (if t220 = 0 then ((secret_isNumber.f a1).bind fun t221 => (if t221 = true then ((secret_curve_at.f l0 a1).bind fun t222 => (some (t222, 0))) else (some (0, 1)))) else (some (0, t220)))) = some (r1, r2) := h
  clear h
  replace H := Option.bind_eq_some_iff.mp H
  obtain ⟨t220, A30, H⟩ := H
  replace H : (if t220 = 0 then ((secret_isNumber.f a1).bind fun t221 => (if t221 = true then ((secret_curve_at.f l0 a1).bind fun t222 => (some (t222, 0))) else (some (0, 1)))) else (some (0, t220))) = some (r1, r2) := H
  have A3 := Aside0.mk A30
  clear A30
  by_cases c4 : t220 = 0
  · rw [if_pos c4] at H
    have c4b0 : (t220 == 0) = true := beq_iff_eq.mpr c4
    have c4b1 : (t220 != 0) = false := bne_eq_false_iff_eq.mpr c4
    clear c4
    replace H := Option.bind_eq_some_iff.mp H
    obtain ⟨t221, A50, H⟩ := H
    replace H : (if t221 = true then ((secret_curve_at.f l0 a1).bind fun t222 => (some (t222, 0))) else (some (0, 1))) = some (r1, r2) := H
    have A5 := Aside0.mk A50
    clear A50
    by_cases c6 : t221 = true
    · subst c6
      have H1 : ((secret_curve_at.f l0 a1).bind fun t222 => (some (t222, 0))) = some (r1, r2) := by rw [if_pos rfl] at H; exact H
      clear H
      have H := H1
      clear H1
      replace H := Option.bind_eq_some_iff.mp H
      obtain ⟨t222, A70, H⟩ := H
      replace H : (some (t222, 0)) = some (r1, r2) := H
      have A7 := Aside0.mk A70
      clear A70
      simp only [Option.some.injEq, Prod.mk.injEq] at H
      obtain ⟨rfl, rfl⟩ := H
      go_enter Try.func44, Try.ntmps44
      go_wp2_with (first | ((with_reducible refine gate_callee (f := 79) rfl ?_); refine goesL_ (some 8) rfl rfl Try.func79 (by kernel_rfl) rfl #[.slice A0 l0.length c0] rfl (by (try simp only [List.map_toArray, List.map_cons, List.map_nil]); first | done | rfl | (simp only [List.length_drop, List.length_take]; rfl)) ?_; (with_reducible refine (secret_isCurve.calls _ _ l0 t220 _ ?side1 ?side2 A3.out).mono ?_); (case side1 => repeat (first | exact HR0.out | (with_reducible refine Kd.C_alloc ?_ _) | (with_reducible refine Kd.C_drewN ?_ _) | (with_reducible refine Kd.C_drew ?_))); (case side2 => exact HC0.out); rintro e w8 ⟨rfl, hb⟩; refine ⟨_, rfl, ?_⟩; have n0_ := Aside0.mk (below_step (by repeat (first | (with_reducible first | exact HB.out | apply below_alloc | apply pw_below_drewN | apply below_drew1) | exact HB.out)) hb); clear HB; have HB := n0_; clear n0_; (try clear hb); (try clear hb2); (try clear hk); (try clear hi)) | ((with_reducible refine gate_callee (f := 77) rfl ?_); refine goesL_ (some 13) rfl rfl Try.func77 (by kernel_rfl) rfl #[.int .i64 a1] rfl (by (try simp only [List.map_toArray, List.map_cons, List.map_nil]); first | done | rfl | (simp only [List.length_drop, List.length_take]; rfl)) ?_; (with_reducible refine (secret_isNumber.calls a1 true _ A5.out).mono ?_); rintro e w' ⟨rfl, ⟨nd, rfl⟩⟩; refine ⟨_, rfl, ?_⟩) | ((with_reducible refine gate_callee (f := 80) rfl ?_); refine goesL_ (some 17) rfl rfl Try.func80 (by kernel_rfl) rfl #[.slice A0 l0.length c0, .int .i64 a1] rfl (by (try simp only [List.map_toArray, List.map_cons, List.map_nil]); first | done | rfl | (simp only [List.length_drop, List.length_take]; rfl)) ?_; (with_reducible refine (secret_curve_at.calls _ _ l0 a1 t222 _ ?side1 ?side2 A7.out).mono ?_); (case side1 => repeat (first | exact (Kd.C_below HR0.out (by repeat (first | (with_reducible first | exact HB.out | apply below_alloc | apply pw_below_drewN | apply below_drew1) | exact HB.out))) | (with_reducible refine Kd.C_alloc ?_ _) | (with_reducible refine Kd.C_drewN ?_ _) | (with_reducible refine Kd.C_drew ?_))); (case side2 => exact HC0.out); rintro e w9 ⟨rfl, hb⟩; refine ⟨_, rfl, ?_⟩; have n0_ := Aside0.mk (below_step (by repeat (first | (with_reducible first | exact HB.out | apply below_alloc | apply pw_below_drewN | apply below_drew1) | exact HB.out)) hb); clear HB; have HB := n0_; clear n0_; (try clear hb); (try clear hb2); (try clear hk); (try clear hi)))
      go_ret2
      exact ⟨by first | rfl | (simp [errW_none, errW_some] <;> rfl) | (simp [*, errW_none, errW_some] <;> rfl), by repeat (first | (with_reducible first | exact HB.out | apply below_alloc | apply pw_below_drewN | apply below_drew1) | exact HB.out)⟩
    · replace c6 := Bool.eq_false_iff.mpr c6
      subst c6
      have H1 : (some (0, 1)) = some (r1, r2) := by rw [if_neg (show ¬ (false = true) by decide)] at H; exact H
      clear H
      have H := H1
      clear H1
      simp only [Option.some.injEq, Prod.mk.injEq] at H
      obtain ⟨rfl, rfl⟩ := H
      go_enter Try.func44, Try.ntmps44
      go_wp2_with (first | ((with_reducible refine gate_callee (f := 79) rfl ?_); refine goesL_ (some 8) rfl rfl Try.func79 (by kernel_rfl) rfl #[.slice A0 l0.length c0] rfl (by (try simp only [List.map_toArray, List.map_cons, List.map_nil]); first | done | rfl | (simp only [List.length_drop, List.length_take]; rfl)) ?_; (with_reducible refine (secret_isCurve.calls _ _ l0 t220 _ ?side1 ?side2 A3.out).mono ?_); (case side1 => repeat (first | exact HR0.out | (with_reducible refine Kd.C_alloc ?_ _) | (with_reducible refine Kd.C_drewN ?_ _) | (with_reducible refine Kd.C_drew ?_))); (case side2 => exact HC0.out); rintro e w10 ⟨rfl, hb⟩; refine ⟨_, rfl, ?_⟩; have n0_ := Aside0.mk (below_step (by repeat (first | (with_reducible first | exact HB.out | apply below_alloc | apply pw_below_drewN | apply below_drew1) | exact HB.out)) hb); clear HB; have HB := n0_; clear n0_; (try clear hb); (try clear hb2); (try clear hk); (try clear hi)) | ((with_reducible refine gate_callee (f := 77) rfl ?_); refine goesL_ (some 13) rfl rfl Try.func77 (by kernel_rfl) rfl #[.int .i64 a1] rfl (by (try simp only [List.map_toArray, List.map_cons, List.map_nil]); first | done | rfl | (simp only [List.length_drop, List.length_take]; rfl)) ?_; (with_reducible refine (secret_isNumber.calls a1 false _ A5.out).mono ?_); rintro e w' ⟨rfl, ⟨nd, rfl⟩⟩; refine ⟨_, rfl, ?_⟩))
      go_ret2
      exact ⟨by first | rfl | (simp [errW_none, errW_some] <;> rfl) | (simp [*, errW_none, errW_some] <;> rfl), by repeat (first | (with_reducible first | exact HB.out | apply below_alloc | apply pw_below_drewN | apply below_drew1) | exact HB.out)⟩
  · rw [if_neg c4] at H
    have c4b0 : (t220 == 0) = false := beq_eq_false_iff_ne.mpr c4
    have c4b1 : (t220 != 0) = true := bne_iff_ne.mpr c4
    simp only [Option.some.injEq, Prod.mk.injEq] at H
    obtain ⟨rfl, rfl⟩ := H
    go_enter Try.func44, Try.ntmps44
    go_wp2_with (first | ((with_reducible refine gate_callee (f := 79) rfl ?_); refine goesL_ (some 8) rfl rfl Try.func79 (by kernel_rfl) rfl #[.slice A0 l0.length c0] rfl (by (try simp only [List.map_toArray, List.map_cons, List.map_nil]); first | done | rfl | (simp only [List.length_drop, List.length_take]; rfl)) ?_; (with_reducible refine (secret_isCurve.calls _ _ l0 t220 _ ?side1 ?side2 A3.out).mono ?_); (case side1 => repeat (first | exact HR0.out | (with_reducible refine Kd.C_alloc ?_ _) | (with_reducible refine Kd.C_drewN ?_ _) | (with_reducible refine Kd.C_drew ?_))); (case side2 => exact HC0.out); rintro e w11 ⟨rfl, hb⟩; refine ⟨_, rfl, ?_⟩; have n0_ := Aside0.mk (below_step (by repeat (first | (with_reducible first | exact HB.out | apply below_alloc | apply pw_below_drewN | apply below_drew1) | exact HB.out)) hb); clear HB; have HB := n0_; clear n0_; (try clear hb); (try clear hb2); (try clear hk); (try clear hi)))
    go_ret2
    exact ⟨by first | rfl | (simp [errW_none, errW_some] <;> rfl) | (simp [*, errW_none, errW_some] <;> rfl), by repeat (first | (with_reducible first | exact HB.out | apply below_alloc | apply pw_below_drewN | apply below_drew1) | exact HB.out)⟩

end Go.Proofs.Ythlbjdiicmojfaa.P

/-! Part PF63. -/
-- Written for this claim by wip/print_more.py (a session's program that runs the kit's printer with hand-proved functions beside). Lean checks it.
namespace Go.Proofs.Ythlbjdiicmojfaa.P
open Go.RowKit Go.Proofs.YthlbjdiicmojfaaW.PrintWords Go.Proofs.YthlbjdiicmojfaaW.PrintLast Go.Proofs.YthlbjdiicmojfaaW.PrintMore
attribute [local go_sem] max2_int min2_int max_two min_two max_three min_three max_four min_four   -- for this text's walks alone
set_option linter.unusedVariables false
set_option linter.unusedSimpArgs false

/-! ### verditerref08_Curve: function 63 -/
def verditerref08_Curve.f (k : Nat) (l0 : List (S43)) : Option (List Int × Int) := (verditerref08_Validate.f k l0).bind fun t265 => (if t265 = 0 then (if (l0.length : Int) = 0 then (some (([] : List Int), 4)) else (if (l0.length : Int) > 6 then (some (([] : List Int), 3)) else ((verditerref08_through.f k l0).bind fun t266 => (some (t266, 0))))) else (some (([] : List Int), t265)))
theorem verditerref08_Curve.mono : ∀ a0 k, LeO (verditerref08_Curve.f k a0) (verditerref08_Curve.f (k + 1) a0) := by
  intro a0 k
  unfold verditerref08_Curve.f
  repeat' first
      | (with_reducible exact verditerref08_Validate.mono _ _)
      | (with_reducible exact verditerref08_through.mono _ _)
      | (with_reducible exact LeO.refl _)
      | (with_reducible exact LeO.none _)
      | (with_reducible refine LeO.ite ?_ ?_)
      | (with_reducible refine LeO.bind ?_ (fun _ => ?_))
      | exact verditerref08_Validate.mono _ _
      | exact verditerref08_through.mono _ _
      | exact LeO.none _
      | refine LeO.ite ?_ ?_
      | refine LeO.bind ?_ (fun _ => ?_)
set_option maxHeartbeats 8000000 in
set_option maxRecDepth 100000 in
theorem verditerref08_Curve.calls (k : Nat) (A0 : Option Addr) (c0 : Nat) (l0 : List (S43)) (r1 : List Int) (r2 : Int) (w : World) (hr0 : Kd.C k43 w A0 l0.length l0) (hc0 : l0.length ≤ c0) (h : verditerref08_Curve.f k l0 = some (r1, r2)) :
    Calls Try.prog 63 #[.slice A0 l0.length c0] w fun e w' => ∃ v0_ : Value, e = .returned (.tuple #[v0_, .int .i64 r2]) ∧ Kd.R (Kd.int .i64) 3 w' w.heap.size (fun _ => True) v0_ r1 ∧ Below w.heap.size w w' := by
  have HR0 := Aside0.mk hr0
  have HC0 := Aside0.mk hc0
  clear hr0 hc0
  have HB := Aside0.mk (Below.refl w.heap.size w)
  have H : ((verditerref08_Validate.f k l0).bind fun t265 => (if t265 = 0 then (if (l0.length : Int) = 0 then (some (([] : List Int), 4)) else (if (l0.length : Int) > 6 then (some (([] : List Int), 3)) else ((verditerref08_through.f k l0).bind fun t266 => (some (t266, 0))))) else (some (([] : List Int), t265)))) = some (r1, r2) := h
  clear h
  replace H := Option.bind_eq_some_iff.mp H
  obtain ⟨t265, A20, H⟩ := H
  replace H : (if t265 = 0 then (if (l0.length : Int) = 0 then (some (([] : List Int), 4)) else (if (l0.length : Int) > 6 then (some (([] : List Int), 3)) else ((verditerref08_through.f k l0).bind fun t266 => (some (t266, 0))))) else (some (([] : List Int), t265))) = some (r1, r2) := H
  have A2 := Aside0.mk A20
  clear A20
  by_cases c3 : t265 = 0
  · rw [if_pos c3] at H
    have c3b0 : (t265 == 0) = true := beq_iff_eq.mpr c3
    have c3b1 : (t265 != 0) = false := bne_eq_false_iff_eq.mpr c3
    clear c3
    by_cases c4 : (l0.length : Int) = 0
    · rw [if_pos c4] at H
      have c4b0 : ((l0.length : Int) == 0) = true := beq_iff_eq.mpr c4
      have c4b1 : ((l0.length : Int) != 0) = false := bne_eq_false_iff_eq.mpr c4
      clear c4
      simp only [Option.some.injEq, Prod.mk.injEq] at H
      obtain ⟨rfl, rfl⟩ := H
      go_enter Try.func63, Try.ntmps63
      go_wp2_with (first | ((with_reducible refine gate_callee (f := 66) rfl ?_); refine goesL_ (some 6) rfl rfl Try.func66 (by kernel_rfl) rfl #[.slice A0 l0.length c0] rfl (by (try simp only [List.map_toArray, List.map_cons, List.map_nil]); first | done | rfl | (simp only [List.length_drop, List.length_take]; rfl)) ?_; (with_reducible refine (verditerref08_Validate.calls k _ _ l0 t265 _ ?side1 ?side2 A2.out).mono ?_); (case side1 => repeat (first | exact HR0.out | (with_reducible refine Kd.C_alloc ?_ _) | (with_reducible refine Kd.C_drewN ?_ _) | (with_reducible refine Kd.C_drew ?_))); (case side2 => exact HC0.out); rintro e w' ⟨rfl, ⟨nd, rfl⟩⟩; refine ⟨_, rfl, ?_⟩))
      go_ret2
      exact ⟨_, by first | rfl | (simp [errW_none, errW_some] <;> rfl) | (simp [*, errW_none, errW_some] <;> rfl), by first | exact Kd.R_nil _ _ _ _ _ | exact Kd.N_nil _ _ _ _ _ | exact Kd.V_nil _ _ _ _ _ | exact Kd.Q_nil _ _ _ _ _ | exact Kd.S_nil _ _ _ _ _, by repeat (first | (with_reducible first | exact HB.out | apply below_alloc | apply pw_below_drewN | apply below_drew1) | exact HB.out)⟩
    · rw [if_neg c4] at H
      have c4b0 : ((l0.length : Int) == 0) = false := beq_eq_false_iff_ne.mpr c4
      have c4b1 : ((l0.length : Int) != 0) = true := bne_iff_ne.mpr c4
      have c4b2 : ¬ (l0 = []) := fun h_ => c4 (by rw [h_]; rfl)
      by_cases c5 : (l0.length : Int) > 6
      · rw [if_pos c5] at H
        have c5b0 : decide (6 < (l0.length : Int)) = true := decide_eq_true c5
        have c5b1 : decide (6 < l0.length) = true := decide_eq_true (by omega)
        clear c5
        simp only [Option.some.injEq, Prod.mk.injEq] at H
        obtain ⟨rfl, rfl⟩ := H
        go_enter Try.func63, Try.ntmps63
        go_wp2_with (first | ((with_reducible refine gate_callee (f := 66) rfl ?_); refine goesL_ (some 6) rfl rfl Try.func66 (by kernel_rfl) rfl #[.slice A0 l0.length c0] rfl (by (try simp only [List.map_toArray, List.map_cons, List.map_nil]); first | done | rfl | (simp only [List.length_drop, List.length_take]; rfl)) ?_; (with_reducible refine (verditerref08_Validate.calls k _ _ l0 t265 _ ?side1 ?side2 A2.out).mono ?_); (case side1 => repeat (first | exact HR0.out | (with_reducible refine Kd.C_alloc ?_ _) | (with_reducible refine Kd.C_drewN ?_ _) | (with_reducible refine Kd.C_drew ?_))); (case side2 => exact HC0.out); rintro e w' ⟨rfl, ⟨nd, rfl⟩⟩; refine ⟨_, rfl, ?_⟩))
        go_ret2
        exact ⟨_, by first | rfl | (simp [errW_none, errW_some] <;> rfl) | (simp [*, errW_none, errW_some] <;> rfl), by first | exact Kd.R_nil _ _ _ _ _ | exact Kd.N_nil _ _ _ _ _ | exact Kd.V_nil _ _ _ _ _ | exact Kd.Q_nil _ _ _ _ _ | exact Kd.S_nil _ _ _ _ _, by repeat (first | (with_reducible first | exact HB.out | apply below_alloc | apply pw_below_drewN | apply below_drew1) | exact HB.out)⟩
      · rw [if_neg c5] at H
        have c5b0 : decide (6 < (l0.length : Int)) = false := decide_eq_false c5
        have c5b1 : decide (6 < l0.length) = false := decide_eq_false (by omega)
        clear c5
        replace H := Option.bind_eq_some_iff.mp H
        obtain ⟨t266, A60, H⟩ := H
        replace H : (some (t266, 0)) = some (r1, r2) := H
        have A6 := Aside0.mk A60
        clear A60
        simp only [Option.some.injEq, Prod.mk.injEq] at H
        obtain ⟨rfl, rfl⟩ := H
        go_enter Try.func63, Try.ntmps63
        go_wp2_with (first | ((with_reducible refine gate_callee (f := 66) rfl ?_); refine goesL_ (some 6) rfl rfl Try.func66 (by kernel_rfl) rfl #[.slice A0 l0.length c0] rfl (by (try simp only [List.map_toArray, List.map_cons, List.map_nil]); first | done | rfl | (simp only [List.length_drop, List.length_take]; rfl)) ?_; (with_reducible refine (verditerref08_Validate.calls k _ _ l0 t265 _ ?side1 ?side2 A2.out).mono ?_); (case side1 => repeat (first | exact HR0.out | (with_reducible refine Kd.C_alloc ?_ _) | (with_reducible refine Kd.C_drewN ?_ _) | (with_reducible refine Kd.C_drew ?_))); (case side2 => exact HC0.out); rintro e w' ⟨rfl, ⟨nd, rfl⟩⟩; refine ⟨_, rfl, ?_⟩) | ((with_reducible refine gate_callee (f := 76) rfl ?_); refine goesL_ (some 17) rfl rfl Try.func76 (by kernel_rfl) rfl #[.slice A0 l0.length c0] rfl (by (try simp only [List.map_toArray, List.map_cons, List.map_nil]); first | done | rfl | (simp only [List.length_drop, List.length_take]; rfl)) ?_; (with_reducible refine (verditerref08_through.calls k _ _ l0 t266 _ ?side1 ?side2 A6.out).mono ?_); (case side1 => repeat (first | exact HR0.out | (with_reducible refine Kd.C_alloc ?_ _) | (with_reducible refine Kd.C_drewN ?_ _) | (with_reducible refine Kd.C_drew ?_))); (case side2 => exact HC0.out); rintro e w7 ⟨v267, rfl, ho0, hb⟩; refine ⟨_, rfl, ?_⟩; have n0_ := Aside0.mk (Kd.R_lower ho0 (below_size (by repeat (first | (with_reducible first | exact HB.out | apply below_alloc | apply pw_below_drewN | apply below_drew1) | exact HB.out)))); have n1_ := Aside0.mk (below_step (by repeat (first | (with_reducible first | exact HB.out | apply below_alloc | apply pw_below_drewN | apply below_drew1) | exact HB.out)) hb); clear HB; have HO268 := n0_; have HB := n1_; clear n0_ n1_; (try clear hb); (try clear hb2); (try clear hk); (try clear hi); (try clear ho0)))
        go_ret2
        exact ⟨_, by first | rfl | (simp [errW_none, errW_some] <;> rfl) | (simp [*, errW_none, errW_some] <;> rfl), by (with_reducible repeat (first | apply Kd.R_alloc | apply Kd.R_drewN | apply Kd.R_drew)); exact HO268.out, by repeat (first | (with_reducible first | exact HB.out | apply below_alloc | apply pw_below_drewN | apply below_drew1) | exact HB.out)⟩
  · rw [if_neg c3] at H
    have c3b0 : (t265 == 0) = false := beq_eq_false_iff_ne.mpr c3
    have c3b1 : (t265 != 0) = true := bne_iff_ne.mpr c3
    simp only [Option.some.injEq, Prod.mk.injEq] at H
    obtain ⟨rfl, rfl⟩ := H
    go_enter Try.func63, Try.ntmps63
    go_wp2_with (first | ((with_reducible refine gate_callee (f := 66) rfl ?_); refine goesL_ (some 6) rfl rfl Try.func66 (by kernel_rfl) rfl #[.slice A0 l0.length c0] rfl (by (try simp only [List.map_toArray, List.map_cons, List.map_nil]); first | done | rfl | (simp only [List.length_drop, List.length_take]; rfl)) ?_; (with_reducible refine (verditerref08_Validate.calls k _ _ l0 t265 _ ?side1 ?side2 A2.out).mono ?_); (case side1 => repeat (first | exact HR0.out | (with_reducible refine Kd.C_alloc ?_ _) | (with_reducible refine Kd.C_drewN ?_ _) | (with_reducible refine Kd.C_drew ?_))); (case side2 => exact HC0.out); rintro e w' ⟨rfl, ⟨nd, rfl⟩⟩; refine ⟨_, rfl, ?_⟩))
    go_ret2
    exact ⟨_, by first | rfl | (simp [errW_none, errW_some] <;> rfl) | (simp [*, errW_none, errW_some] <;> rfl), by first | exact Kd.R_nil _ _ _ _ _ | exact Kd.N_nil _ _ _ _ _ | exact Kd.V_nil _ _ _ _ _ | exact Kd.Q_nil _ _ _ _ _ | exact Kd.S_nil _ _ _ _ _, by repeat (first | (with_reducible first | exact HB.out | apply below_alloc | apply pw_below_drewN | apply below_drew1) | exact HB.out)⟩

end Go.Proofs.Ythlbjdiicmojfaa.P

/-! Part PF64. -/
-- Written for this claim by wip/print_more.py (a session's program that runs the kit's printer with hand-proved functions beside). Lean checks it.
namespace Go.Proofs.Ythlbjdiicmojfaa.P
open Go.RowKit Go.Proofs.YthlbjdiicmojfaaW.PrintWords Go.Proofs.YthlbjdiicmojfaaW.PrintLast Go.Proofs.YthlbjdiicmojfaaW.PrintMore
attribute [local go_sem] max2_int min2_int max_two min_two max_three min_three max_four min_four   -- for this text's walks alone
set_option linter.unusedVariables false
set_option linter.unusedSimpArgs false

/-! ### verditerref08_Secret: function 64 -/
def verditerref08_Secret.f (k : Nat) (l0 : List (S43)) : Option (Int × Int) := (verditerref08_Curve.f k l0).bind fun bt470 => (if bt470.2 = 0 then (if 0 < (bt470.1.length : Int) then (some (rd bt470.1 0, 0)) else (none)) else (some (0, bt470.2)))
theorem verditerref08_Secret.mono : ∀ a0 k, LeO (verditerref08_Secret.f k a0) (verditerref08_Secret.f (k + 1) a0) := by
  intro a0 k
  unfold verditerref08_Secret.f
  repeat' first
      | (with_reducible exact verditerref08_Curve.mono _ _)
      | (with_reducible exact LeO.refl _)
      | (with_reducible exact LeO.none _)
      | (with_reducible refine LeO.ite ?_ ?_)
      | (with_reducible refine LeO.bind ?_ (fun _ => ?_))
      | exact verditerref08_Curve.mono _ _
      | exact LeO.none _
      | refine LeO.ite ?_ ?_
      | refine LeO.bind ?_ (fun _ => ?_)
set_option maxHeartbeats 8000000 in
set_option maxRecDepth 100000 in
theorem verditerref08_Secret.calls (k : Nat) (A0 : Option Addr) (c0 : Nat) (l0 : List (S43)) (r1 : Int) (r2 : Int) (w : World) (hr0 : Kd.C k43 w A0 l0.length l0) (hc0 : l0.length ≤ c0) (h : verditerref08_Secret.f k l0 = some (r1, r2)) :
    Calls Try.prog 64 #[.slice A0 l0.length c0] w fun e w' => e = .returned (.tuple #[.int .i64 r1, .int .i64 r2]) ∧ Below w.heap.size w w' := by
  have HR0 := Aside0.mk hr0
  have HC0 := Aside0.mk hc0
  clear hr0 hc0
  have HB := Aside0.mk (Below.refl w.heap.size w)
  have H : ((verditerref08_Curve.f k l0).bind fun bt470 => (if bt470.2 = 0 then (if 0 < (bt470.1.length : Int) then (some (rd bt470.1 0, 0)) else (none)) else (some (0, bt470.2)))) = some (r1, r2) := h
  clear h
  replace H := Option.bind_eq_some_iff.mp H
  obtain ⟨⟨t470, t471⟩, A20, H⟩ := H
  replace H : (if t471 = 0 then (if 0 < (t470.length : Int) then (some (rd t470 0, 0)) else (none)) else (some (0, t471))) = some (r1, r2) := H
  have A2 := Aside0.mk A20
  clear A20
  by_cases c3 : t471 = 0
  · rw [if_pos c3] at H
    have c3b0 : (t471 == 0) = true := beq_iff_eq.mpr c3
    have c3b1 : (t471 != 0) = false := bne_eq_false_iff_eq.mpr c3
    clear c3
    by_cases c4 : 0 < (t470.length : Int)
    · rw [if_pos c4] at H
      have c4b0 : decide (0 < (t470.length : Int)) = true := decide_eq_true c4
      have c4b1 : decide (0 < t470.length) = true := decide_eq_true (by omega)
      clear c4
      simp only [Option.some.injEq, Prod.mk.injEq] at H
      obtain ⟨rfl, rfl⟩ := H
      go_enter Try.func64, Try.ntmps64
      go_wp2_with (first | ((with_reducible refine gate_callee (f := 63) rfl ?_); refine goesL_ (some 8) rfl rfl Try.func63 (by kernel_rfl) rfl #[.slice A0 l0.length c0] rfl (by (try simp only [List.map_toArray, List.map_cons, List.map_nil]); first | done | rfl | (simp only [List.length_drop, List.length_take]; rfl)) ?_; (with_reducible refine (verditerref08_Curve.calls k _ _ l0 t470 t471 _ ?side1 ?side2 A2.out).mono ?_); (case side1 => repeat (first | exact HR0.out | (with_reducible refine Kd.C_alloc ?_ _) | (with_reducible refine Kd.C_drewN ?_ _) | (with_reducible refine Kd.C_drew ?_))); (case side2 => exact HC0.out); rintro e w5 ⟨v472, rfl, ho0, hb⟩; refine ⟨_, rfl, ?_⟩; have n0_ := Aside0.mk (Kd.R_lower ho0 (below_size (by repeat (first | (with_reducible first | exact HB.out | apply below_alloc | apply pw_below_drewN | apply below_drew1) | exact HB.out)))); have n1_ := Aside0.mk (below_step (by repeat (first | (with_reducible first | exact HB.out | apply below_alloc | apply pw_below_drewN | apply below_drew1) | exact HB.out)) hb); clear HB; have HO473 := n0_; have HB := n1_; clear n0_ n1_; (try clear hb); (try clear hb2); (try clear hk); (try clear hi); (try clear ho0); obtain ⟨Ao6, co6, eo6⟩ := Kd.R_slice HO473.out; subst eo6; have p474 : 0 ≤ (0 : Int) := (by omega); have q474 : 0 < (t470.length : Int) := of_decide_eq_true (by first | (with_reducible assumption) | assumption); obtain ⟨ad474, e474, hx474_0⟩ := Kd.at_int (Kd.R_reads' HO473.out).2.2 0 p474 q474; cases e474; have qi474 : (0 < t470.length) = True := eq_true (by omega); (try rw [show ((0 : Int)).toNat = 0 from rfl] at hx474_0); (try rw [Addr.add_zero'] at hx474_0); replace p474 := eq_true p474; replace q474 := eq_true q474))
      go_ret2
      exact ⟨by first | rfl | (simp [errW_none, errW_some] <;> rfl) | (simp [*, errW_none, errW_some] <;> rfl), by repeat (first | (with_reducible first | exact HB.out | apply below_alloc | apply pw_below_drewN | apply below_drew1) | exact HB.out)⟩
    · rw [if_neg c4] at H
      exact absurd H (by simp)
  · rw [if_neg c3] at H
    have c3b0 : (t471 == 0) = false := beq_eq_false_iff_ne.mpr c3
    have c3b1 : (t471 != 0) = true := bne_iff_ne.mpr c3
    simp only [Option.some.injEq, Prod.mk.injEq] at H
    obtain ⟨rfl, rfl⟩ := H
    go_enter Try.func64, Try.ntmps64
    go_wp2_with (first | ((with_reducible refine gate_callee (f := 63) rfl ?_); refine goesL_ (some 8) rfl rfl Try.func63 (by kernel_rfl) rfl #[.slice A0 l0.length c0] rfl (by (try simp only [List.map_toArray, List.map_cons, List.map_nil]); first | done | rfl | (simp only [List.length_drop, List.length_take]; rfl)) ?_; (with_reducible refine (verditerref08_Curve.calls k _ _ l0 t470 t471 _ ?side1 ?side2 A2.out).mono ?_); (case side1 => repeat (first | exact HR0.out | (with_reducible refine Kd.C_alloc ?_ _) | (with_reducible refine Kd.C_drewN ?_ _) | (with_reducible refine Kd.C_drew ?_))); (case side2 => exact HC0.out); rintro e w7 ⟨v472, rfl, ho0, hb⟩; refine ⟨_, rfl, ?_⟩; have n0_ := Aside0.mk (Kd.R_lower ho0 (below_size (by repeat (first | (with_reducible first | exact HB.out | apply below_alloc | apply pw_below_drewN | apply below_drew1) | exact HB.out)))); have n1_ := Aside0.mk (below_step (by repeat (first | (with_reducible first | exact HB.out | apply below_alloc | apply pw_below_drewN | apply below_drew1) | exact HB.out)) hb); clear HB; have HO473 := n0_; have HB := n1_; clear n0_ n1_; (try clear hb); (try clear hb2); (try clear hk); (try clear hi); (try clear ho0)))
    go_ret2
    exact ⟨by first | rfl | (simp [errW_none, errW_some] <;> rfl) | (simp [*, errW_none, errW_some] <;> rfl), by repeat (first | (with_reducible first | exact HB.out | apply below_alloc | apply pw_below_drewN | apply below_drew1) | exact HB.out)⟩

end Go.Proofs.Ythlbjdiicmojfaa.P

/-! Part PF41. -/
-- Written for this claim by wip/print_more.py (a session's program that runs the kit's printer with hand-proved functions beside). Lean checks it.
namespace Go.Proofs.Ythlbjdiicmojfaa.P
open Go.RowKit Go.Proofs.YthlbjdiicmojfaaW.PrintWords Go.Proofs.YthlbjdiicmojfaaW.PrintLast Go.Proofs.YthlbjdiicmojfaaW.PrintMore
attribute [local go_sem] max2_int min2_int max_two min_two max_three min_three max_four min_four   -- for this text's walks alone
set_option linter.unusedVariables false
set_option linter.unusedSimpArgs false

/-! ### verditerref08_Complete: function 41 -/
def verditerref08_Complete.f (k : Nat) (l0 : List (S43)) (a1 : Int) : Option (List Int × Int) := (verditerref08_Validate.f k l0).bind fun t209 => (if t209 = 0 then ((verditerref08_isNumber.f a1).bind fun t210 => (if t210 = true then (if (l0.length : Int) ≥ 6 then (some (([] : List Int), 3)) else ((some (([(⟨0, a1⟩ : S43)] : List (S43)) : List (S43))).bind fun y211 => (if y211.length + l0.length < 8796093022208 then ((verditerref08_through.f k (y211 ++ l0)).bind fun t217 => (some (t217, 0))) else (none)))) else (some (([] : List Int), 1)))) else (some (([] : List Int), t209)))
theorem verditerref08_Complete.mono : ∀ a0 a1 k, LeO (verditerref08_Complete.f k a0 a1) (verditerref08_Complete.f (k + 1) a0 a1) := by
  intro a0 a1 k
  unfold verditerref08_Complete.f
  repeat' first
      | (with_reducible exact verditerref08_Validate.mono _ _)
      | (with_reducible exact verditerref08_through.mono _ _)
      | (with_reducible exact LeO.refl _)
      | (with_reducible exact LeO.none _)
      | (with_reducible refine LeO.ite ?_ ?_)
      | (with_reducible refine LeO.bind ?_ (fun _ => ?_))
      | exact verditerref08_Validate.mono _ _
      | exact verditerref08_through.mono _ _
      | exact LeO.none _
      | refine LeO.ite ?_ ?_
      | refine LeO.bind ?_ (fun _ => ?_)
set_option maxHeartbeats 8000000 in
set_option maxRecDepth 100000 in
theorem verditerref08_Complete.calls (k : Nat) (A0 : Option Addr) (c0 : Nat) (l0 : List (S43)) (a1 : Int) (r1 : List Int) (r2 : Int) (w : World) (hr0 : Kd.C k43 w A0 l0.length l0) (hc0 : l0.length ≤ c0) (h : verditerref08_Complete.f k l0 a1 = some (r1, r2)) :
    Calls Try.prog 41 #[.slice A0 l0.length c0, .int .i64 a1] w fun e w' => ∃ v0_ : Value, e = .returned (.tuple #[v0_, .int .i64 r2]) ∧ Kd.R (Kd.int .i64) 3 w' w.heap.size (fun _ => True) v0_ r1 ∧ Below w.heap.size w w' := by
  have hu43 := Try.underlying43
  have HR0 := Aside0.mk hr0
  have HC0 := Aside0.mk hc0
  clear hr0 hc0
  have HB := Aside0.mk (Below.refl w.heap.size w)
  have H : ((verditerref08_Validate.f k l0).bind fun t209 => (if t209 = 0 then ((verditerref08_isNumber.f a1).bind fun t210 => (if t210 = true then (if (l0.length : Int) ≥ 6 then (some (([] : List Int), 3)) else ((some (([(⟨0, a1⟩ : S43)] : List (S43)) : List (S43))).bind fun y211 => (if y211.length + l0.length < 8796093022208 then ((verditerref08_through.f k (y211 ++ l0)).bind fun t217 => (some (t217, 0))) else (none)))) else (some (([] : List Int), 1)))) else (some (([] : List Int), t209)))) = some (r1, r2) := h
  clear h
  replace H := Option.bind_eq_some_iff.mp H
  obtain ⟨t209, A30, H⟩ := H
  replace H : (if t209 = 0 then ((verditerref08_isNumber.f a1).bind fun t210 => (if t210 = true then (if (l0.length : Int) ≥ 6 then (some (([] : List Int), 3)) else ((some (([(⟨0, a1⟩ : S43)] : List (S43)) : List (S43))).bind fun y211 => (if y211.length + l0.length < 8796093022208 then ((verditerref08_through.f k (y211 ++ l0)).bind fun t217 => (some (t217, 0))) else (none)))) else (some (([] : List Int), 1)))) else (some (([] : List Int), t209))) = some (r1, r2) := H
  have A3 := Aside0.mk A30
  clear A30
  by_cases c4 : t209 = 0
  · rw [if_pos c4] at H
    have c4b0 : (t209 == 0) = true := beq_iff_eq.mpr c4
    have c4b1 : (t209 != 0) = false := bne_eq_false_iff_eq.mpr c4
    clear c4
    replace H := Option.bind_eq_some_iff.mp H
    obtain ⟨t210, A50, H⟩ := H
    replace H : (if t210 = true then (if (l0.length : Int) ≥ 6 then (some (([] : List Int), 3)) else ((some (([(⟨0, a1⟩ : S43)] : List (S43)) : List (S43))).bind fun y211 => (if y211.length + l0.length < 8796093022208 then ((verditerref08_through.f k (y211 ++ l0)).bind fun t217 => (some (t217, 0))) else (none)))) else (some (([] : List Int), 1))) = some (r1, r2) := H
    have A5 := Aside0.mk A50
    clear A50
    by_cases c6 : t210 = true
    · subst c6
      have H1 : (if (l0.length : Int) ≥ 6 then (some (([] : List Int), 3)) else ((some (([(⟨0, a1⟩ : S43)] : List (S43)) : List (S43))).bind fun y211 => (if y211.length + l0.length < 8796093022208 then ((verditerref08_through.f k (y211 ++ l0)).bind fun t217 => (some (t217, 0))) else (none)))) = some (r1, r2) := by rw [if_pos rfl] at H; exact H
      clear H
      have H := H1
      clear H1
      by_cases c7 : (l0.length : Int) ≥ 6
      · rw [if_pos c7] at H
        have c7b0 : decide (6 ≤ (l0.length : Int)) = true := decide_eq_true c7
        have c7b1 : decide (6 ≤ l0.length) = true := decide_eq_true (by omega)
        clear c7
        simp only [Option.some.injEq, Prod.mk.injEq] at H
        obtain ⟨rfl, rfl⟩ := H
        go_enter Try.func41, Try.ntmps41
        go_wp2_with (first | ((with_reducible refine gate_callee (f := 66) rfl ?_); refine goesL_ (some 8) rfl rfl Try.func66 (by kernel_rfl) rfl #[.slice A0 l0.length c0] rfl (by (try simp only [List.map_toArray, List.map_cons, List.map_nil]); first | done | rfl | (simp only [List.length_drop, List.length_take]; rfl)) ?_; (with_reducible refine (verditerref08_Validate.calls k _ _ l0 t209 _ ?side1 ?side2 A3.out).mono ?_); (case side1 => repeat (first | exact HR0.out | (with_reducible refine Kd.C_alloc ?_ _) | (with_reducible refine Kd.C_drewN ?_ _) | (with_reducible refine Kd.C_drew ?_))); (case side2 => exact HC0.out); rintro e w' ⟨rfl, ⟨nd, rfl⟩⟩; refine ⟨_, rfl, ?_⟩) | ((with_reducible refine gate_callee (f := 75) rfl ?_); refine goesL_ (some 13) rfl rfl Try.func75 (by kernel_rfl) rfl #[.int .i64 a1] rfl (by (try simp only [List.map_toArray, List.map_cons, List.map_nil]); first | done | rfl | (simp only [List.length_drop, List.length_take]; rfl)) ?_; (with_reducible refine (verditerref08_isNumber.calls a1 true _ A5.out).mono ?_); rintro e w' ⟨rfl, ⟨nd, rfl⟩⟩; refine ⟨_, rfl, ?_⟩))
        go_ret2
        exact ⟨_, by first | rfl | (simp [errW_none, errW_some] <;> rfl) | (simp [*, errW_none, errW_some] <;> rfl), by first | exact Kd.R_nil _ _ _ _ _ | exact Kd.N_nil _ _ _ _ _ | exact Kd.V_nil _ _ _ _ _ | exact Kd.Q_nil _ _ _ _ _ | exact Kd.S_nil _ _ _ _ _, by repeat (first | (with_reducible first | exact HB.out | apply below_alloc | apply pw_below_drewN | apply below_drew1) | exact HB.out)⟩
      · rw [if_neg c7] at H
        have c7b0 : decide (6 ≤ (l0.length : Int)) = false := decide_eq_false c7
        have c7b1 : decide (6 ≤ l0.length) = false := decide_eq_false (by omega)
        clear c7
        obtain ⟨y211, hy211⟩ : ∃ y_ : List (S43), y_ = (([(⟨0, a1⟩ : S43)] : List (S43))) := ⟨_, rfl⟩
        replace H : (if y211.length + l0.length < 8796093022208 then ((verditerref08_through.f k (y211 ++ l0)).bind fun t217 => (some (t217, 0))) else (none)) = some (r1, r2) := by first | (rw [hy211]; with_reducible exact H) | (have H2_ := (Option.bind_some _ _).symm.trans H; rw [hy211]; with_reducible exact H2_) | (have H2_ := (Option.bind_some _ _).symm.trans H; with_reducible exact H2_) | with_reducible exact H | (rw [hy211]; exact H) | exact H
        have Ny211 := Aside0.mk hy211
        clear hy211
        by_cases c8 : y211.length + l0.length < 8796093022208
        · rw [if_pos c8] at H
          have LMc8 := Aside0.mk c8
          clear c8
          obtain ⟨y214, hy214⟩ : ∃ y_ : List (S43), y_ = (y211 ++ l0) := ⟨_, rfl⟩
          replace H : ((verditerref08_through.f k y214).bind fun t217 => (some (t217, 0))) = some (r1, r2) := by first | (rw [hy214]; with_reducible exact H) | (have H2_ := (Option.bind_some _ _).symm.trans H; rw [hy214]; with_reducible exact H2_) | (have H2_ := (Option.bind_some _ _).symm.trans H; with_reducible exact H2_) | with_reducible exact H | (rw [hy214]; exact H) | exact H
          have Ny214 := Aside0.mk hy214
          clear hy214
          replace H := Option.bind_eq_some_iff.mp H
          obtain ⟨t217, A90, H⟩ := H
          replace H : (some (t217, 0)) = some (r1, r2) := H
          have A9 := Aside0.mk A90
          clear A90
          simp only [Option.some.injEq, Prod.mk.injEq] at H
          obtain ⟨rfl, rfl⟩ := H
          go_enter Try.func41, Try.ntmps41
          go_wp2_with (first | ((with_reducible refine gate_callee (f := 66) rfl ?_); refine goesL_ (some 8) rfl rfl Try.func66 (by kernel_rfl) rfl #[.slice A0 l0.length c0] rfl (by (try simp only [List.map_toArray, List.map_cons, List.map_nil]); first | done | rfl | (simp only [List.length_drop, List.length_take]; rfl)) ?_; (with_reducible refine (verditerref08_Validate.calls k _ _ l0 t209 _ ?side1 ?side2 A3.out).mono ?_); (case side1 => repeat (first | exact HR0.out | (with_reducible refine Kd.C_alloc ?_ _) | (with_reducible refine Kd.C_drewN ?_ _) | (with_reducible refine Kd.C_drew ?_))); (case side2 => exact HC0.out); rintro e w' ⟨rfl, ⟨nd, rfl⟩⟩; refine ⟨_, rfl, ?_⟩) | ((with_reducible refine gate_callee (f := 75) rfl ?_); refine goesL_ (some 13) rfl rfl Try.func75 (by kernel_rfl) rfl #[.int .i64 a1] rfl (by (try simp only [List.map_toArray, List.map_cons, List.map_nil]); first | done | rfl | (simp only [List.length_drop, List.length_take]; rfl)) ?_; (with_reducible refine (verditerref08_isNumber.calls a1 true _ A5.out).mono ?_); rintro e w' ⟨rfl, ⟨nd, rfl⟩⟩; refine ⟨_, rfl, ?_⟩) | ((with_reducible refine gate_dst (N := 20) rfl ?_); refine Kd.R_lit k43 _ 43 ?hg (N := 20) ?hd (xs := ([(⟨0, a1⟩ : S43)] : List (S43))) (inner := [.int .i64 0, .int .i64 a1]) (ok := fun _ => True) (okp := fun _ => True) ?hr ?hp (fun _ hk => hk) trivial (Below.refl _ _) (Nat.le_refl _) (by simp) ?_; (case hd => rfl); (case hg => rfl); (case hr => first | (go_simp; done) | (go_simp; rfl)); (case hp => exact (Reps.c2 (show Kd.M k43 _ _ _ (⟨0, a1⟩ : S43) [.int .i64 0, .int .i64 a1] from (k43_mkM _ _ _ (⟨0, a1⟩ : S43) )) (Reps.none _ _))); intro v212 w10 ho11 hb hg_ hnew_; clear hg_ hnew_; (first | rw [← Ny211.out] at ho11 | (simp only [Int.reduceToNat] at ho11; rw [← Ny211.out] at ho11)); have n0_ := Aside0.mk (Kd.R_lower ho11 (below_size (by repeat (first | (with_reducible first | exact HB.out | apply below_alloc | apply pw_below_drewN | apply below_drew1) | exact HB.out)))); have n1_ := Aside0.mk (below_step (by repeat (first | (with_reducible first | exact HB.out | apply below_alloc | apply pw_below_drewN | apply below_drew1) | exact HB.out)) hb); clear HB; have HO213 := n0_; have HB := n1_; clear n0_ n1_; clear hb ho11) | ((with_reducible refine gate_builtin (b := .append) (xs := #[.tmp 20, .tmp 21]) rfl ?_); at_builtin; refine Kd.R_append_rows k43 (w0 := w) w.heap.size rfl (.tmp 20) (.tmp 21) 22 43 (.agg #[(.int .i64 0), (.int .i64 0)]) 16 rfl Try.underlying22 info43 rfl (by decide) (by omega) v212 y211 l0 _ _ _ (fun _ => True) (fun _ => False) rfl rfl ?aO ?aR (fun _ _ h => h) (fun _ h => h.elim) ?aF ?aB ?aS ?aL ?_; (case aR => repeat (first | exact (Kd.C_below HR0.out HB.out) | (with_reducible refine Kd.C_alloc ?_ _) | (with_reducible refine Kd.C_drewN ?_ _) | (with_reducible refine Kd.C_drew ?_))); (case aB => exact (by repeat (first | (with_reducible first | exact HB.out | apply below_alloc | apply pw_below_drewN | apply below_drew1) | exact HB.out))); (case aF => exact (fun _ _ => trivial)); (case aO => exact (by (with_reducible repeat (first | apply Kd.R_alloc | apply Kd.R_drewN | apply Kd.R_drew)); exact HO213.out)); (case aS => exact (below_size (by repeat (first | (with_reducible first | exact HB.out | apply below_alloc | apply pw_below_drewN | apply below_drew1) | exact HB.out)))); (case aL => have := LMc8.out; omega); intro v215 w12 ho hb hg hat; rw [← Ny214.out] at ho; have n0_ := Aside0.mk (hb); have n1_ := Aside0.mk (ho); clear HB; clear HO213; have HB := n0_; have HO216 := n1_; clear n0_ n1_; clear ho hb hg hat; obtain ⟨Ao13, co13, eo13⟩ := Kd.R_slice HO216.out; subst eo13) | ((with_reducible refine gate_callee (f := 76) rfl ?_); refine goesL_ (some 23) rfl rfl Try.func76 (by kernel_rfl) rfl #[.slice Ao13 y214.length co13] rfl (by (try simp only [List.map_toArray, List.map_cons, List.map_nil]); first | done | rfl | (simp only [List.length_drop, List.length_take]; rfl)) ?_; (with_reducible refine (verditerref08_through.calls k _ _ y214 t217 _ ?side1 ?side2 A9.out).mono ?_); (case side1 => repeat (first | exact (Kd.R_reads' HO216.out).2.2 | (with_reducible refine Kd.C_alloc ?_ _) | (with_reducible refine Kd.C_drewN ?_ _) | (with_reducible refine Kd.C_drew ?_))); (case side2 => exact (Kd.R_reads' HO216.out).2.1); rintro e w14 ⟨v218, rfl, ho0, hb⟩; refine ⟨_, rfl, ?_⟩; have n0_ := Aside0.mk (Kd.R_below (by (with_reducible repeat (first | apply Kd.R_alloc | apply Kd.R_drewN | apply Kd.R_drew)); exact HO216.out) hb); have n1_ := Aside0.mk (Kd.R_lower ho0 (below_size (by repeat (first | (with_reducible first | exact HB.out | apply below_alloc | apply pw_below_drewN | apply below_drew1) | exact HB.out)))); have n2_ := Aside0.mk (below_step (by repeat (first | (with_reducible first | exact HB.out | apply below_alloc | apply pw_below_drewN | apply below_drew1) | exact HB.out)) hb); clear HO216; clear HB; have HO216 := n0_; have HO219 := n1_; have HB := n2_; clear n0_ n1_ n2_; (try clear hb); (try clear hb2); (try clear hk); (try clear hi); (try clear ho0)))
          go_ret2
          exact ⟨_, by first | rfl | (simp [errW_none, errW_some] <;> rfl) | (simp [*, errW_none, errW_some] <;> rfl), by (with_reducible repeat (first | apply Kd.R_alloc | apply Kd.R_drewN | apply Kd.R_drew)); exact HO219.out, by repeat (first | (with_reducible first | exact HB.out | apply below_alloc | apply pw_below_drewN | apply below_drew1) | exact HB.out)⟩
        · rw [if_neg c8] at H
          exact absurd H (by simp)
    · replace c6 := Bool.eq_false_iff.mpr c6
      subst c6
      have H1 : (some (([] : List Int), 1)) = some (r1, r2) := by rw [if_neg (show ¬ (false = true) by decide)] at H; exact H
      clear H
      have H := H1
      clear H1
      simp only [Option.some.injEq, Prod.mk.injEq] at H
      obtain ⟨rfl, rfl⟩ := H
      go_enter Try.func41, Try.ntmps41
      go_wp2_with (first | ((with_reducible refine gate_callee (f := 66) rfl ?_); refine goesL_ (some 8) rfl rfl Try.func66 (by kernel_rfl) rfl #[.slice A0 l0.length c0] rfl (by (try simp only [List.map_toArray, List.map_cons, List.map_nil]); first | done | rfl | (simp only [List.length_drop, List.length_take]; rfl)) ?_; (with_reducible refine (verditerref08_Validate.calls k _ _ l0 t209 _ ?side1 ?side2 A3.out).mono ?_); (case side1 => repeat (first | exact HR0.out | (with_reducible refine Kd.C_alloc ?_ _) | (with_reducible refine Kd.C_drewN ?_ _) | (with_reducible refine Kd.C_drew ?_))); (case side2 => exact HC0.out); rintro e w' ⟨rfl, ⟨nd, rfl⟩⟩; refine ⟨_, rfl, ?_⟩) | ((with_reducible refine gate_callee (f := 75) rfl ?_); refine goesL_ (some 13) rfl rfl Try.func75 (by kernel_rfl) rfl #[.int .i64 a1] rfl (by (try simp only [List.map_toArray, List.map_cons, List.map_nil]); first | done | rfl | (simp only [List.length_drop, List.length_take]; rfl)) ?_; (with_reducible refine (verditerref08_isNumber.calls a1 false _ A5.out).mono ?_); rintro e w' ⟨rfl, ⟨nd, rfl⟩⟩; refine ⟨_, rfl, ?_⟩))
      go_ret2
      exact ⟨_, by first | rfl | (simp [errW_none, errW_some] <;> rfl) | (simp [*, errW_none, errW_some] <;> rfl), by first | exact Kd.R_nil _ _ _ _ _ | exact Kd.N_nil _ _ _ _ _ | exact Kd.V_nil _ _ _ _ _ | exact Kd.Q_nil _ _ _ _ _ | exact Kd.S_nil _ _ _ _ _, by repeat (first | (with_reducible first | exact HB.out | apply below_alloc | apply pw_below_drewN | apply below_drew1) | exact HB.out)⟩
  · rw [if_neg c4] at H
    have c4b0 : (t209 == 0) = false := beq_eq_false_iff_ne.mpr c4
    have c4b1 : (t209 != 0) = true := bne_iff_ne.mpr c4
    simp only [Option.some.injEq, Prod.mk.injEq] at H
    obtain ⟨rfl, rfl⟩ := H
    go_enter Try.func41, Try.ntmps41
    go_wp2_with (first | ((with_reducible refine gate_callee (f := 66) rfl ?_); refine goesL_ (some 8) rfl rfl Try.func66 (by kernel_rfl) rfl #[.slice A0 l0.length c0] rfl (by (try simp only [List.map_toArray, List.map_cons, List.map_nil]); first | done | rfl | (simp only [List.length_drop, List.length_take]; rfl)) ?_; (with_reducible refine (verditerref08_Validate.calls k _ _ l0 t209 _ ?side1 ?side2 A3.out).mono ?_); (case side1 => repeat (first | exact HR0.out | (with_reducible refine Kd.C_alloc ?_ _) | (with_reducible refine Kd.C_drewN ?_ _) | (with_reducible refine Kd.C_drew ?_))); (case side2 => exact HC0.out); rintro e w' ⟨rfl, ⟨nd, rfl⟩⟩; refine ⟨_, rfl, ?_⟩))
    go_ret2
    exact ⟨_, by first | rfl | (simp [errW_none, errW_some] <;> rfl) | (simp [*, errW_none, errW_some] <;> rfl), by first | exact Kd.R_nil _ _ _ _ _ | exact Kd.N_nil _ _ _ _ _ | exact Kd.V_nil _ _ _ _ _ | exact Kd.Q_nil _ _ _ _ _ | exact Kd.S_nil _ _ _ _ _, by repeat (first | (with_reducible first | exact HB.out | apply below_alloc | apply pw_below_drewN | apply below_drew1) | exact HB.out)⟩

end Go.Proofs.Ythlbjdiicmojfaa.P

/-! Part PF39. -/
-- Written for this claim by wip/print_more.py (a session's program that runs the kit's printer with hand-proved functions beside). Lean checks it.
namespace Go.Proofs.Ythlbjdiicmojfaa.P
open Go.RowKit Go.Proofs.YthlbjdiicmojfaaW.PrintWords Go.Proofs.YthlbjdiicmojfaaW.PrintLast Go.Proofs.YthlbjdiicmojfaaW.PrintMore
attribute [local go_sem] max2_int min2_int max_two min_two max_three min_three max_four min_four   -- for this text's walks alone
set_option linter.unusedVariables false
set_option linter.unusedSimpArgs false

/-! ### verditerlaw08_Long: function 39 -/
def verditerlaw08_Long.f (l0 : List (S43)) : Option (Bool) := some (decide ((l0.length : Int) > 100))
set_option maxHeartbeats 8000000 in
set_option maxRecDepth 100000 in
theorem verditerlaw08_Long.calls (A0 : Option Addr) (c0 : Nat) (l0 : List (S43)) (r : Bool) (w : World) (hr0 : Kd.C k43 w A0 l0.length l0) (hc0 : l0.length ≤ c0) (h : verditerlaw08_Long.f l0 = some r) :
    Calls Try.prog 39 #[.slice A0 l0.length c0] w fun e w' => e = .returned (.bool r) ∧ Drawn0 w w' := by
  have HR0 := Aside0.mk hr0
  have HC0 := Aside0.mk hc0
  clear hr0 hc0
  have H : (some (decide ((l0.length : Int) > 100))) = some r := h
  clear h
  obtain rfl := Option.some.inj H
  go_enter Try.func39, Try.ntmps39
  go_wp2
  go_ret
  exact ⟨by first | rfl | (simp; done) | (simp [*]; done), by repeat (first | exact Drawn0.refl _ | apply Drawn0.step)⟩

end Go.Proofs.Ythlbjdiicmojfaa.P

/-! Part Eqs. -/
namespace Go.Proofs.Ythlbjdiicmojfaa.P
open Go.RowKit Go.Proofs.YthlbjdiicmojfaaW.PrintWords Go.Proofs.YthlbjdiicmojfaaW.PrintLast Go.Proofs.YthlbjdiicmojfaaW.PrintMore
set_option linter.unusedVariables false

theorem long_eq (l : List S43) : verditerlaw08_Long.f l = some (decide ((l.length : Int) > 100)) := rfl
theorem secretAt_ok {c : List Int} {x : Int} (hc : curveErr c = 0) (hx : num x = true) : secret_At.f c x = some (atI c x, 0) := by
  obtain ⟨h1, h2, h3⟩ := curveErr_iff.1 hc
  rw [secret_At.f, secret_isCurve.f, Option.bind_some, if_pos hc, isNumber_eq, Option.bind_some, if_pos hx, secret_curve_at.f, if_pos (by rw [hx, List.all_eq_true.2 h3, decide_eq_true (show c.length ≤ 12 by omega)]; rfl)]
  rfl
theorem curveErr_interp {p : List (Int × Int)} (h1 : 1 ≤ p.length) (h2 : p.length ≤ 6) : curveErr (interp p) = 0 :=
  curveErr_iff.2 ⟨by rw [interp_len]; exact h1, by rw [interp_len]; exact h2, interp_nums p⟩

/-! ### Curve, Secret -/
def curveR (l : List S43) : List Int × Int := if valid l = 0 then (if l.length = 0 then ([], 4) else if 6 < l.length then ([], 3) else (interp (pts l), 0)) else ([], valid l)
def secretR (l : List S43) : Int × Int := if (curveR l).2 = 0 then ((curveR l).1.getD 0 0, 0) else (0, (curveR l).2)
theorem curveR_ok {l : List S43} (h : (curveR l).2 = 0) : valid l = 0 ∧ 1 ≤ l.length ∧ l.length ≤ 6 ∧ (curveR l).1 = interp (pts l) := by
  unfold curveR at h ⊢
  by_cases hv : valid l = 0
  · rw [if_pos hv] at h ⊢
    by_cases h0 : l.length = 0
    · rw [if_pos h0] at h; cases h
    · rw [if_neg h0] at h ⊢
      by_cases h6 : 6 < l.length
      · rw [if_pos h6] at h; cases h
      · rw [if_neg h6]
        exact ⟨hv, by omega, by omega, rfl⟩
  · rw [if_neg hv] at h
    exact absurd h hv
theorem curveR_eq {l : List S43} (hv : valid l = 0) (h1 : 1 ≤ l.length) (h6 : l.length ≤ 6) : curveR l = (interp (pts l), 0) := by
  unfold curveR
  rw [if_pos hv, if_neg (by omega), if_neg (by omega)]
theorem curve_eq (l : List S43) : secret_Curve.f l = some (curveR l) := by
  rw [secret_Curve.f, secret_Validate.f, Option.bind_some]
  unfold curveR
  by_cases hv : valid l = 0
  · rw [if_pos hv, if_pos hv, secret_some.f]
    by_cases h0 : l.length = 0
    · rw [if_pos (by omega), if_pos h0]; rfl
    · rw [if_neg (by omega), if_neg h0]
      by_cases h6 : 6 < l.length
      · rw [if_pos (by omega), if_pos h6]; rfl
      · rw [if_neg (by omega), if_neg h6, Option.bind_some, if_pos rfl, secret_of.f, if_pos hv]; rfl
  · rw [if_neg hv, if_neg hv]
theorem rcurve_eq (l : List S43) (k : Nat) (hk : 7000 ≤ k) : verditerref08_Curve.f k l = some (curveR l) := by
  rw [verditerref08_Curve.f, rval_eq l k (by omega), Option.bind_some]
  unfold curveR
  by_cases hv : valid l = 0
  · rw [if_pos hv, if_pos hv]
    by_cases h0 : l.length = 0
    · rw [if_pos (by omega), if_pos h0]
    · rw [if_neg (by omega), if_neg h0]
      by_cases h6 : 6 < l.length
      · rw [if_pos (by omega), if_pos h6]
      · rw [if_neg (by omega), if_neg h6, through_eq l (by omega) (good_pts hv) k hk]; rfl
  · rw [if_neg hv, if_neg hv]
theorem secret_eq (l : List S43) : secret_Secret.f l = some (secretR l) := by
  rw [secret_Secret.f, curve_eq, Option.bind_some]
  unfold secretR
  by_cases h : (curveR l).2 = 0
  · obtain ⟨_, h1, _, he⟩ := curveR_ok h
    rw [if_pos h, if_pos h, if_pos (by rw [he, interp_len, pts_length]; omega)]; rfl
  · rw [if_neg h, if_neg h]
theorem rsecret_eq (l : List S43) (k : Nat) (hk : 7000 ≤ k) : verditerref08_Secret.f k l = some (secretR l) := by
  rw [verditerref08_Secret.f, rcurve_eq l k hk, Option.bind_some]
  unfold secretR
  by_cases h : (curveR l).2 = 0
  · obtain ⟨_, h1, _, he⟩ := curveR_ok h
    rw [if_pos h, if_pos h, if_pos (by rw [he, interp_len, pts_length]; omega)]; rfl
  · rw [if_neg h, if_neg h]

/-! ### Complete -/
theorem good_secret {l : List S43} {n : Int} (hv : valid l = 0) (hn : num n = true) : good ((0, n) :: pts l) := by
  have hg := good_pts hv
  obtain ⟨_, hok, _⟩ := valid_iff.1 hv
  refine ⟨fun q hq => ?_, ?_⟩
  · rcases List.mem_cons.1 hq with rfl | hq
    · exact ⟨rfl, hn⟩
    · exact hg.1 q hq
  · rw [List.map_cons, List.nodup_cons]
    refine ⟨fun hm => ?_, hg.2⟩
    obtain ⟨q, hq, e⟩ := List.mem_map.1 hm
    obtain ⟨p, hp, rfl⟩ := List.mem_map.1 hq
    have := okP_iff.1 (hok p hp)
    simp only at e
    omega
theorem rcomplete_eq (l : List S43) (n : Int) (k : Nat) (hk : 7000 ≤ k) : verditerref08_Complete.f k l n = secret_Complete.f l n := by
  rw [verditerref08_Complete.f, secret_Complete.f, rval_eq l k (by omega), Option.bind_some]
  by_cases hv : valid l = 0
  · rw [if_pos hv, if_pos hv, risNumber_eq, Option.bind_some]
    cases hn : num n with
    | false => rfl
    | true =>
      rw [if_pos rfl, if_pos rfl]
      by_cases h6 : 6 ≤ l.length
      · rw [if_pos (by omega), if_pos h6]
      · have e : pts ([⟨0, n⟩] ++ l) = (0, n) :: pts l := rfl
        rw [if_neg (by omega), if_neg h6, Option.bind_some, if_pos (by simp; omega), through_eq _ (by simp; omega) (by rw [e]; exact good_secret hv hn) k hk, e]; rfl
  · rw [if_neg hv, if_neg hv]
theorem map_pts_fst (l : List S43) : (pts l).map Prod.fst = l.map S43.f0 := by unfold pts; rw [List.map_map]; rfl
theorem valid_num {l : List S43} (hv : valid l = 0) {p : S43} (hp : p ∈ l) : num p.f0 = true ∧ num p.f1 = true := (good_pts hv).1 (p.f0, p.f1) (mem_pts hp)
end Go.Proofs.Ythlbjdiicmojfaa.P

/-! Part PF50. -/
-- Written for this claim by wip/print_more.py (a session's program that runs the kit's printer with hand-proved functions beside). Lean checks it.
namespace Go.Proofs.Ythlbjdiicmojfaa.P
open Go.RowKit Go.Proofs.YthlbjdiicmojfaaW.PrintWords Go.Proofs.YthlbjdiicmojfaaW.PrintLast Go.Proofs.YthlbjdiicmojfaaW.PrintMore
attribute [local go_sem] max2_int min2_int max_two min_two max_three min_three max_four min_four   -- for this text's walks alone
set_option linter.unusedVariables false
set_option linter.unusedSimpArgs false

/-! ### verditerref08_Share: function 50 -/
def verditerref08_Share.l0 : Nat → List Int → Int → List (S43) → Int → Option ((List (S43)) × Int)
  | 0, _, _, _, _ => none
  | k + 1, x0, x1, x7, x8 => if x8 ≤ x1 then ((verditerref08_at.f k x0 x8).bind fun t300 => (if x7.length < 8796093022208 then (verditerref08_Share.l0 k x0 x1 (x7 ++ [(⟨x8, t300⟩ : S43)]) (wrap64 (x8 + 1))) else (none))) else (some (x7, 0))
def verditerref08_Share.f (k : Nat) (l0 : List Int) (a1 : Int) : Option ((List (S43)) × Int) := (verditerref08_curved.f k l0).bind fun t298 => (if t298 = 0 then ((verditerref08_within.f a1 1 12).bind fun t299 => (if t299 = true then (verditerref08_Share.l0 k l0 a1 ([] : List (S43)) 1) else (some (([] : List (S43)), 1)))) else (some (([] : List (S43)), t298)))
theorem verditerref08_Share.mono_l : ∀ k, (∀ y0 y1 y2 y3, LeO (verditerref08_Share.l0 k y0 y1 y2 y3) (verditerref08_Share.l0 (k + 1) y0 y1 y2 y3))
  | 0 => fun _ _ _ _ r h => by simp [verditerref08_Share.l0] at h
  | k + 1 => by
    have ih0 := verditerref08_Share.mono_l k
    · intro y0 y1 y2 y3
      unfold verditerref08_Share.l0
      repeat' first
      | (with_reducible exact ih0 _ _ _ _)
      | (with_reducible exact verditerref08_at.mono _ _ _)
      | (with_reducible exact verditerref08_curved.mono _ _)
      | (with_reducible exact LeO.refl _)
      | (with_reducible exact LeO.none _)
      | (with_reducible refine LeO.ite ?_ ?_)
      | (with_reducible refine LeO.bind ?_ (fun _ => ?_))
      | exact ih0 _ _ _ _
      | exact verditerref08_at.mono _ _ _
      | exact verditerref08_curved.mono _ _
      | exact LeO.none _
      | refine LeO.ite ?_ ?_
      | refine LeO.bind ?_ (fun _ => ?_)
theorem verditerref08_Share.mono : ∀ a0 a1 k, LeO (verditerref08_Share.f k a0 a1) (verditerref08_Share.f (k + 1) a0 a1) := by
  intro a0 a1 k
  have ih0 := verditerref08_Share.mono_l k
  unfold verditerref08_Share.f
  repeat' first
      | (with_reducible exact ih0 _ _ _ _)
      | (with_reducible exact verditerref08_at.mono _ _ _)
      | (with_reducible exact verditerref08_curved.mono _ _)
      | (with_reducible exact LeO.refl _)
      | (with_reducible exact LeO.none _)
      | (with_reducible refine LeO.ite ?_ ?_)
      | (with_reducible refine LeO.bind ?_ (fun _ => ?_))
      | exact ih0 _ _ _ _
      | exact verditerref08_at.mono _ _ _
      | exact verditerref08_curved.mono _ _
      | exact LeO.none _
      | refine LeO.ite ?_ ?_
      | refine LeO.bind ?_ (fun _ => ?_)
set_option maxHeartbeats 8000000 in
set_option maxRecDepth 100000 in
theorem verditerref08_Share.calls (k : Nat) (A0 : Option Addr) (c0 : Nat) (l0 : List Int) (a1 : Int) (r1 : List (S43)) (r2 : Int) (w : World) (hr0 : Kd.C (Kd.int .i64) w A0 l0.length l0) (hc0 : l0.length ≤ c0) (h : verditerref08_Share.f k l0 a1 = some (r1, r2)) :
    Calls Try.prog 50 #[.slice A0 l0.length c0, .int .i64 a1] w fun e w' => ∃ v0_ : Value, e = .returned (.tuple #[v0_, .int .i64 r2]) ∧ Kd.R k43 43 w' w.heap.size (fun _ => True) v0_ r1 ∧ Below w.heap.size w w' := by
  have hu43 := Try.underlying43
  have HR0 := Aside0.mk hr0
  have HC0 := Aside0.mk hc0
  clear hr0 hc0
  have HB := Aside0.mk (Below.refl w.heap.size w)
  have H : ((verditerref08_curved.f k l0).bind fun t298 => (if t298 = 0 then ((verditerref08_within.f a1 1 12).bind fun t299 => (if t299 = true then (verditerref08_Share.l0 k l0 a1 ([] : List (S43)) 1) else (some (([] : List (S43)), 1)))) else (some (([] : List (S43)), t298)))) = some (r1, r2) := h
  clear h
  replace H := Option.bind_eq_some_iff.mp H
  obtain ⟨t298, A30, H⟩ := H
  replace H : (if t298 = 0 then ((verditerref08_within.f a1 1 12).bind fun t299 => (if t299 = true then (verditerref08_Share.l0 k l0 a1 ([] : List (S43)) 1) else (some (([] : List (S43)), 1)))) else (some (([] : List (S43)), t298))) = some (r1, r2) := H
  have A3 := Aside0.mk A30
  clear A30
  by_cases c4 : t298 = 0
  · rw [if_pos c4] at H
    have c4b0 : (t298 == 0) = true := beq_iff_eq.mpr c4
    have c4b1 : (t298 != 0) = false := bne_eq_false_iff_eq.mpr c4
    clear c4
    replace H := Option.bind_eq_some_iff.mp H
    obtain ⟨t299, A50, H⟩ := H
    replace H : (if t299 = true then (verditerref08_Share.l0 k l0 a1 ([] : List (S43)) 1) else (some (([] : List (S43)), 1))) = some (r1, r2) := H
    have A5 := Aside0.mk A50
    clear A50
    by_cases c6 : t299 = true
    · subst c6
      have H1 : (verditerref08_Share.l0 k l0 a1 ([] : List (S43)) 1) = some (r1, r2) := by rw [if_pos rfl] at H; exact H
      clear H
      have H := H1
      clear H1
      have H' := Aside0.mk H
      clear H
      go_enter Try.func50, Try.ntmps50
      go_wp2_with (first | ((with_reducible refine gate_callee (f := 81) rfl ?_); refine goesL_ (some 10) rfl rfl Try.func81 (by kernel_rfl) rfl #[.slice A0 l0.length c0] rfl (by (try simp only [List.map_toArray, List.map_cons, List.map_nil]); first | done | rfl | (simp only [List.length_drop, List.length_take]; rfl)) ?_; (with_reducible refine (verditerref08_curved.calls k _ _ l0 t298 _ ?side1 ?side2 A3.out).mono ?_); (case side1 => repeat (first | exact HR0.out | (with_reducible refine Kd.C_alloc ?_ _) | (with_reducible refine Kd.C_drewN ?_ _) | (with_reducible refine Kd.C_drew ?_))); (case side2 => exact HC0.out); rintro e w' ⟨rfl, ⟨nd, rfl⟩⟩; refine ⟨_, rfl, ?_⟩) | ((with_reducible refine gate_callee (f := 83) rfl ?_); refine goesL_ (some 15) rfl rfl Try.func83 (by kernel_rfl) rfl #[.int .i64 a1, .int .i64 1, .int .i64 12] rfl (by (try simp only [List.map_toArray, List.map_cons, List.map_nil]); first | done | rfl | (simp only [List.length_drop, List.length_take]; rfl)) ?_; (with_reducible refine (verditerref08_within.calls a1 1 12 true _ A5.out).mono ?_); rintro e w' ⟨rfl, ⟨nd, rfl⟩⟩; refine ⟨_, rfl, ?_⟩))
      go_loopg [7, 8] k (fun kq v7 v8 w' => ∃ (x7_1 : List (S43)) (x8_1 : Int), v8 = .int .i64 x8_1 ∧ Aside0 (verditerref08_Share.l0 kq l0 a1 x7_1 x8_1 = some (r1, r2)) ∧ Aside0 (kq ≤ k) ∧ Aside0 (Kd.R k43 43 w' w.heap.size (fun _ => True) v7 x7_1) ∧ Aside0 (Below w.heap.size w w'))
      case atStart => exact ⟨(([] : List (S43))), (1), (by first | rfl | (simp; done) | (simp [*]; done)), H', ⟨Nat.le_refl _⟩, ⟨by first | exact Kd.R_nil _ _ _ _ _ | exact Kd.N_nil _ _ _ _ _ | exact Kd.V_nil _ _ _ _ _ | exact Kd.Q_nil _ _ _ _ _ | exact Kd.S_nil _ _ _ _ _⟩, ⟨by repeat (first | (with_reducible first | exact HB.out | apply below_alloc | apply pw_below_drewN | apply below_drew1) | exact HB.out)⟩⟩
      case round =>
        clear H'
        try clear p2
        try clear c4
        try clear c4b0
        try clear c4b1
        try clear c5
        try clear c6
        obtain ⟨x7_1, x8_1, rfl, HA, HK1, HO_7, HB⟩ := hrel
        cases gk with
        | zero => exact absurd HA.out (by simp [verditerref08_Share.l0])
        | succ k1 =>
          have H := HA.out
          clear HA
          simp only [verditerref08_Share.l0] at H
          by_cases c7 : x8_1 ≤ a1
          · rw [if_pos c7] at H
            have c7b0 : decide (x8_1 ≤ a1) = true := decide_eq_true c7
            clear c7
            replace H := Option.bind_eq_some_iff.mp H
            obtain ⟨t300, A80, H⟩ := H
            replace H : (if x7_1.length < 8796093022208 then (verditerref08_Share.l0 k1 l0 a1 (x7_1 ++ [(⟨x8_1, t300⟩ : S43)]) (wrap64 (x8_1 + 1))) else (none)) = some (r1, r2) := H
            have A8 := Aside0.mk A80
            clear A80
            by_cases c9 : x7_1.length < 8796093022208
            · rw [if_pos c9] at H
              have LMc9 := Aside0.mk c9
              clear c9
              obtain ⟨y301, hy301⟩ : ∃ y_ : List (S43), y_ = (x7_1 ++ [(⟨x8_1, t300⟩ : S43)]) := ⟨_, rfl⟩
              replace H : (verditerref08_Share.l0 k1 l0 a1 y301 (wrap64 (x8_1 + 1))) = some (r1, r2) := by first | (rw [hy301]; with_reducible exact H) | (have H2_ := (Option.bind_some _ _).symm.trans H; rw [hy301]; with_reducible exact H2_) | (have H2_ := (Option.bind_some _ _).symm.trans H; with_reducible exact H2_) | with_reducible exact H | (rw [hy301]; exact H) | exact H
              have Ny301 := Aside0.mk hy301
              clear hy301
              have H' := Aside0.mk H
              clear H
              go_wp2_with (first | ((with_reducible refine gate_callee (f := 82) rfl ?_); refine goesL_ (some 26) rfl rfl Try.func82 (by kernel_rfl) rfl #[.slice A0 l0.length c0, .int .i64 x8_1] rfl (by (try simp only [List.map_toArray, List.map_cons, List.map_nil]); first | done | rfl | (simp only [List.length_drop, List.length_take]; rfl)) ?_; (with_reducible refine (verditerref08_at.calls k1 _ _ l0 x8_1 t300 _ ?side1 ?side2 A8.out).mono ?_); (case side1 => repeat (first | exact (Kd.C_below HR0.out HB.out) | (with_reducible refine Kd.C_alloc ?_ _) | (with_reducible refine Kd.C_drewN ?_ _) | (with_reducible refine Kd.C_drew ?_))); (case side2 => exact HC0.out); rintro e w' ⟨rfl, ⟨nd, rfl⟩⟩; refine ⟨_, rfl, ?_⟩) | ((with_reducible refine gate_builtin (b := .append) (xs := #[.tmp 22, .tmp 28]) rfl ?_); at_builtin; refine Kd.R_append k43 (w0 := w) w.heap.size rfl (.tmp 22) (.tmp 28) 22 43 (.agg #[(.int .i64 0), (.int .i64 0)]) 16 rfl Try.underlying22 info43 rfl (by decide) (by omega) u7 x7_1 (⟨x8_1, t300⟩ : S43) [.int .i64 x8_1, .int .i64 t300] (fun _ => True) (fun _ => False) rfl rfl ?aP (fun _ hk => hk.elim) ?aF ?aO ?aB ?aS ?aL ?_; (case aP => exact k43_mkM _ _ _ (⟨x8_1, t300⟩ : S43)); (case aB => exact (by repeat (first | (with_reducible first | exact HB.out | apply below_alloc | apply pw_below_drewN | apply below_drew1) | exact HB.out))); (case aF => exact (fun _ _ => trivial)); (case aO => exact (by (with_reducible repeat (first | apply Kd.R_alloc | apply Kd.R_drewN | apply Kd.R_drew)); exact HO_7.out)); (case aS => exact (below_size (by repeat (first | (with_reducible first | exact HB.out | apply below_alloc | apply pw_below_drewN | apply below_drew1) | exact HB.out)))); (case aL => have := LMc9.out; omega); intro v302 w10 ho hb hg hat; rw [← Ny301.out] at ho; have n0_ := Aside0.mk (hb); have n1_ := Aside0.mk (ho); clear HB; clear HO_7; have HB := n0_; have HO303 := n1_; clear n0_ n1_; clear ho hb hg hat))
              go_roundg k1
              case measure => have := HK1.out; omega
              case rel => exact ⟨(y301), (wrap64 (x8_1 + 1)), (by first | rfl | (simp; done) | (simp [*]; done)), H', ⟨by have := HK1.out; omega⟩, ⟨by (with_reducible repeat (first | apply Kd.R_alloc | apply Kd.R_drewN | apply Kd.R_drew)); exact HO303.out⟩, ⟨by repeat (first | (with_reducible first | exact HB.out | apply below_alloc | apply pw_below_drewN | apply below_drew1) | exact HB.out)⟩⟩
            · rw [if_neg c9] at H
              exact absurd H (by simp)
          · rw [if_neg c7] at H
            have c7b0 : decide (x8_1 ≤ a1) = false := decide_eq_false c7
            clear c7
            simp only [Option.some.injEq, Prod.mk.injEq] at H
            obtain ⟨rfl, rfl⟩ := H
            go_wp2
            go_ret2
            exact ⟨_, by first | rfl | (simp [errW_none, errW_some] <;> rfl) | (simp [*, errW_none, errW_some] <;> rfl), by (with_reducible repeat (first | apply Kd.R_alloc | apply Kd.R_drewN | apply Kd.R_drew)); exact HO_7.out, by repeat (first | (with_reducible first | exact HB.out | apply below_alloc | apply pw_below_drewN | apply below_drew1) | exact HB.out)⟩
    · replace c6 := Bool.eq_false_iff.mpr c6
      subst c6
      have H1 : (some (([] : List (S43)), 1)) = some (r1, r2) := by rw [if_neg (show ¬ (false = true) by decide)] at H; exact H
      clear H
      have H := H1
      clear H1
      simp only [Option.some.injEq, Prod.mk.injEq] at H
      obtain ⟨rfl, rfl⟩ := H
      go_enter Try.func50, Try.ntmps50
      go_wp2_with (first | ((with_reducible refine gate_callee (f := 81) rfl ?_); refine goesL_ (some 10) rfl rfl Try.func81 (by kernel_rfl) rfl #[.slice A0 l0.length c0] rfl (by (try simp only [List.map_toArray, List.map_cons, List.map_nil]); first | done | rfl | (simp only [List.length_drop, List.length_take]; rfl)) ?_; (with_reducible refine (verditerref08_curved.calls k _ _ l0 t298 _ ?side1 ?side2 A3.out).mono ?_); (case side1 => repeat (first | exact HR0.out | (with_reducible refine Kd.C_alloc ?_ _) | (with_reducible refine Kd.C_drewN ?_ _) | (with_reducible refine Kd.C_drew ?_))); (case side2 => exact HC0.out); rintro e w' ⟨rfl, ⟨nd, rfl⟩⟩; refine ⟨_, rfl, ?_⟩) | ((with_reducible refine gate_callee (f := 83) rfl ?_); refine goesL_ (some 15) rfl rfl Try.func83 (by kernel_rfl) rfl #[.int .i64 a1, .int .i64 1, .int .i64 12] rfl (by (try simp only [List.map_toArray, List.map_cons, List.map_nil]); first | done | rfl | (simp only [List.length_drop, List.length_take]; rfl)) ?_; (with_reducible refine (verditerref08_within.calls a1 1 12 false _ A5.out).mono ?_); rintro e w' ⟨rfl, ⟨nd, rfl⟩⟩; refine ⟨_, rfl, ?_⟩))
      go_ret2
      exact ⟨_, by first | rfl | (simp [errW_none, errW_some] <;> rfl) | (simp [*, errW_none, errW_some] <;> rfl), by first | exact Kd.R_nil _ _ _ _ _ | exact Kd.N_nil _ _ _ _ _ | exact Kd.V_nil _ _ _ _ _ | exact Kd.Q_nil _ _ _ _ _ | exact Kd.S_nil _ _ _ _ _, by repeat (first | (with_reducible first | exact HB.out | apply below_alloc | apply pw_below_drewN | apply below_drew1) | exact HB.out)⟩
  · rw [if_neg c4] at H
    have c4b0 : (t298 == 0) = false := beq_eq_false_iff_ne.mpr c4
    have c4b1 : (t298 != 0) = true := bne_iff_ne.mpr c4
    simp only [Option.some.injEq, Prod.mk.injEq] at H
    obtain ⟨rfl, rfl⟩ := H
    go_enter Try.func50, Try.ntmps50
    go_wp2_with (first | ((with_reducible refine gate_callee (f := 81) rfl ?_); refine goesL_ (some 10) rfl rfl Try.func81 (by kernel_rfl) rfl #[.slice A0 l0.length c0] rfl (by (try simp only [List.map_toArray, List.map_cons, List.map_nil]); first | done | rfl | (simp only [List.length_drop, List.length_take]; rfl)) ?_; (with_reducible refine (verditerref08_curved.calls k _ _ l0 t298 _ ?side1 ?side2 A3.out).mono ?_); (case side1 => repeat (first | exact HR0.out | (with_reducible refine Kd.C_alloc ?_ _) | (with_reducible refine Kd.C_drewN ?_ _) | (with_reducible refine Kd.C_drew ?_))); (case side2 => exact HC0.out); rintro e w' ⟨rfl, ⟨nd, rfl⟩⟩; refine ⟨_, rfl, ?_⟩))
    go_ret2
    exact ⟨_, by first | rfl | (simp [errW_none, errW_some] <;> rfl) | (simp [*, errW_none, errW_some] <;> rfl), by first | exact Kd.R_nil _ _ _ _ _ | exact Kd.N_nil _ _ _ _ _ | exact Kd.V_nil _ _ _ _ _ | exact Kd.Q_nil _ _ _ _ _ | exact Kd.S_nil _ _ _ _ _, by repeat (first | (with_reducible first | exact HB.out | apply below_alloc | apply pw_below_drewN | apply below_drew1) | exact HB.out)⟩

end Go.Proofs.Ythlbjdiicmojfaa.P

/-! Part PF89. -/
-- Written for this claim by wip/print_more.py (a session's program that runs the kit's printer with hand-proved functions beside). Lean checks it.
namespace Go.Proofs.Ythlbjdiicmojfaa.P
open Go.RowKit Go.Proofs.YthlbjdiicmojfaaW.PrintWords Go.Proofs.YthlbjdiicmojfaaW.PrintLast Go.Proofs.YthlbjdiicmojfaaW.PrintMore
attribute [local go_sem] max2_int min2_int max_two min_two max_three min_three max_four min_four   -- for this text's walks alone
set_option linter.unusedVariables false
set_option linter.unusedSimpArgs false

/-! ### secret_needed: function 89 -/
def secret_needed.f (l0 : List (S43)) (a1 : Int) : Option (Int) := (secret_Validate.f l0).bind fun t304 => (if t304 = 0 then ((secret_within.f a1 1 6).bind fun t305 => (if t305 = true then (some 0) else (some 1))) else (some t304))
set_option maxHeartbeats 8000000 in
set_option maxRecDepth 100000 in
theorem secret_needed.calls (A0 : Option Addr) (c0 : Nat) (l0 : List (S43)) (a1 : Int) (r : Int) (w : World) (hr0 : Kd.C k43 w A0 l0.length l0) (hc0 : l0.length ≤ c0) (h : secret_needed.f l0 a1 = some r) :
    Calls Try.prog 89 #[.slice A0 l0.length c0, .int .i64 a1] w fun e w' => e = .returned (.int .i64 r) ∧ Below w.heap.size w w' := by
  have HR0 := Aside0.mk hr0
  have HC0 := Aside0.mk hc0
  clear hr0 hc0
  have HB := Aside0.mk (Below.refl w.heap.size w)
  have H : ((secret_Validate.f l0).bind fun t304 => (if t304 = 0 then ((secret_within.f a1 1 6).bind fun t305 => (if t305 = true then (some 0) else (some 1))) else (some t304))) = some r := h
  clear h
  replace H := Option.bind_eq_some_iff.mp H
  obtain ⟨t304, A30, H⟩ := H
  replace H : (if t304 = 0 then ((secret_within.f a1 1 6).bind fun t305 => (if t305 = true then (some 0) else (some 1))) else (some t304)) = some r := H
  have A3 := Aside0.mk A30
  clear A30
  by_cases c4 : t304 = 0
  · rw [if_pos c4] at H
    have c4b0 : (t304 == 0) = true := beq_iff_eq.mpr c4
    have c4b1 : (t304 != 0) = false := bne_eq_false_iff_eq.mpr c4
    clear c4
    replace H := Option.bind_eq_some_iff.mp H
    obtain ⟨t305, A50, H⟩ := H
    replace H : (if t305 = true then (some 0) else (some 1)) = some r := H
    have A5 := Aside0.mk A50
    clear A50
    by_cases c6 : t305 = true
    · subst c6
      have H1 : (some 0) = some r := by rw [if_pos rfl] at H; exact H
      clear H
      have H := H1
      clear H1
      obtain rfl := Option.some.inj H
      go_enter Try.func89, Try.ntmps89
      go_wp2_with (first | ((with_reducible refine gate_callee (f := 65) rfl ?_); refine goesL_ (some 7) rfl rfl Try.func65 (by kernel_rfl) rfl #[.slice A0 l0.length c0] rfl (by (try simp only [List.map_toArray, List.map_cons, List.map_nil]); first | done | rfl | (simp only [List.length_drop, List.length_take]; rfl)) ?_; (with_reducible refine (secret_Validate.calls _ _ l0 t304 _ ?side1 ?side2 A3.out).mono ?_); (case side1 => repeat (first | exact HR0.out | (with_reducible refine Kd.C_alloc ?_ _) | (with_reducible refine Kd.C_drewN ?_ _) | (with_reducible refine Kd.C_drew ?_))); (case side2 => exact HC0.out); rintro e w7 ⟨rfl, hb⟩; refine ⟨_, rfl, ?_⟩; have n0_ := Aside0.mk (below_step (by repeat (first | (with_reducible first | exact HB.out | apply below_alloc | apply pw_below_drewN | apply below_drew1) | exact HB.out)) hb); clear HB; have HB := n0_; clear n0_; (try clear hb); (try clear hb2); (try clear hk); (try clear hi)) | ((with_reducible refine gate_callee (f := 88) rfl ?_); refine goesL_ (some 12) rfl rfl Try.func88 (by kernel_rfl) rfl #[.int .i64 a1, .int .i64 1, .int .i64 6] rfl (by (try simp only [List.map_toArray, List.map_cons, List.map_nil]); first | done | rfl | (simp only [List.length_drop, List.length_take]; rfl)) ?_; (with_reducible refine (secret_within.calls a1 1 6 true _ A5.out).mono ?_); rintro e w' ⟨rfl, ⟨nd, rfl⟩⟩; refine ⟨_, rfl, ?_⟩))
      go_ret
      exact ⟨by first | rfl | (simp [errW_none, errW_some] <;> rfl) | (simp [*, errW_none, errW_some] <;> rfl), by repeat (first | (with_reducible first | exact HB.out | apply below_alloc | apply pw_below_drewN | apply below_drew1) | exact HB.out)⟩
    · replace c6 := Bool.eq_false_iff.mpr c6
      subst c6
      have H1 : (some 1) = some r := by rw [if_neg (show ¬ (false = true) by decide)] at H; exact H
      clear H
      have H := H1
      clear H1
      obtain rfl := Option.some.inj H
      go_enter Try.func89, Try.ntmps89
      go_wp2_with (first | ((with_reducible refine gate_callee (f := 65) rfl ?_); refine goesL_ (some 7) rfl rfl Try.func65 (by kernel_rfl) rfl #[.slice A0 l0.length c0] rfl (by (try simp only [List.map_toArray, List.map_cons, List.map_nil]); first | done | rfl | (simp only [List.length_drop, List.length_take]; rfl)) ?_; (with_reducible refine (secret_Validate.calls _ _ l0 t304 _ ?side1 ?side2 A3.out).mono ?_); (case side1 => repeat (first | exact HR0.out | (with_reducible refine Kd.C_alloc ?_ _) | (with_reducible refine Kd.C_drewN ?_ _) | (with_reducible refine Kd.C_drew ?_))); (case side2 => exact HC0.out); rintro e w8 ⟨rfl, hb⟩; refine ⟨_, rfl, ?_⟩; have n0_ := Aside0.mk (below_step (by repeat (first | (with_reducible first | exact HB.out | apply below_alloc | apply pw_below_drewN | apply below_drew1) | exact HB.out)) hb); clear HB; have HB := n0_; clear n0_; (try clear hb); (try clear hb2); (try clear hk); (try clear hi)) | ((with_reducible refine gate_callee (f := 88) rfl ?_); refine goesL_ (some 12) rfl rfl Try.func88 (by kernel_rfl) rfl #[.int .i64 a1, .int .i64 1, .int .i64 6] rfl (by (try simp only [List.map_toArray, List.map_cons, List.map_nil]); first | done | rfl | (simp only [List.length_drop, List.length_take]; rfl)) ?_; (with_reducible refine (secret_within.calls a1 1 6 false _ A5.out).mono ?_); rintro e w' ⟨rfl, ⟨nd, rfl⟩⟩; refine ⟨_, rfl, ?_⟩))
      go_ret
      exact ⟨by first | rfl | (simp [errW_none, errW_some] <;> rfl) | (simp [*, errW_none, errW_some] <;> rfl), by repeat (first | (with_reducible first | exact HB.out | apply below_alloc | apply pw_below_drewN | apply below_drew1) | exact HB.out)⟩
  · rw [if_neg c4] at H
    have c4b0 : (t304 == 0) = false := beq_eq_false_iff_ne.mpr c4
    have c4b1 : (t304 != 0) = true := bne_iff_ne.mpr c4
    obtain rfl := Option.some.inj H
    go_enter Try.func89, Try.ntmps89
    go_wp2_with (first | ((with_reducible refine gate_callee (f := 65) rfl ?_); refine goesL_ (some 7) rfl rfl Try.func65 (by kernel_rfl) rfl #[.slice A0 l0.length c0] rfl (by (try simp only [List.map_toArray, List.map_cons, List.map_nil]); first | done | rfl | (simp only [List.length_drop, List.length_take]; rfl)) ?_; (with_reducible refine (secret_Validate.calls _ _ l0 t304 _ ?side1 ?side2 A3.out).mono ?_); (case side1 => repeat (first | exact HR0.out | (with_reducible refine Kd.C_alloc ?_ _) | (with_reducible refine Kd.C_drewN ?_ _) | (with_reducible refine Kd.C_drew ?_))); (case side2 => exact HC0.out); rintro e w9 ⟨rfl, hb⟩; refine ⟨_, rfl, ?_⟩; have n0_ := Aside0.mk (below_step (by repeat (first | (with_reducible first | exact HB.out | apply below_alloc | apply pw_below_drewN | apply below_drew1) | exact HB.out)) hb); clear HB; have HB := n0_; clear n0_; (try clear hb); (try clear hb2); (try clear hk); (try clear hi)))
    go_ret
    exact ⟨by first | rfl | (simp [errW_none, errW_some] <;> rfl) | (simp [*, errW_none, errW_some] <;> rfl), by repeat (first | (with_reducible first | exact HB.out | apply below_alloc | apply pw_below_drewN | apply below_drew1) | exact HB.out)⟩

end Go.Proofs.Ythlbjdiicmojfaa.P
