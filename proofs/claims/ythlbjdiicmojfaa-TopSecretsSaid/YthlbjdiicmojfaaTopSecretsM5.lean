/- Parts of the proof of the law TopSecrets: walks of functions that it reaches, and plain facts about numbers, lists and curves; without a condition. -/
import Derived.Test.YthlbjdiicmojfaaTopSecretsM4
import Derived.Test.YthlbjdiicmojfaaTopSecretsM2
import Derived.Test.YthlbjdiicmojfaaTopSecretsM1
import Derived.Test.YthlbjdiicmojfaaTopSecretsM3
/-! Part Alg. -/
namespace Ply
theorem inv_ex : ∀ a : Fin 251, a ≠ 0 → ∃ b, a * b = 1 := by
  have h : ∀ a : Fin 251, a ≠ 0 → a * a^249 = 1 := by decide +kernel
  exact fun a ha => ⟨_, h a ha⟩
theorem nzd (a b : Fin 251) (h : a * b = 0) (ha : a ≠ 0) : b = 0 := by
  obtain ⟨c, hc⟩ := inv_ex a ha
  have : b = (a * c) * b := by rw [hc]; grind
  have h2 : a * c * b = c * (a * b) := by grind
  rw [this, h2, h]; grind
def ev : List (Fin 251) → Fin 251 → Fin 251
  | [], _ => 0
  | c :: q, x => c + x * ev q x
def dv (a : Fin 251) : List (Fin 251) → List (Fin 251)
  | [] => []
  | [_] => []
  | _ :: c :: q => ev (c :: q) a :: dv a (c :: q)
theorem ev_dv (a x : Fin 251) : ∀ p, ev p x = ev p a + (x - a) * ev (dv a p) x
  | [] => by simp only [ev, dv]; grind
  | [c] => by simp only [ev, dv]; grind
  | d :: c :: q => by
    have ih := ev_dv a x (c :: q)
    simp only [dv, ev] at ih ⊢
    generalize ev (dv a (c :: q)) x = t at *
    generalize ev q a = u at *
    generalize ev q x = v at *
    grind
theorem len_dv (a : Fin 251) : ∀ p, (dv a p).length = p.length - 1
  | [] => rfl
  | [_] => rfl
  | _ :: c :: q => by
    have ih := len_dv a (c :: q)
    simp only [dv, List.length_cons] at ih ⊢
    omega
theorem dv_zero (a : Fin 251) : ∀ p, (∀ c ∈ dv a p, c = 0) → ev p a = 0 → ∀ c ∈ p, c = 0
  | [], _, _ => by simp
  | [c], _, h => by
    simp only [ev] at h
    have h2 : c = 0 := by grind
    simp [h2]
  | d :: c :: q, hz, h => by
    simp only [dv, List.mem_cons, forall_eq_or_imp] at hz
    have h1 : d = 0 := by
      have h' : d + a * ev (c :: q) a = 0 := h
      rw [hz.1] at h'; grind
    have ih := dv_zero a (c :: q) hz.2 hz.1
    intro x hx
    rcases List.mem_cons.1 hx with rfl | hx
    · exact h1
    · exact ih x hx
theorem roots (n : Nat) : ∀ (p xs : List (Fin 251)), p.length = n → xs.Nodup → n ≤ xs.length → (∀ x ∈ xs, ev p x = 0) → ∀ c ∈ p, c = 0 := by
  induction n with
  | zero => intro p xs hp _ _ _; rw [List.length_eq_zero_iff.1 hp]; simp
  | succ n ih =>
    intro p xs hp hn hl hz
    cases xs with
    | nil => simp at hl
    | cons a xs =>
      have ha := hz a (by simp)
      refine dv_zero a p (ih (dv a p) xs (by rw [len_dv, hp]; rfl) (List.nodup_cons.1 hn).2 (by simp at hl; omega) ?_) ha
      intro x hx
      have h1 := ev_dv a x p
      rw [hz x (by simp [hx]), ha] at h1
      have hne : x - a ≠ 0 := by
        intro e
        have : x = a := by
          have : x = (x - a) + a := by grind
          rw [this, e]; grind
        rw [this] at hx; exact (List.nodup_cons.1 hn).1 hx
      refine nzd (x - a) _ ?_ hne
      generalize ev (dv a p) x = t at *
      grind
theorem ev_sub : ∀ (p q : List (Fin 251)) (x : Fin 251), p.length = q.length → ev (List.zipWith (fun a b => a - b) p q) x = ev p x - ev q x
  | [], [], x, _ => by simp [ev]
  | a :: p, b :: q, x, h => by
    have ih := ev_sub p q x (by simpa using h)
    simp only [List.zipWith_cons_cons, ev, ih]
    grind
theorem sub_zero_eq : ∀ (p q : List (Fin 251)), p.length = q.length → (∀ c ∈ List.zipWith (fun a b => a - b) p q, c = 0) → p = q
  | [], [], _, _ => rfl
  | a :: p, b :: q, h, hz => by
    simp only [List.zipWith_cons_cons, List.mem_cons, forall_eq_or_imp] at hz
    have hab : a = b := by
      have : a = (a - b) + b := by grind
      rw [this, hz.1]; grind
    rw [hab, sub_zero_eq p q (by simpa using h) hz.2]
theorem uniq (p q xs : List (Fin 251)) (hl : p.length = q.length) (hn : xs.Nodup) (hx : p.length ≤ xs.length) (h : ∀ x ∈ xs, ev p x = ev q x) : p = q := by
  refine sub_zero_eq p q hl (roots p.length _ xs (by simp [hl]) hn hx ?_)
  intro x hm
  rw [ev_sub p q x hl, h x hm]; grind
end Ply

/-! Part Lag. -/
namespace Go.Proofs.Ythlbjdiicmojfaa.P
open Go.RowKit Go.Proofs.YthlbjdiicmojfaaW.PrintWords Go.Proofs.YthlbjdiicmojfaaW.PrintLast Go.Proofs.YthlbjdiicmojfaaW.PrintMore
open Ply
set_option linter.unusedVariables false

theorem getD_get {α : Type} (l : List α) (d : α) {i : Nat} (h : i < l.length) : l.getD i d = l[i] := by
  simp [List.getD, List.getElem?_eq_getElem h]
/-! ### Numbers as classes -/
def cst (n : Int) : Fin 251 := ⟨(n % 251).toNat, by omega⟩
theorem cst_mod (a : Int) : cst (a % 251) = cst a := by
  unfold cst; congr 2; omega
theorem cst_add (a b : Int) : cst (a + b) = cst a + cst b := by
  apply Fin.ext
  simp only [cst, Fin.val_add]
  omega
theorem cst_zero : cst 0 = 0 := rfl
theorem cst_one : cst 1 = 1 := rfl
theorem cst_sub (a b : Int) : cst (a - b) = cst a - cst b := by
  have h := cst_add (a - b) b
  rw [show a - b + b = a by omega] at h
  rw [h]; grind
theorem cst_mul (a b : Int) : cst (a * b) = cst a * cst b := by
  apply Fin.ext
  simp only [cst, Fin.val_mul]
  have h1 : ((a % 251).toNat : Int) = a % 251 := by omega
  have h2 : ((b % 251).toNat : Int) = b % 251 := by omega
  have h3 : a * b % 251 = (a % 251) * (b % 251) % 251 := Int.mul_emod a b 251
  have h4 : ((((a % 251).toNat * (b % 251).toNat) % 251 : Nat) : Int) = (a % 251) * (b % 251) % 251 := by
    rw [Int.natCast_emod, Int.natCast_mul, h1, h2]; rfl
  have h5 : (((a * b % 251).toNat : Nat) : Int) = a * b % 251 := by omega
  omega
theorem cst_inj {a b : Int} (ha : num a = true) (hb : num b = true) (h : cst a = cst b) : a = b := by
  rw [num_iff] at ha hb
  have := congrArg Fin.val h
  simp only [cst] at this
  omega
theorem cst_ne {a b : Int} (ha : num a = true) (hb : num b = true) (h : a ≠ b) : cst a - cst b ≠ 0 := by
  intro e
  apply h
  apply cst_inj ha hb
  have : cst a = (cst a - cst b) + cst b := by grind
  rw [this, e]; grind

/-! ### A curve's value -/
theorem cst_atI : ∀ (c : List Int) (x : Int), cst (atI c x) = ev (c.map cst) (cst x)
  | [], x => rfl
  | n :: c, x => by
    have ih := cst_atI c x
    show cst ((atI c x * x + n) % 251) = cst n + cst x * ev (c.map cst) (cst x)
    rw [cst_mod, cst_add, cst_mul, ih]; grind
theorem atI_eq {c : List Int} {x r : Int} (hr : num r = true) (h : cst r = ev (c.map cst) (cst x)) : r = atI c x := cst_inj hr (num_atI c x) (by rw [h, cst_atI])

/-! ### Products and sums of curves -/
theorem ev_timesL : ∀ (c : List Int) (less m carry : Int) (x : Fin 251), ev ((timesL c less m carry).map cst) x = cst carry + (x - cst less) * cst m * ev (c.map cst) x
  | [], less, m, carry, x => by
    simp only [timesL, List.map_cons, List.map_nil, ev, cst_mod]; grind
  | n :: c, less, m, carry, x => by
    have ih := ev_timesL c less m (n * m) x
    simp only [timesL, List.map_cons, ev, cst_mod, ih, cst_sub, cst_mul]
    generalize ev (c.map cst) x = t
    grind
theorem ev_zip (f : Int → Int → Int) (u v : Fin 251) (hf : ∀ a b, cst (f a b) = u * cst a + v * cst b) : ∀ (c d : List Int) (x : Fin 251), c.length = d.length → ev ((List.zipWith f c d).map cst) x = u * ev (c.map cst) x + v * ev (d.map cst) x
  | [], [], x, _ => by simp only [List.zipWith_nil_left, List.map_nil, ev]; grind
  | a :: c, b :: d, x, h => by
    have ih := ev_zip f u v hf c d x (by simpa using h)
    simp only [List.zipWith_cons_cons, List.map_cons, ev, ih, hf]
    grind
theorem ev_plusL (c d : List Int) (x : Fin 251) (h : c.length = d.length) : ev ((plusL c d).map cst) x = ev (c.map cst) x + ev (d.map cst) x := by
  have := ev_zip (fun a b => (a + b) % 251) 1 1 (fun a b => by rw [cst_mod, cst_add]; grind) c d x h
  rw [show plusL c d = List.zipWith (fun a b => (a + b) % 251) c d from rfl, this]; grind
theorem ev_zeros (x : Fin 251) : ∀ n, ev ((List.replicate n (0 : Int)).map cst) x = 0
  | 0 => rfl
  | n + 1 => by
    rw [List.replicate_succ, List.map_cons, ev, ev_zeros x n, cst_zero]; grind

/-! ### The inverse -/
theorem cst_powIt (n : Int) : ∀ d x, cst (powIt n d x) = cst x * cst n ^ d
  | 0, x => by simp only [powIt]; grind
  | d + 1, x => by
    rw [powIt, cst_powIt n d, cst_mod, cst_mul]; grind
theorem inv_all : ∀ a : Fin 251, a ≠ 0 → a * a ^ 249 = 1 := by decide +kernel
theorem inv_mul (n : Int) (h : cst n ≠ 0) : cst (invI n) * cst n = 1 := by
  unfold invI
  rw [cst_powIt, cst_one]
  have := inv_all (cst n) h
  grind

/-! ### Lagrange's curves -/
theorem ev_basis_zero (xi : Int) (x : Fin 251) : ∀ (others c : List Int), (∃ xj ∈ others, cst xj = x) ∨ ev (c.map cst) x = 0 → ev ((basis xi others c).map cst) x = 0
  | [], c, h => by
    rcases h with ⟨_, h, _⟩ | h
    · simp at h
    · exact h
  | y :: others, c, h => by
    refine ev_basis_zero xi x others (timesL c y (invI ((xi - y) % 251)) 0) ?_
    rcases h with ⟨xj, hm, he⟩ | h
    · rcases List.mem_cons.1 hm with rfl | hm
      · right
        rw [ev_timesL, ← he, cst_zero]; grind
      · exact .inl ⟨xj, hm, he⟩
    · right
      rw [ev_timesL, h, cst_zero]; grind
theorem ev_basis_own (xi : Int) : ∀ (others c : List Int), (∀ xj ∈ others, cst xi - cst xj ≠ 0) → ev ((basis xi others c).map cst) (cst xi) = ev (c.map cst) (cst xi)
  | [], c, h => rfl
  | y :: others, c, h => by
    have ih := ev_basis_own xi others (timesL c y (invI ((xi - y) % 251)) 0) (fun xj hj => h xj (List.mem_cons_of_mem _ hj))
    rw [show basis xi (y :: others) c = basis xi others (timesL c y (invI ((xi - y) % 251)) 0) from rfl, ih, ev_timesL, cst_zero]
    have h1 := inv_mul ((xi - y) % 251) (by rw [cst_mod, cst_sub]; exact h y (by simp))
    rw [cst_mod, cst_sub] at h1
    generalize cst (invI ((xi - y) % 251)) = t at *
    generalize ev (c.map cst) (cst xi) = u at *
    grind

/-! ### The curve through points -/
/-- Points whose places are numbers, all different; their values are numbers. -/
def good (p : List (Int × Int)) : Prop := (∀ q ∈ p, num q.1 = true ∧ num q.2 = true) ∧ (p.map Prod.fst).Nodup
theorem ev_one_own {p : List (Int × Int)} (h : good p) {i : Nat} (hi : i < p.length) : ev ((oneL p i).map cst) (cst (p.getD i (0, 0)).1) = cst (p.getD i (0, 0)).2 := by
  unfold oneL
  rw [ev_basis_own]
  · simp only [List.map_cons, List.map_nil, ev]; grind
  · intro xj hm
    obtain ⟨j, hj, hne, rfl⟩ := List.mem_eraseIdx_iff_getElem.1 hm
    rw [List.length_map] at hj
    rw [getD_get _ _ hi]
    refine cst_ne (h.1 _ (List.getElem_mem hi)).1 (by rw [List.getElem_map]; exact (h.1 _ (List.getElem_mem hj)).1) fun e => hne ?_
    have h2 := h.2
    rw [List.Nodup, List.pairwise_iff_getElem] at h2
    rcases Nat.lt_trichotomy i j with hlt | heq | hgt
    · exact absurd (by rw [List.getElem_map, List.getElem_map]; simpa using e) (h2 i j (by simpa using hi) (by simpa using hj) hlt)
    · exact heq.symm
    · exact absurd (by rw [List.getElem_map, List.getElem_map]; simpa using e.symm) (h2 j i (by simpa using hj) (by simpa using hi) hgt)
theorem ev_one_other {p : List (Int × Int)} {i j : Nat} (hj : j < p.length) (hne : j ≠ i) : ev ((oneL p i).map cst) (cst (p.getD j (0, 0)).1) = 0 := by
  unfold oneL
  refine ev_basis_zero _ _ _ _ (.inl ⟨(p.getD j (0, 0)).1, ?_, rfl⟩)
  refine List.mem_eraseIdx_iff_getElem.2 ⟨j, by simpa using hj, hne, ?_⟩
  rw [List.getElem_map, getD_get _ _ hj]
theorem ev_interpTo {p : List (Int × Int)} (h : good p) {j : Nat} (hj : j < p.length) : ∀ m, m ≤ p.length → ev ((interpTo p m).map cst) (cst (p.getD j (0, 0)).1) = if j < m then cst (p.getD j (0, 0)).2 else 0
  | 0, _ => by
    rw [if_neg (by omega)]
    exact ev_zeros _ _
  | m + 1, hm => by
    rw [interpTo_succ, ev_plusL _ _ _ (by rw [interpTo_length p m (by omega), oneL_length p m (by omega)]), ev_interpTo h hj m (by omega)]
    by_cases e : j = m
    · subst e
      rw [if_neg (by omega), if_pos (by omega), ev_one_own h hj]; grind
    · rw [ev_one_other hj e]
      by_cases hlt : j < m
      · rw [if_pos hlt, if_pos (by omega)]; grind
      · rw [if_neg hlt, if_neg (by omega)]; grind
theorem interp_len (p : List (Int × Int)) : (interp p).length = p.length := interpTo_length p _ (Nat.le_refl _)
theorem interp_nums (p : List (Int × Int)) : ∀ n ∈ interp p, num n = true := interpTo_num p _
theorem interp_at {p : List (Int × Int)} (h : good p) {q : Int × Int} (hq : q ∈ p) : atI (interp p) q.1 = q.2 := by
  obtain ⟨j, hj, rfl⟩ := List.mem_iff_getElem.1 hq
  symm
  refine atI_eq (h.1 _ hq).2 ?_
  have := ev_interpTo h hj p.length (Nat.le_refl _)
  rw [if_pos hj, getD_get _ _ hj] at this
  exact this.symm

/-! ### One curve alone -/
theorem map_cst_inj : ∀ (c d : List Int), (∀ n ∈ c, num n = true) → (∀ n ∈ d, num n = true) → c.map cst = d.map cst → c = d
  | [], [], _, _, _ => rfl
  | [], _ :: _, _, _, h => by simp at h
  | _ :: _, [], _, _, h => by simp at h
  | a :: c, b :: d, hc, hd, h => by
    simp only [List.map_cons, List.cons.injEq] at h
    rw [cst_inj (hc a (by simp)) (hd b (by simp)) h.1, map_cst_inj c d (fun n hn => hc n (by simp [hn])) (fun n hn => hd n (by simp [hn])) h.2]
theorem nodup_cst : ∀ {xs : List Int}, (∀ x ∈ xs, num x = true) → xs.Nodup → (xs.map cst).Nodup
  | [], _, _ => by simp
  | a :: xs, hn, h => by
    rw [List.nodup_cons] at h
    rw [List.map_cons, List.nodup_cons]
    refine ⟨fun hm => ?_, nodup_cst (fun x hx => hn x (by simp [hx])) h.2⟩
    obtain ⟨b, hb, e⟩ := List.mem_map.1 hm
    rw [cst_inj (hn b (by simp [hb])) (hn a (by simp)) e] at hb
    exact h.1 hb
theorem curve_uniq {c d xs : List Int} (hl : c.length = d.length) (hc : ∀ n ∈ c, num n = true) (hd : ∀ n ∈ d, num n = true) (hx : ∀ x ∈ xs, num x = true) (hn : xs.Nodup) (hlen : c.length ≤ xs.length)
    (h : ∀ x ∈ xs, atI c x = atI d x) : c = d := by
  refine map_cst_inj c d hc hd (uniq _ _ (xs.map cst) (by simpa using hl) (nodup_cst hx hn) (by simpa using hlen) ?_)
  intro y hy
  obtain ⟨x, hm, rfl⟩ := List.mem_map.1 hy
  rw [← cst_atI, ← cst_atI, h x hm]
theorem interp_uniq {p : List (Int × Int)} {c : List Int} (h : good p) (hl : c.length = p.length) (hc : ∀ n ∈ c, num n = true) (ha : ∀ q ∈ p, atI c q.1 = q.2) : c = interp p := by
  refine curve_uniq (xs := p.map Prod.fst) (by rw [hl, interp_len]) hc (interp_nums p) ?_ h.2 (by rw [List.length_map]; omega) ?_
  · intro x hx
    obtain ⟨q, hq, rfl⟩ := List.mem_map.1 hx
    exact (h.1 q hq).1
  · intro x hx
    obtain ⟨q, hq, rfl⟩ := List.mem_map.1 hx
    rw [ha q hq, interp_at h hq]
theorem atI_zero {c : List Int} (hc : ∀ n ∈ c, num n = true) : atI c 0 = c.getD 0 0 := by
  cases c with
  | nil => rfl
  | cons n c =>
    have := num_iff.1 (hc n (by simp))
    show (atI c 0 * 0 + n) % 251 = n
    omega
theorem atI_more (c : List Int) (x : Int) : ∀ n, atI (c ++ List.replicate n 0) x = atI c x
  | 0 => by simp
  | n + 1 => by
    rw [List.replicate_succ', ← List.append_assoc]
    unfold atI
    rw [List.foldr_append]
    simp only [List.foldr_cons, List.foldr_nil]
    rw [show ((0 : Int) * x + 0) % 251 = 0 by rw [Int.zero_mul]; rfl]
    exact atI_more c x n
theorem good_pts {l : List S43} (h : valid l = 0) : good (pts l) := by
  obtain ⟨_, hok, hn⟩ := valid_iff.1 h
  refine ⟨fun q hq => ?_, ?_⟩
  · obtain ⟨p, hp, rfl⟩ := List.mem_map.1 hq
    have := okP_iff.1 (hok p hp)
    exact ⟨num_iff.2 (by simp only; omega), num_iff.2 (by simp only; omega)⟩
  · unfold pts
    rw [List.map_map]
    exact hn
theorem pts_length (l : List S43) : (pts l).length = l.length := by simp [pts]
theorem mem_pts {l : List S43} {p : S43} (h : p ∈ l) : (p.f0, p.f1) ∈ pts l := List.mem_map.2 ⟨p, h, rfl⟩
end Go.Proofs.Ythlbjdiicmojfaa.P

/-! Part PF84. -/
-- Written for this claim by wip/print_more.py (a session's program that runs the kit's printer with hand-proved functions beside). Lean checks it.
namespace Go.Proofs.Ythlbjdiicmojfaa.P
open Go.RowKit Go.Proofs.YthlbjdiicmojfaaW.PrintWords Go.Proofs.YthlbjdiicmojfaaW.PrintLast Go.Proofs.YthlbjdiicmojfaaW.PrintMore
attribute [local go_sem] max2_int min2_int max_two min_two max_three min_three max_four min_four   -- for this text's walks alone
set_option linter.unusedVariables false
set_option linter.unusedSimpArgs false

/-! ### verditerref08_inverse: function 84 -/
def verditerref08_inverse.l0 : Nat → Int → Int → Option (Int)
  | 0, _, _ => none
  | k + 1, x0, x3 => (verditerref08_mod.f (wrap64 (x0 * x3))).bind fun t180 => (if t180 = 1 then (some x3) else (verditerref08_inverse.l0 k x0 (wrap64 (x3 + 1))))
def verditerref08_inverse.f (k : Nat) (a0 : Int) : Option (Int) := verditerref08_inverse.l0 k a0 1
end Go.Proofs.Ythlbjdiicmojfaa.P

/-! Part Ref. -/
namespace Go.Proofs.Ythlbjdiicmojfaa.P
open Go.RowKit Go.Proofs.YthlbjdiicmojfaaW.PrintWords Go.Proofs.YthlbjdiicmojfaaW.PrintLast Go.Proofs.YthlbjdiicmojfaaW.PrintMore
open Ply
set_option linter.unusedVariables false

theorem rd_get (l : List Int) (i : Nat) (h : i < l.length) : rd l (i : Int) = l[i] := by
  unfold rd; rw [Int.toNat_natCast]; exact getD_get l 0 h
theorem rdT_get (l : List S43) (i : Nat) (h : i < l.length) : rd_T43 l (i : Int) = l[i] := by
  unfold rd_T43; rw [Int.toNat_natCast]; exact getD_get l z43 h
theorem wrap_succ (i : Nat) (h : i ≤ 1000000) : wrap64 ((i : Int) + 1) = ((i + 1 : Nat) : Int) := by
  rw [wrap_id (a := (i : Int) + 1) (by omega) (by omega)]; omega

/-! ### The inverse -/
theorem invI_mul {a : Int} (ha : num a = true) (h0 : a ≠ 0) : cst a * cst (invI a) = 1 := by
  have h := inv_mul a (by
    have := cst_ne ha (show num 0 = true from rfl) h0
    rw [cst_zero] at this
    intro e; apply this; rw [e]; grind)
  generalize cst (invI a) = u at *
  generalize cst a = v at *
  grind
theorem mul_one_iff {a b : Int} : (a * b) % 251 = 1 ↔ cst a * cst b = 1 := by
  rw [← cst_mul]
  constructor
  · intro h; rw [← cst_mod, h]; rfl
  · intro h; exact cst_inj (num_mod _) rfl (by rw [cst_mod, h]; rfl)
theorem invI_pos {a : Int} (ha : num a = true) (h0 : a ≠ 0) : 1 ≤ invI a ∧ invI a ≤ 250 := by
  have h1 := num_iff.1 (num_invI a)
  refine ⟨?_, h1.2⟩
  rcases Int.lt_or_le 0 (invI a) with h | h
  · omega
  · have e : invI a = 0 := by omega
    have := invI_mul ha h0
    rw [e, cst_zero] at this
    have h2 : cst a * 0 = 0 := by grind
    rw [h2] at this
    exact absurd this (by decide)
theorem rinv_loop (a t : Int) (ha : num a = true) (h2 : cst a * cst t = 1) (hi : 1 ≤ t ∧ t ≤ 250) : ∀ (d : Nat) (b : Int) (k : Nat), 1 ≤ b → b + d = t → d < k → verditerref08_inverse.l0 k a b = some t := by
  have ha' := num_iff.1 ha
  intro d
  induction d with
  | zero =>
    intro b k hb he hk
    obtain ⟨k, rfl⟩ : ∃ j, k = j + 1 := ⟨k - 1, by omega⟩
    have e : b = t := by omega
    subst e
    have hm := mul_range ha'.1 ha'.2 (by omega) hi.2
    rw [verditerref08_inverse.l0, wrap_id (a := a * b) (by omega) (by omega), mod_eq, Option.bind_some, if_pos (mul_one_iff.2 h2)]
  | succ d ih =>
    intro b k hb he hk
    obtain ⟨k, rfl⟩ : ∃ j, k = j + 1 := ⟨k - 1, by omega⟩
    have hm := mul_range ha'.1 ha'.2 (show 0 ≤ b by omega) (show b ≤ 250 by omega)
    have hne : ¬ (a * b) % 251 = 1 := by
      intro h
      have h1 := mul_one_iff.1 h
      have h3 : cst b = cst t := by
        have : cst b = cst b * (cst a * cst t) := by rw [h2]; grind
        rw [this]
        have : cst b * (cst a * cst t) = (cst a * cst b) * cst t := by grind
        rw [this, h1]; grind
      have := cst_inj (num_iff.2 ⟨by omega, by omega⟩) (num_iff.2 ⟨by omega, by omega⟩) h3
      omega
    rw [verditerref08_inverse.l0, wrap_id (a := a * b) (by omega) (by omega), mod_eq, Option.bind_some, if_neg hne, wrap_id (a := b + 1) (by omega) (by omega)]
    exact ih (b + 1) k (by omega) (by omega) (by omega)
theorem rinv_eq (a : Int) (ha : num a = true) (h0 : a ≠ 0) (k : Nat) (hk : 251 ≤ k) : verditerref08_inverse.f k a = some (invI a) := by
  have hi := invI_pos ha h0
  have h2 := invI_mul ha h0
  rw [verditerref08_inverse.f]
  generalize invI a = t at *
  exact rinv_loop a t ha h2 hi (t - 1).toNat 1 k (by omega) (by omega) (by omega)

/-! ### Equal lists -/
theorem sameInts_loop (c : List Int) (hl : c.length ≤ 1000) : ∀ (d i k : Nat), i + d = c.length → d < k → verditerref08_SameInts.l0 k c c (i : Int) = some true := by
  intro d
  induction d with
  | zero =>
    intro i k hi hk
    obtain ⟨k, rfl⟩ : ∃ j, k = j + 1 := ⟨k - 1, by omega⟩
    rw [verditerref08_SameInts.l0, if_neg (by omega)]
  | succ d ih =>
    intro i k hi hk
    obtain ⟨k, rfl⟩ : ∃ j, k = j + 1 := ⟨k - 1, by omega⟩
    rw [verditerref08_SameInts.l0, if_pos (by omega), if_pos (by omega), if_pos (by omega), if_pos rfl, wrap_succ i (by omega)]
    exact ih (i + 1) k (by omega) (by omega)
theorem sameInts_self (c : List Int) (hl : c.length ≤ 1000) (k : Nat) (hk : c.length < k) : verditerref08_SameInts.f k c c = some true := by
  rw [verditerref08_SameInts.f, if_pos rfl]
  exact sameInts_loop c hl c.length 0 k (by omega) hk
end Go.Proofs.Ythlbjdiicmojfaa.P

/-! Part PF76. -/
-- Written for this claim by wip/print_more.py (a session's program that runs the kit's printer with hand-proved functions beside). Lean checks it.
namespace Go.Proofs.Ythlbjdiicmojfaa.P
open Go.RowKit Go.Proofs.YthlbjdiicmojfaaW.PrintWords Go.Proofs.YthlbjdiicmojfaaW.PrintLast Go.Proofs.YthlbjdiicmojfaaW.PrintMore
attribute [local go_sem] max2_int min2_int max_two min_two max_three min_three max_four min_four   -- for this text's walks alone
set_option linter.unusedVariables false
set_option linter.unusedSimpArgs false

mutual
def verditerref08_through.l0 : Nat → List (S43) → List Int → Int → Option (List Int)
  | 0, _, _, _ => none
  | k + 1, x0, x3, x4 => if x4 < (x0.length : Int) then (verditerref08_through.l1 k x0 x3 x4 (([1] : List Int)) 1 0) else (some x3)
def verditerref08_through.l1 : Nat → List (S43) → List Int → Int → List Int → Int → Int → Option (List Int)
  | 0, _, _, _, _, _, _ => none
  | k + 1, x0, x3, x4, x5, x6, x7 => if x7 < (x0.length : Int) then (if x7 = x4 then (verditerref08_through.l1 k x0 x3 x4 x5 x6 (wrap64 (x7 + 1))) else (if 0 ≤ (wrap64 ((x5.length : Int) + 1)) then (if (wrap64 ((x5.length : Int) + 1) : Int).toNat ≤ 35184372088832 then (verditerref08_through.l2 k x0 x3 x4 x5 x6 x7 (List.replicate (wrap64 ((x5.length : Int) + 1) : Int).toNat 0) 0) else (none)) else (none))) else (if 0 ≤ x4 then (if x4 < (x0.length : Int) then ((verditerref08_inverse.f k x6).bind fun t203 => ((verditerref08_mod.f (wrap64 (((rd_T43 x0 x4).f1) * t203))).bind fun t204 => (verditerref08_through.l3 k x0 x3 x4 x5 t204 0))) else (none)) else (none))
def verditerref08_through.l2 : Nat → List (S43) → List Int → Int → List Int → Int → Int → List Int → Int → Option (List Int)
  | 0, _, _, _, _, _, _, _, _ => none
  | k + 1, x0, x3, x4, x5, x6, x7, x8, x9 => if x9 < (x5.length : Int) then (if 0 ≤ x9 then (if x9 < (x8.length : Int) then (if 0 ≤ x7 then (if x7 < (x0.length : Int) then ((verditerref08_mod.f (wrap64 ((rd x8 x9) - (wrap64 ((rd x5 x9) * ((rd_T43 x0 x7).f0)))))).bind fun t193 => ((some (x8.set (x9 : Int).toNat t193 : List Int)).bind fun y194 => (if 0 ≤ (wrap64 (x9 + 1)) then (if (wrap64 (x9 + 1)) < (x8.length : Int) then ((verditerref08_mod.f (wrap64 ((rd y194 (wrap64 (x9 + 1))) + (rd x5 x9)))).bind fun t197 => (verditerref08_through.l2 k x0 x3 x4 x5 x6 x7 (y194.set ((wrap64 (x9 + 1)) : Int).toNat t197) (wrap64 (x9 + 1)))) else (none)) else (none)))) else (none)) else (none)) else (none)) else (none)) else (if 0 ≤ x4 then (if x4 < (x0.length : Int) then (if 0 ≤ x7 then (if x7 < (x0.length : Int) then ((verditerref08_mod.f (wrap64 (x6 * (wrap64 (((rd_T43 x0 x4).f0) - ((rd_T43 x0 x7).f0)))))).bind fun t201 => (verditerref08_through.l1 k x0 x3 x4 x8 t201 (wrap64 (x7 + 1)))) else (none)) else (none)) else (none)) else (none))
def verditerref08_through.l3 : Nat → List (S43) → List Int → Int → List Int → Int → Int → Option (List Int)
  | 0, _, _, _, _, _, _ => none
  | k + 1, x0, x3, x4, x5, x10, x11 => if x11 < (x5.length : Int) then (if 0 ≤ x11 then (if x11 < (x3.length : Int) then ((verditerref08_mod.f (wrap64 ((rd x3 x11) + (wrap64 (x10 * (rd x5 x11)))))).bind fun t207 => (verditerref08_through.l3 k x0 (x3.set (x11 : Int).toNat t207) x4 x5 x10 (wrap64 (x11 + 1)))) else (none)) else (none)) else (verditerref08_through.l0 k x0 x3 (wrap64 (x4 + 1)))
end
end Go.Proofs.Ythlbjdiicmojfaa.P

/-! Part Thr. -/
namespace Go.Proofs.Ythlbjdiicmojfaa.P
open Go.RowKit Go.Proofs.YthlbjdiicmojfaaW.PrintWords Go.Proofs.YthlbjdiicmojfaaW.PrintLast Go.Proofs.YthlbjdiicmojfaaW.PrintMore
open Ply
set_option linter.unusedVariables false

/-- From K rounds on the answer is R. -/
def From (K : Nat) {α : Type} (g : Nat → Option α) (R : α) : Prop := ∀ k, K ≤ k → g k = some R
theorem From.step {K : Nat} {α : Type} {g f : Nat → Option α} {R : α} (h : From K f R) (e : ∀ k, K ≤ k → g (k + 1) = f k) : From (K + 1) g R := by
  intro k hk
  obtain ⟨k, rfl⟩ : ∃ j, k = j + 1 := ⟨k - 1, by omega⟩
  rw [e k (by omega)]; exact h k (by omega)
theorem From.more {K K' : Nat} {α : Type} {g : Nat → Option α} {R : α} (h : From K g R) (hk : K ≤ K') : From K' g R := fun k h' => h k (by omega)

theorem set_next (P : List Int) (x y z : Int) (q : List Int) {i : Int} (h : i = P.length) : (P ++ x :: y :: q).set (i + 1).toNat z = P ++ x :: z :: q := by
  subst h
  rw [show ((P.length : Int) + 1).toNat = P.length + 1 by omega, List.set_append, if_neg (by omega), show P.length + 1 - P.length = 1 by omega]
  rfl
theorem rd_next (P : List Int) (x y : Int) (q : List Int) {i : Int} (h : i = P.length) : rd (P ++ x :: y :: q) (i + 1) = y := by
  subst h; unfold rd
  rw [show ((P.length : Int) + 1).toNat = P.length + 1 by omega]
  simp [List.getD]

theorem l2_eq (l : List S43) (out : List Int) (i j : Nat) (below : Int) (prod : List Int) (hi : i < l.length) (hj : j < l.length) (hl : l.length ≤ 100) (hp : prod.length ≤ 100)
    (hX : num l[j].f0 = true) (hXi : num l[i].f0 = true) (hb : num below = true) {K : Nat} {R : List Int} : ∀ (rest c1 P : List Int) (carry : Int), prod = c1 ++ rest → P.length = c1.length → (∀ n ∈ rest, num n = true) → num carry = true →
    From K (fun k => verditerref08_through.l1 k l out (i : Int) (P ++ timesL rest l[j].f0 1 carry) ((below * (l[i].f0 - l[j].f0)) % 251) ((j + 1 : Nat) : Int)) R →
    From (K + rest.length + 1) (fun k => verditerref08_through.l2 k l out (i : Int) prod below (j : Int) (P ++ (carry % 251) :: List.replicate rest.length 0) (c1.length : Int)) R := by
  intro rest
  have hX' := num_iff.1 hX
  have hXi' := num_iff.1 hXi
  have hb' := num_iff.1 hb
  induction rest with
  | nil =>
    intro c1 P carry hc hP hn hcy H
    refine From.step H fun k hk => ?_
    have h1 := mul_range hb'.1 hb'.2 hXi'.1 hXi'.2
    have h2 := mul_range hb'.1 hb'.2 hX'.1 hX'.2
    have h3 : below * (l[i].f0 - l[j].f0) = below * l[i].f0 - below * l[j].f0 := Int.mul_sub ..
    rw [verditerref08_through.l2, if_neg (by rw [hc]; simp), if_pos (by omega), if_pos (by omega), if_pos (by omega), if_pos (by omega), rdT_get l i hi, rdT_get l j hj,
      wrap_id (a := l[i].f0 - l[j].f0) (by omega) (by omega), wrap_id (a := below * (l[i].f0 - l[j].f0)) (by omega) (by omega), mod_eq, Option.bind_some, wrap_succ j (by omega)]
    rfl
  | cons n rest ih =>
    intro c1 P carry hc hP hn hcy H
    have hn' := num_iff.1 (hn n (by simp))
    have hcy' := num_iff.1 hcy
    have h1 := mul_range hn'.1 hn'.2 hX'.1 hX'.2
    have hlen : prod.length = c1.length + (rest.length + 1) := by rw [hc]; simp
    have ih' := ih (c1 ++ [n]) (P ++ [(carry - n * l[j].f0 * 1) % 251]) (n * 1) (by rw [hc]; simp) (by simp [hP]) (fun m hm => hn m (by simp [hm])) (by rw [Int.mul_one]; exact hn n (by simp)) (by
      have e : P ++ [(carry - n * l[j].f0 * 1) % 251] ++ timesL rest l[j].f0 1 (n * 1) = P ++ timesL (n :: rest) l[j].f0 1 carry := by simp [timesL]
      rw [e]; exact H)
    refine From.step (From.more ih' (show K + rest.length + 1 ≤ K + (n :: rest).length by simp; omega)) fun k hk => ?_
    have hr : rd prod (c1.length : Int) = n := by rw [hc]; exact rd_at c1 n rest rfl
    have hPl : (c1.length : Int) = (P.length : Int) := by rw [hP]
    rw [verditerref08_through.l2, if_pos (by omega), if_pos (by omega), if_pos (by simp; omega), if_pos (by omega), if_pos (by omega), hr, rdT_get l j hj, rd_at P (carry % 251) _ hPl,
      wrap_id (a := n * l[j].f0) (by omega) (by omega), wrap_id (a := carry % 251 - n * l[j].f0) (by omega) (by omega), mod_eq, Option.bind_some, set_at P _ _ _ hPl, Option.bind_some,
      wrap_id (a := (c1.length : Int) + 1) (by omega) (by omega), if_pos (by omega), if_pos (by simp; omega), List.length_cons, List.replicate_succ, rd_next P _ 0 _ hPl,
      wrap_id (a := 0 + n) (by omega) (by omega), mod_eq, Option.bind_some, set_next P _ 0 _ _ hPl]
    have e1 : (carry % 251 - n * l[j].f0) % 251 = (carry - n * l[j].f0 * 1) % 251 := by rw [Int.mul_one]; omega
    have e2 : (0 + n) % 251 = (n * 1) % 251 := by rw [Int.mul_one]; omega
    rw [e1, e2, show ((c1.length : Int) + 1) = (((c1 ++ [n]).length : Nat) : Int) by simp]
    simp

/-! ### One point's curve, as the reference makes it -/
def basisR (others c : List Int) : List Int := others.foldl (fun c xj => timesL c xj 1 0) c
def belowR (xi : Int) (others : List Int) (b : Int) : Int := others.foldl (fun b xj => (b * (xi - xj)) % 251) b
/-- The other places from the j-th on. -/
def oth (xs : List Int) (i j : Nat) : List Int := if j ≤ i then (xs.drop j).eraseIdx (i - j) else xs.drop j
theorem oth_here (xs : List Int) (i : Nat) (h : i < xs.length) : oth xs i i = oth xs i (i + 1) := by
  unfold oth
  rw [if_pos (Nat.le_refl _), if_neg (by omega), Nat.sub_self, List.drop_eq_getElem_cons h]; rfl
theorem oth_next (xs : List Int) (i j : Nat) (h : j < xs.length) (hne : j ≠ i) : oth xs i j = xs[j] :: oth xs i (j + 1) := by
  unfold oth
  by_cases hlt : j ≤ i
  · rw [if_pos hlt, if_pos (by omega), List.drop_eq_getElem_cons h, show i - j = (i - (j + 1)) + 1 by omega]; rfl
  · rw [if_neg hlt, if_neg (by omega), List.drop_eq_getElem_cons h]
theorem oth_end (xs : List Int) (i : Nat) (hi : i < xs.length) : oth xs i xs.length = [] := by
  unfold oth
  rw [if_neg (by omega), List.drop_of_length_le (Nat.le_refl _)]
theorem oth_zero (xs : List Int) (i : Nat) : oth xs i 0 = xs.eraseIdx i := by
  unfold oth
  rw [if_pos (by omega)]; rfl
theorem basisR_num : ∀ (others c : List Int), (∀ n ∈ c, num n = true) → ∀ n ∈ basisR others c, num n = true
  | [], c, h => h
  | x :: others, c, h => basisR_num others _ (timesL_num _ _ _ _)
theorem basisR_length : ∀ (others c : List Int), (basisR others c).length = c.length + others.length
  | [], c => rfl
  | x :: others, c => by
    show (basisR others (timesL c x 1 0)).length = _
    rw [basisR_length others, timesL_length]; simp; omega
theorem l1_eq (l : List S43) (out : List Int) (i : Nat) (hi : i < l.length) (hl : l.length ≤ 12) (hX : ∀ p ∈ l, num p.f0 = true ∧ num p.f1 = true) {K : Nat} (hK : 251 ≤ K) {R : List Int} :
    ∀ (d j : Nat) (prod : List Int) (below : Int), j + d = l.length → prod.length ≤ j + 1 → (∀ n ∈ prod, num n = true) → num below = true → belowR l[i].f0 (oth (l.map S43.f0) i j) below ≠ 0 →
    From K (fun k => verditerref08_through.l3 k l out (i : Int) (basisR (oth (l.map S43.f0) i j) prod) ((l[i].f1 * invI (belowR l[i].f0 (oth (l.map S43.f0) i j) below)) % 251) 0) R →
    From (K + 1 + 20 * d) (fun k => verditerref08_through.l1 k l out (i : Int) prod below (j : Int)) R := by
  intro d
  have hXi := hX l[i] (List.getElem_mem hi)
  have hmi : i < (l.map S43.f0).length := by simpa using hi
  induction d with
  | zero =>
    intro j prod below hj hp hn hb hne H
    have hjl : j = (l.map S43.f0).length := by simpa using hj
    subst hjl
    rw [oth_end _ _ hmi] at H hne
    refine From.step H fun k hk => ?_
    have hf := num_iff.1 hXi.2
    have hne' : below ≠ 0 := hne
    have hv := num_iff.1 (num_invI below)
    have hinv := rinv_eq below hb hne' k (by omega)
    show verditerref08_through.l1 (k + 1) l out (i : Int) prod below _ = verditerref08_through.l3 k l out (i : Int) prod ((l[i].f1 * invI below) % 251) 0
    generalize invI below = t at *
    have hm := mul_range hf.1 hf.2 hv.1 hv.2
    rw [verditerref08_through.l1, if_neg (by simp), if_pos (by omega), if_pos (by omega), hinv, Option.bind_some, rdT_get l i hi, wrap_id (a := l[i].f1 * t) (by omega) (by omega), mod_eq, Option.bind_some]
  | succ d ih =>
    intro j prod below hj hp hn hb hne H
    have hjl : j < l.length := by omega
    have hmj : j < (l.map S43.f0).length := by simpa using hjl
    by_cases e : j = i
    · subst e
      rw [oth_here _ _ hmj] at H hne
      refine From.more (From.step (ih (j + 1) prod below (by omega) (by omega) hn hb hne H) fun k hk => ?_) (show K + 1 + 20 * d + 1 ≤ K + 1 + 20 * (d + 1) by omega)
      rw [verditerref08_through.l1, if_pos (by omega), if_pos rfl, wrap_succ j (by omega)]
    · rw [oth_next _ _ _ hmj e] at H hne
      rw [List.getElem_map] at H hne
      have hXj := hX l[j] (List.getElem_mem hjl)
      have ih' := ih (j + 1) (timesL prod l[j].f0 1 0) ((below * (l[i].f0 - l[j].f0)) % 251) (by omega) (by rw [timesL_length]; omega) (timesL_num _ _ _ _) (num_mod _) hne H
      have h2 := l2_eq l out i j below prod hi hjl (by omega) (by omega) hXj.1 hXi.1 hb prod [] [] 0 rfl rfl hn rfl ih'
      refine From.more (From.step h2 fun k hk => ?_) (show K + 1 + 20 * d + prod.length + 1 + 1 ≤ K + 1 + 20 * (d + 1) by omega)
      rw [verditerref08_through.l1, if_pos (by omega), if_neg (by omega), wrap_id (a := (prod.length : Int) + 1) (by omega) (by omega), if_pos (by omega), if_pos (by omega), show ((prod.length : Int) + 1).toNat = prod.length + 1 by omega, List.replicate_succ]
      rfl

theorem l3_eq (l : List S43) (i : Nat) (prod : List Int) (fac : Int) (hl : l.length ≤ 12) (hi : i < l.length) (hf : num fac = true) (hpl : prod.length ≤ 100) {K : Nat} {R : List Int} : ∀ (ro rp D c1 : List Int), prod = c1 ++ rp → D.length = c1.length → ro.length = rp.length → (∀ n ∈ rp, num n = true) → (∀ n ∈ ro, num n = true) →
    From K (fun k => verditerref08_through.l0 k l (D ++ List.zipWith (fun a b => (a + fac * b) % 251) ro rp) ((i + 1 : Nat) : Int)) R →
    From (K + rp.length + 1) (fun k => verditerref08_through.l3 k l (D ++ ro) (i : Int) prod fac (c1.length : Int)) R := by
  intro ro rp
  have hf' := num_iff.1 hf
  induction rp generalizing ro with
  | nil =>
    intro D c1 hp hD hlen hn hm H
    have e : ro = [] := List.length_eq_zero_iff.1 (by simpa using hlen)
    subst e
    refine From.step H fun k hk => ?_
    rw [verditerref08_through.l3, if_neg (by rw [hp]; simp), wrap_succ i (by omega)]
    rfl
  | cons n rp ih =>
    intro D c1 hp hD hlen hn hm H
    obtain ⟨o, ro, rfl⟩ : ∃ o ro', ro = o :: ro' := by cases ro with
      | nil => simp at hlen
      | cons o ro' => exact ⟨o, ro', rfl⟩
    have hn' := num_iff.1 (hn n (by simp))
    have ho' := num_iff.1 (hm o (by simp))
    have h1 := mul_range hf'.1 hf'.2 hn'.1 hn'.2
    have hlenp : prod.length = c1.length + (rp.length + 1) := by rw [hp]; simp
    have ih' := ih ro (D ++ [(o + fac * n) % 251]) (c1 ++ [n]) (by rw [hp]; simp) (by simp [hD]) (by simpa using hlen) (fun m h => hn m (by simp [h])) (fun m h => hm m (by simp [h])) (by
      have e : D ++ [(o + fac * n) % 251] ++ List.zipWith (fun a b => (a + fac * b) % 251) ro rp = D ++ List.zipWith (fun a b => (a + fac * b) % 251) (o :: ro) (n :: rp) := by simp
      rw [e]; exact H)
    refine From.step (From.more ih' (show K + rp.length + 1 ≤ K + (n :: rp).length by simp; omega)) fun k hk => ?_
    have hr : rd prod (c1.length : Int) = n := by rw [hp]; exact rd_at c1 n rp rfl
    have hDl : (c1.length : Int) = (D.length : Int) := by rw [hD]
    rw [verditerref08_through.l3, if_pos (by omega), if_pos (by omega), if_pos (by simp; omega), hr, rd_at D o ro hDl, wrap_id (a := fac * n) (by omega) (by omega), wrap_id (a := o + fac * n) (by omega) (by omega), mod_eq, Option.bind_some, set_at D o _ ro hDl, wrap_id (a := (c1.length : Int) + 1) (by omega) (by omega)]
    rw [show ((c1.length : Int) + 1) = (((c1 ++ [n]).length : Nat) : Int) by simp]
    simp

/-! ### All points -/
def belI (p : List (Int × Int)) (i : Nat) : Int := belowR (p.getD i (0, 0)).1 ((p.map Prod.fst).eraseIdx i) 1
def proI (p : List (Int × Int)) (i : Nat) : List Int := basisR ((p.map Prod.fst).eraseIdx i) [1]
def facI (p : List (Int × Int)) (i : Nat) : Int := ((p.getD i (0, 0)).2 * invI (belI p i)) % 251
def thrTo (p : List (Int × Int)) : Nat → List Int
  | 0 => List.replicate p.length 0
  | m + 1 => List.zipWith (fun a b => (a + facI p m * b) % 251) (thrTo p m) (proI p m)
theorem proI_length (p : List (Int × Int)) {i : Nat} (hi : i < p.length) : (proI p i).length = p.length := by
  unfold proI
  rw [basisR_length, List.length_eraseIdx, List.length_map, if_pos hi]
  simp; omega
theorem proI_num (p : List (Int × Int)) (i : Nat) : ∀ n ∈ proI p i, num n = true := basisR_num _ _ (by intro n hn; simp at hn; subst hn; rfl)
theorem thrTo_length (p : List (Int × Int)) : ∀ m, m ≤ p.length → (thrTo p m).length = p.length
  | 0, _ => by simp [thrTo]
  | m + 1, h => by rw [thrTo, List.length_zipWith, thrTo_length p m (by omega), proI_length p (by omega)]; omega
theorem thrTo_num (p : List (Int × Int)) : ∀ m, ∀ n ∈ thrTo p m, num n = true
  | 0 => by
    intro n hn
    simp [thrTo] at hn
    rw [hn.2]; rfl
  | m + 1 => by
    intro n hn
    rw [thrTo, List.mem_iff_getElem] at hn
    obtain ⟨i, hi, rfl⟩ := hn
    rw [List.getElem_zipWith]
    exact num_mod _
theorem bel_ne (xi : Int) : ∀ (others : List Int) (b : Int), cst b ≠ 0 → (∀ xj ∈ others, cst xi - cst xj ≠ 0) → cst (belowR xi others b) ≠ 0
  | [], b, hb, _ => hb
  | x :: others, b, hb, h => by
    refine bel_ne xi others ((b * (xi - x)) % 251) ?_ (fun xj hj => h xj (List.mem_cons_of_mem _ hj))
    rw [cst_mod, cst_mul, cst_sub]
    intro e
    exact h x (by simp) (nzd _ _ e hb)
theorem good_ne {p : List (Int × Int)} (h : good p) {i : Nat} (hi : i < p.length) : ∀ xj ∈ (p.map Prod.fst).eraseIdx i, cst (p.getD i (0, 0)).1 - cst xj ≠ 0 := by
  intro xj hm
  obtain ⟨j, hj, hne, rfl⟩ := List.mem_eraseIdx_iff_getElem.1 hm
  rw [List.length_map] at hj
  rw [getD_get _ _ hi]
  refine cst_ne (h.1 _ (List.getElem_mem hi)).1 (by rw [List.getElem_map]; exact (h.1 _ (List.getElem_mem hj)).1) fun e => hne ?_
  have h2 := h.2
  rw [List.Nodup, List.pairwise_iff_getElem] at h2
  rcases Nat.lt_trichotomy i j with hlt | heq | hgt
  · exact absurd (by rw [List.getElem_map, List.getElem_map]; simpa using e) (h2 i j (by simpa using hi) (by simpa using hj) hlt)
  · exact heq.symm
  · exact absurd (by rw [List.getElem_map, List.getElem_map]; simpa using e.symm) (h2 j i (by simpa using hj) (by simpa using hi) hgt)
theorem l0_eq (l : List S43) (hl : l.length ≤ 12) (hg : good (pts l)) : ∀ (d m : Nat), m + d = l.length → From (251 + 1 + 500 * d) (fun k => verditerref08_through.l0 k l (thrTo (pts l) m) (m : Int)) (thrTo (pts l) l.length) := by
  have hX : ∀ p ∈ l, num p.f0 = true ∧ num p.f1 = true := fun p hp => hg.1 (p.f0, p.f1) (mem_pts hp)
  have hpm : (pts l).map Prod.fst = l.map S43.f0 := by unfold pts; rw [List.map_map]; rfl
  intro d
  induction d with
  | zero =>
    intro m hm k hk
    obtain ⟨k, rfl⟩ : ∃ j, k = j + 1 := ⟨k - 1, by omega⟩
    have e : m = l.length := by omega
    subst e
    show verditerref08_through.l0 (k + 1) l _ _ = _
    rw [verditerref08_through.l0, if_neg (by omega)]
  | succ d ih =>
    intro m hm
    have hml : m < l.length := by omega
    have hmp : m < (pts l).length := by rw [pts_length]; exact hml
    have hfst : ((pts l).getD m (0, 0)).1 = l[m].f0 := by rw [getD_get _ _ hmp]; simp [pts]
    have hsnd : ((pts l).getD m (0, 0)).2 = l[m].f1 := by rw [getD_get _ _ hmp]; simp [pts]
    have hbel : belowR l[m].f0 (oth (l.map S43.f0) m 0) 1 = belI (pts l) m := by unfold belI; rw [hfst, hpm, oth_zero]
    have hpro : basisR (oth (l.map S43.f0) m 0) [1] = proI (pts l) m := by unfold proI; rw [hpm, oth_zero]
    have hne : belI (pts l) m ≠ 0 := by
      intro e
      have h2 : cst (belI (pts l) m) ≠ 0 := bel_ne _ _ 1 (by decide) (good_ne hg hmp)
      rw [e] at h2
      exact h2 rfl
    have hpl := proI_length (pts l) hmp
    rw [pts_length] at hpl
    have htl := thrTo_length (pts l) m (by rw [pts_length]; omega)
    rw [pts_length] at htl
    have h3 := l3_eq l m (proI (pts l) m) (facI (pts l) m) hl hml (num_mod _) (by omega) (thrTo (pts l) m) (proI (pts l) m) [] [] rfl rfl (by omega) (proI_num _ _) (thrTo_num _ _) (ih (m + 1) (by omega))
    have h1 := l1_eq l (thrTo (pts l) m) m hml hl hX (show 251 ≤ 251 + 1 + 500 * d + (proI (pts l) m).length + 1 by omega) (R := thrTo (pts l) l.length) l.length 0 [1] 1 (by omega) (by simp) (by intro n hn; simp at hn; subst hn; rfl) rfl (by rw [hbel]; exact hne) (by
      rw [hbel, hpro]
      have e : facI (pts l) m = (l[m].f1 * invI (belI (pts l) m)) % 251 := by unfold facI; rw [hsnd]
      rw [← e]
      exact h3)
    refine From.more (From.step h1 fun k hk => ?_) (show 251 + 1 + 500 * d + (proI (pts l) m).length + 1 + 1 + 20 * l.length + 1 ≤ 251 + 1 + 500 * (d + 1) by omega)
    rw [verditerref08_through.l0, if_pos (by omega)]
    rfl
end Go.Proofs.Ythlbjdiicmojfaa.P

/-! Part Eqs. -/
namespace Go.Proofs.Ythlbjdiicmojfaa.P
open Go.RowKit Go.Proofs.YthlbjdiicmojfaaW.PrintWords Go.Proofs.YthlbjdiicmojfaaW.PrintLast Go.Proofs.YthlbjdiicmojfaaW.PrintMore
set_option linter.unusedVariables false

theorem secretAt_ok {c : List Int} {x : Int} (hc : curveErr c = 0) (hx : num x = true) : secret_At.f c x = some (atI c x, 0) := by
  obtain ⟨h1, h2, h3⟩ := curveErr_iff.1 hc
  rw [secret_At.f, secret_isCurve.f, Option.bind_some, if_pos hc, isNumber_eq, Option.bind_some, if_pos hx, secret_curve_at.f, if_pos (by rw [hx, List.all_eq_true.2 h3, decide_eq_true (show c.length ≤ 12 by omega)]; rfl)]
  rfl
theorem curveErr_interp {p : List (Int × Int)} (h1 : 1 ≤ p.length) (h2 : p.length ≤ 6) : curveErr (interp p) = 0 :=
  curveErr_iff.2 ⟨by rw [interp_len]; exact h1, by rw [interp_len]; exact h2, interp_nums p⟩

/-! ### Curve, Secret -/
def curveR (l : List S43) : List Int × Int := if valid l = 0 then (if l.length = 0 then ([], 4) else if 6 < l.length then ([], 3) else (interp (pts l), 0)) else ([], valid l)
def secretR (l : List S43) : Int × Int := if (curveR l).2 = 0 then ((curveR l).1.getD 0 0, 0) else (0, (curveR l).2)
theorem curveR_ok {l : List S43} (h : (curveR l).2 = 0) : valid l = 0 ∧ 1 ≤ l.length ∧ l.length ≤ 6 ∧ (curveR l).1 = interp (pts l) := by
  unfold curveR at h ⊢
  by_cases hv : valid l = 0
  · rw [if_pos hv] at h ⊢
    by_cases h0 : l.length = 0
    · rw [if_pos h0] at h; cases h
    · rw [if_neg h0] at h ⊢
      by_cases h6 : 6 < l.length
      · rw [if_pos h6] at h; cases h
      · rw [if_neg h6]
        exact ⟨hv, by omega, by omega, rfl⟩
  · rw [if_neg hv] at h
    exact absurd h hv
theorem curveR_eq {l : List S43} (hv : valid l = 0) (h1 : 1 ≤ l.length) (h6 : l.length ≤ 6) : curveR l = (interp (pts l), 0) := by
  unfold curveR
  rw [if_pos hv, if_neg (by omega), if_neg (by omega)]
theorem curve_eq (l : List S43) : secret_Curve.f l = some (curveR l) := by
  rw [secret_Curve.f, secret_Validate.f, Option.bind_some]
  unfold curveR
  by_cases hv : valid l = 0
  · rw [if_pos hv, if_pos hv, secret_some.f]
    by_cases h0 : l.length = 0
    · rw [if_pos (by omega), if_pos h0]; rfl
    · rw [if_neg (by omega), if_neg h0]
      by_cases h6 : 6 < l.length
      · rw [if_pos (by omega), if_pos h6]; rfl
      · rw [if_neg (by omega), if_neg h6, Option.bind_some, if_pos rfl, secret_of.f, if_pos hv]; rfl
  · rw [if_neg hv, if_neg hv]
theorem secret_eq (l : List S43) : secret_Secret.f l = some (secretR l) := by
  rw [secret_Secret.f, curve_eq, Option.bind_some]
  unfold secretR
  by_cases h : (curveR l).2 = 0
  · obtain ⟨_, h1, _, he⟩ := curveR_ok h
    rw [if_pos h, if_pos h, if_pos (by rw [he, interp_len, pts_length]; omega)]; rfl
  · rw [if_neg h, if_neg h]
/-! ### Complete -/
theorem good_secret {l : List S43} {n : Int} (hv : valid l = 0) (hn : num n = true) : good ((0, n) :: pts l) := by
  have hg := good_pts hv
  obtain ⟨_, hok, _⟩ := valid_iff.1 hv
  refine ⟨fun q hq => ?_, ?_⟩
  · rcases List.mem_cons.1 hq with rfl | hq
    · exact ⟨rfl, hn⟩
    · exact hg.1 q hq
  · rw [List.map_cons, List.nodup_cons]
    refine ⟨fun hm => ?_, hg.2⟩
    obtain ⟨q, hq, e⟩ := List.mem_map.1 hm
    obtain ⟨p, hp, rfl⟩ := List.mem_map.1 hq
    have := okP_iff.1 (hok p hp)
    simp only at e
    omega
theorem valid_num {l : List S43} (hv : valid l = 0) {p : S43} (hp : p ∈ l) : num p.f0 = true ∧ num p.f1 = true := (good_pts hv).1 (p.f0, p.f1) (mem_pts hp)
end Go.Proofs.Ythlbjdiicmojfaa.P

/-! Part Eqs2. -/
namespace Go.Proofs.Ythlbjdiicmojfaa.P
open Go.RowKit Go.Proofs.YthlbjdiicmojfaaW.PrintWords Go.Proofs.YthlbjdiicmojfaaW.PrintLast Go.Proofs.YthlbjdiicmojfaaW.PrintMore
set_option linter.unusedVariables false

/-! ### What lies on a curve -/
def neededR (l : List S43) (n : Int) : Int := if valid l = 0 then (if 1 ≤ n ∧ n ≤ 6 then 0 else 1) else valid l
theorem neededR_ok {l : List S43} {n : Int} (h : neededR l n = 0) : valid l = 0 ∧ 1 ≤ n ∧ n ≤ 6 := by
  unfold neededR at h
  by_cases hv : valid l = 0
  · rw [if_pos hv] at h
    by_cases hn : 1 ≤ n ∧ n ≤ 6
    · exact ⟨hv, hn⟩
    · rw [if_neg hn] at h; cases h
  · rw [if_neg hv] at h
    exact absurd h hv
theorem neededR_eq {l : List S43} {n : Int} (hv : valid l = 0) (h1 : 1 ≤ n) (h6 : n ≤ 6) : neededR l n = 0 := by
  unfold neededR; rw [if_pos hv, if_pos ⟨h1, h6⟩]
theorem swithin_eq (a lo hi : Int) : secret_within.f a lo hi = some (decide (lo ≤ a) && decide (a ≤ hi)) := by
  unfold secret_within.f
  split
  · rename_i h; rw [decide_eq_true (show lo ≤ a from h)]; rfl
  · rename_i h; rw [decide_eq_false (show ¬ lo ≤ a from h)]; rfl
theorem within_if {α : Type} (a lo hi : Int) (x y : α) : (if (decide (lo ≤ a) && decide (a ≤ hi)) = true then x else y) = (if lo ≤ a ∧ a ≤ hi then x else y) := by
  by_cases h : lo ≤ a ∧ a ≤ hi
  · rw [if_pos h, if_pos (by rw [decide_eq_true h.1, decide_eq_true h.2]; rfl)]
  · rw [if_neg h, if_neg]
    intro e
    rw [Bool.and_eq_true, decide_eq_true_iff, decide_eq_true_iff] at e
    exact h e
theorem needed_eq (l : List S43) (n : Int) : secret_needed.f l n = some (neededR l n) := by
  rw [secret_needed.f, secret_Validate.f, Option.bind_some]
  unfold neededR
  by_cases hv : valid l = 0
  · rw [if_pos hv, if_pos hv, swithin_eq, Option.bind_some, within_if]
    split <;> rfl
  · rw [if_neg hv, if_neg hv]
theorem valid_sub {l m : List S43} (h : valid l = 0) (hs : m.Sublist l) : valid m = 0 := by
  obtain ⟨h1, h2, h3⟩ := valid_iff.1 h
  exact valid_iff.2 ⟨Nat.le_trans hs.length_le h1, fun p hp => h2 p (hs.subset hp), List.Nodup.sublist (hs.map S43.f0) h3⟩
def lieOnR (l : List S43) (n : Int) : Bool × Int := if neededR l n = 0 then (lies l n.toNat, 0) else (false, neededR l n)
theorem lieOn_eq' (l : List S43) (n : Int) : secret_LieOn.f l n = some (lieOnR l n) := by
  rw [secret_LieOn.f, needed_eq, Option.bind_some]
  unfold lieOnR
  by_cases h : neededR l n = 0
  · obtain ⟨hv, h1, h6⟩ := neededR_ok h
    rw [if_pos h, if_pos h, secret_lieOn.f, if_pos ⟨hv, h1, h6⟩]; rfl
  · rw [if_neg h, if_neg h]
/-! ### Shares -/
def shares (c : List Int) (n : Nat) : List S43 := (List.range n).map fun i => ⟨((i + 1 : Nat) : Int), atI c ((i + 1 : Nat) : Int)⟩
def shareR (c : List Int) (n : Int) : List S43 × Int := if curveErr c = 0 then (if 1 ≤ n ∧ n ≤ 12 then (shares c n.toNat, 0) else ([], 1)) else ([], curveErr c)
theorem shares_succ (c : List Int) (n : Nat) : shares c (n + 1) = shares c n ++ [⟨((n + 1 : Nat) : Int), atI c ((n + 1 : Nat) : Int)⟩] := by
  unfold shares; rw [List.range_succ, List.map_append]; rfl
theorem shares_length (c : List Int) (n : Nat) : (shares c n).length = n := by simp [shares]
theorem share_loop (c : List Int) (n : Nat) (hc : curveErr c = 0) (hn : n ≤ 12) : ∀ (d i k : Nat), i + d = n → d + 100 < k → secret_Share.l0 k c (n : Int) (shares c i) ((i + 1 : Nat) : Int) = some (shares c n, 0) := by
  obtain ⟨h1, h2, h3⟩ := curveErr_iff.1 hc
  intro d
  induction d with
  | zero =>
    intro i k hi hk
    obtain ⟨k, rfl⟩ : ∃ j, k = j + 1 := ⟨k - 1, by omega⟩
    rw [secret_Share.l0, if_neg (by omega), show i = n by omega]
  | succ d ih =>
    intro i k hi hk
    obtain ⟨k, rfl⟩ : ∃ j, k = j + 1 := ⟨k - 1, by omega⟩
    have hx : num ((i + 1 : Nat) : Int) = true := num_iff.2 (by omega)
    rw [secret_Share.l0, if_pos (by omega), secret_curve_at.f, if_pos (by rw [hx, List.all_eq_true.2 h3, decide_eq_true (show c.length ≤ 12 by omega)]; rfl), Option.bind_some, if_pos (by rw [shares_length]; omega), ← shares_succ, wrap_succ (i + 1) (by omega)]
    exact ih (i + 1) k (by omega) (by omega)
theorem share_eq (c : List Int) (n : Int) (k : Nat) (hk : 200 ≤ k) : secret_Share.f k c n = some (shareR c n) := by
  rw [secret_Share.f, secret_isCurve.f, Option.bind_some]
  unfold shareR
  by_cases hc : curveErr c = 0
  · rw [if_pos hc, if_pos hc, swithin_eq, Option.bind_some, within_if]
    by_cases hn : 1 ≤ n ∧ n ≤ 12
    · rw [if_pos hn, if_pos hn]
      have := share_loop c n.toNat hc (by omega) n.toNat 0 k (by omega) (by omega)
      rw [show ((n.toNat : Nat) : Int) = n by omega] at this
      exact this
    · rw [if_neg hn, if_neg hn]
  · rw [if_neg hc, if_neg hc]
theorem mem_shares {c : List Int} {n : Nat} {p : S43} (h : p ∈ shares c n) : 1 ≤ p.f0 ∧ p.f0 ≤ n ∧ p.f1 = atI c p.f0 := by
  obtain ⟨i, hi, rfl⟩ := List.mem_map.1 h
  have := List.mem_range.1 hi
  exact ⟨by simp only; omega, by simp only; omega, rfl⟩
theorem valid_shares (c : List Int) {n : Nat} (hn : n ≤ 12) : valid (shares c n) = 0 := by
  refine valid_iff.2 ⟨by rw [shares_length]; exact hn, fun p hp => ?_, ?_⟩
  · obtain ⟨h1, h2, h3⟩ := mem_shares hp
    have := num_iff.1 (num_atI c p.f0)
    exact okP_iff.2 (by rw [h3]; omega)
  · unfold shares
    rw [List.map_map]
    refine List.Pairwise.map _ (fun a b (h : a ≠ b) => ?_) List.nodup_range
    show ((a + 1 : Nat) : Int) ≠ ((b + 1 : Nat) : Int)
    omega
/-- Parts of one curve lie on the curve through the first of them. -/
theorem interp_of_curve {l : List S43} {c : List Int} (hv : valid l = 0) (hc : ∀ n ∈ c, num n = true) (hl : l.length = c.length) (h : ∀ p ∈ l, p.f1 = atI c p.f0) : interp (pts l) = c := by
  symm
  refine interp_uniq (good_pts hv) (by rw [pts_length]; omega) hc fun q hq => ?_
  obtain ⟨p, hp, rfl⟩ := List.mem_map.1 hq
  exact (h p hp).symm
theorem lies_of_curve {l : List S43} {c : List Int} {n : Nat} (hv : valid l = 0) (hc : ∀ n ∈ c, num n = true) (hn : c.length = n) (h : ∀ p ∈ l, p.f1 = atI c p.f0) : lies l n = true := by
  unfold lies
  by_cases hl : l.length ≤ n
  · rw [decide_eq_true hl]; rfl
  · rw [decide_eq_false hl, Bool.false_or, List.all_eq_true]
    intro p hp
    rw [interp_of_curve (valid_sub hv (List.take_sublist n l)) hc (by rw [List.length_take]; omega) (fun p hp => h p (List.mem_of_mem_take hp))]
    exact beq_iff_eq.2 (h p hp).symm
end Go.Proofs.Ythlbjdiicmojfaa.P

/-! Part Eqs3. -/
namespace Go.Proofs.Ythlbjdiicmojfaa.P
open Go.RowKit Go.Proofs.YthlbjdiicmojfaaW.PrintWords Go.Proofs.YthlbjdiicmojfaaW.PrintLast Go.Proofs.YthlbjdiicmojfaaW.PrintMore
set_option linter.unusedVariables false

/-! ### Parts whose places are those of others -/
theorem valid_same {l m : List S43} (hv : valid l = 0) (hf : m.map S43.f0 = l.map S43.f0) (hy : ∀ p ∈ m, num p.f1 = true) : valid m = 0 := by
  obtain ⟨h1, h2, h3⟩ := valid_iff.1 hv
  have hlen : m.length = l.length := by have := congrArg List.length hf; simpa using this
  refine valid_iff.2 ⟨by omega, fun p hp => ?_, by rw [hf]; exact h3⟩
  have : p.f0 ∈ l.map S43.f0 := by rw [← hf]; exact List.mem_map.2 ⟨p, hp, rfl⟩
  obtain ⟨q, hq, e⟩ := List.mem_map.1 this
  have h4 := okP_iff.1 (h2 q hq)
  have h5 := num_iff.1 (hy p hp)
  exact okP_iff.2 ⟨by omega, by omega, h5.1, h5.2⟩
/-- A curve whose numbers are another's, each multiplied and added. -/
theorem atI_map (f : Int → Int) (u : Int) (hf : ∀ a, num (f a) = true ∧ cst (f a) = cst u * cst a) (c : List Int) (x : Int) : cst (atI (c.map f) x) = cst u * cst (atI c x) := by
  induction c with
  | nil => show cst 0 = cst u * cst 0; rw [cst_zero]; grind
  | cons a c ih =>
    show cst ((atI (c.map f) x * x + f a) % 251) = cst u * cst ((atI c x * x + a) % 251)
    rw [cst_mod, cst_mod, cst_add, cst_add, cst_mul, cst_mul, ih, (hf a).2]; grind
theorem secretR_ok {l : List S43} (hv : valid l = 0) (h1 : 1 ≤ l.length) (h6 : l.length ≤ 6) : secretR l = (atI (interp (pts l)) 0, 0) := by
  unfold secretR
  rw [curveR_eq hv h1 h6, if_pos rfl, atI_zero (interp_nums _)]
end Go.Proofs.Ythlbjdiicmojfaa.P

/-! Part Eqs4. -/
namespace Go.Proofs.Ythlbjdiicmojfaa.P
open Go.RowKit Go.Proofs.YthlbjdiicmojfaaW.PrintWords Go.Proofs.YthlbjdiicmojfaaW.PrintLast Go.Proofs.YthlbjdiicmojfaaW.PrintMore
open Ply
set_option linter.unusedVariables false

/-! ### Sums of parts -/
def sums (l m : List S43) : List S43 := List.zipWith (fun p q => ⟨p.f0, (p.f1 + q.f1) % 251⟩) l m
def addR (l m : List S43) : List S43 × Int :=
  if valid l = 0 then (if valid m = 0 then (if l.map S43.f0 = m.map S43.f0 then (sums l m, 0) else ([], 5)) else ([], valid m)) else ([], valid l)
theorem sadd_eq (l m : List S43) : secret_Add.f l m = some (addR l m) := by
  rw [secret_Add.f]
  unfold addR sums
  split
  · split
    · split <;> rfl
    · rfl
  · rfl
theorem sums_length (l m : List S43) : (sums l m).length = min l.length m.length := by simp [sums]
theorem sums_places : ∀ (l m : List S43), l.length ≤ m.length → (sums l m).map S43.f0 = l.map S43.f0
  | [], _, _ => by simp [sums]
  | p :: l, [], h => by simp at h
  | p :: l, q :: m, h => by
    have ih := sums_places l m (by simpa using h)
    simp only [sums, List.zipWith_cons_cons, List.map_cons] at ih ⊢
    rw [ih]
theorem mem_sums {l m : List S43} {r : S43} (h : r ∈ sums l m) (he : l.map S43.f0 = m.map S43.f0) : ∃ p q, p ∈ l ∧ q ∈ m ∧ q.f0 = p.f0 ∧ r = ⟨p.f0, (p.f1 + q.f1) % 251⟩ := by
  unfold sums at h
  obtain ⟨i, hi, rfl⟩ := List.mem_iff_getElem.1 h
  rw [List.length_zipWith] at hi
  rw [List.getElem_zipWith]
  refine ⟨l[i], m[i], List.getElem_mem _, List.getElem_mem _, ?_, rfl⟩
  have h3 : (l.map S43.f0)[i]? = (m.map S43.f0)[i]? := by rw [he]
  rw [List.getElem?_map, List.getElem?_map, List.getElem?_eq_getElem (by omega), List.getElem?_eq_getElem (by omega)] at h3
  exact (Option.some.inj h3).symm
theorem valid_sums {l m : List S43} (hv : valid l = 0) (he : l.map S43.f0 = m.map S43.f0) : valid (sums l m) = 0 := by
  have hlen : l.length = m.length := by have := congrArg List.length he; simpa using this
  refine valid_same hv (sums_places l m (by omega)) fun r hr => ?_
  obtain ⟨p, q, _, _, _, rfl⟩ := mem_sums hr he
  exact num_mod _
theorem atI_plus (c d : List Int) (x : Int) (h : c.length = d.length) : atI (plusL c d) x = (atI c x + atI d x) % 251 :=
  (atI_eq (num_mod _) (by rw [cst_mod, cst_add, cst_atI, cst_atI, ev_plusL _ _ _ h])).symm
/-! ### Renewed parts -/
def renewed (l : List S43) (c : List Int) : List S43 := l.map fun p => ⟨p.f0, (p.f1 + atI c p.f0) % 251⟩
def renewR (l : List S43) (c : List Int) : List S43 × Int :=
  if valid l = 0 then (if curveErr c = 0 then (if c.getD 0 0 = 0 then (renewed l c, 0) else ([], 8)) else ([], curveErr c)) else ([], valid l)
theorem srenew_eq (l : List S43) (c : List Int) : secret_Renew.f l c = some (renewR l c) := by
  rw [secret_Renew.f]
  unfold renewR renewed
  split
  · split
    · split <;> rfl
    · rfl
  · rfl
theorem valid_renewed {l : List S43} (hv : valid l = 0) (c : List Int) : valid (renewed l c) = 0 :=
  valid_same hv (by unfold renewed; rw [List.map_map]; rfl) fun p hp => by
    obtain ⟨q, _, rfl⟩ := List.mem_map.1 hp
    exact num_mod _
/-- A curve that is 0 at 0, added, leaves the secret. -/
theorem interp_renewed {l : List S43} {c : List Int} (hv : valid l = 0) (hc : ∀ n ∈ c, num n = true) (hl : c.length ≤ l.length) : interp (pts (renewed l c)) = plusL (interp (pts l)) (c ++ List.replicate (l.length - c.length) 0) := by
  have hlen : (c ++ List.replicate (l.length - c.length) (0 : Int)).length = l.length := by simp; omega
  symm
  refine interp_uniq (good_pts (valid_renewed hv c)) (by rw [plusL_length, interp_len, pts_length, pts_length, hlen]; simp [renewed]) (plusL_num _ _) fun w hw => ?_
  obtain ⟨r, hr, rfl⟩ := List.mem_map.1 hw
  obtain ⟨p, hp, rfl⟩ := List.mem_map.1 hr
  have h1 := interp_at (good_pts hv) (mem_pts hp)
  simp only at h1 ⊢
  rw [atI_plus _ _ _ (by rw [interp_len, pts_length, hlen]), h1, atI_more]
end Go.Proofs.Ythlbjdiicmojfaa.P

/-! Part Eqs7. -/
namespace Go.Proofs.Ythlbjdiicmojfaa.P.T
open Go.RowKit Go.Proofs.YthlbjdiicmojfaaW.PrintWords Go.Proofs.YthlbjdiicmojfaaW.PrintLast Go.Proofs.YthlbjdiicmojfaaW.PrintMore
open Ply
set_option linter.unusedVariables false
/-! Part and Weights of the program, as the laws of these two have them. -/
/-- The part for a number. -/
def partR (l : List S43) (x : Int) : Int × Int × Int :=
  if valid l = 0 then (if 1 ≤ x ∧ x ≤ 250 then (if (curveR l).2 = 0 then (x, atI (interp (pts l)) x, 0) else (0, 0, (curveR l).2)) else (0, 0, 1)) else (0, 0, valid l)
theorem spart_eq (l : List S43) (x : Int) (k : Nat) (hk : 7000 ≤ k) : secret_Part.f k l x = some (partR l x) := by
  obtain ⟨k, rfl⟩ : ∃ j, k = j + 1 := ⟨k - 1, by omega⟩
  rw [secret_Part.f, secret_Validate.f, Option.bind_some]
  unfold partR
  by_cases hv : valid l = 0
  · rw [if_pos hv, if_pos hv]
    by_cases h0 : x = 0
    · rw [if_pos h0, if_neg (by omega), secret_Part.j0, if_pos rfl]
    · rw [if_neg h0, isNumber_eq, Option.bind_some]
      cases hn : num x with
      | false =>
        rw [if_neg (by intro h; rw [num_iff.2 (by omega)] at hn; cases hn), secret_Part.j0, if_pos (show (!false) = true from rfl)]
      | true =>
        have := num_iff.1 hn
        rw [if_pos (by omega), secret_Part.j0, if_neg (by simp), secret_some.f]
        unfold curveR
        rw [if_pos hv]
        by_cases hl0 : l.length = 0
        · rw [if_pos (by omega), if_pos hl0]; rfl
        · rw [if_neg (by omega), if_neg hl0]
          by_cases h6 : 6 < l.length
          · rw [if_pos (by omega), if_pos h6]; rfl
          · rw [if_neg (by omega), if_neg h6, Option.bind_some, if_pos rfl, secret_of.f, if_pos hv, Option.bind_some, secret_curve_at.f, if_pos (by rw [hn, List.all_eq_true.2 (interp_nums (pts l)), decide_eq_true (show (interp (pts l)).length ≤ 12 by rw [interp_len, pts_length]; omega)]; rfl)]
            rfl
  · rw [if_neg hv, if_neg hv]
/-- Parts at places, whose values are a function's. -/
def partsAt (xs : List Int) (f : Nat → Int) : List S43 := (List.range xs.length).map fun j => ⟨xs.getD j 0, f j⟩
def unit (i j : Nat) : Int := if j = i then 1 else 0
/-- The secret of parts of which one is 1, all others 0. -/
def weight (xs : List Int) (i : Nat) : Int := atI (interp (pts (partsAt xs (unit i)))) 0
def zerosAt (xs : List Int) : List S43 := xs.map fun x => ⟨x, 0⟩
def weightsR (xs : List Int) : List Int × Int :=
  if 1 ≤ xs.length ∧ xs.length ≤ 6 then (if valid (zerosAt xs) = 0 then ((List.range xs.length).map (weight xs), 0) else ([], valid (zerosAt xs))) else ([], 3)
theorem partsAt_length (xs : List Int) (f : Nat → Int) : (partsAt xs f).length = xs.length := by simp [partsAt]
theorem partsAt_get (xs : List Int) (f : Nat → Int) (j : Nat) (hj : j < (partsAt xs f).length) : (partsAt xs f)[j] = ⟨xs.getD j 0, f j⟩ := by simp [partsAt]
theorem partsAt_places (xs : List Int) (f : Nat → Int) : (partsAt xs f).map S43.f0 = xs := by
  refine List.ext_getElem (by simp [partsAt]) fun j h1 h2 => ?_
  rw [List.getElem_map, partsAt_get]
  exact getD_get xs 0 h2
theorem valid_partsAt {xs : List Int} {f : Nat → Int} (h : valid (zerosAt xs) = 0) (hf : ∀ j, j < xs.length → num (f j) = true) : valid (partsAt xs f) = 0 := by
  refine valid_same h (by rw [partsAt_places]; simp only [zerosAt, List.map_map]; exact (List.map_id xs).symm) fun p hp => ?_
  obtain ⟨j, hj, rfl⟩ := List.mem_map.1 hp
  exact hf j (List.mem_range.1 hj)
theorem num_unit (i j : Nat) : num (unit i j) = true := by unfold unit; split <;> rfl
theorem zeros_take (xs : List Int) (j : Nat) (hj : j < xs.length) : (zerosAt xs).take (j + 1) = (zerosAt xs).take j ++ [⟨xs[j], 0⟩] := by
  rw [List.take_succ_eq_append_getElem (by simpa [zerosAt] using hj)]; simp [zerosAt]
theorem zeros_set (xs : List Int) (i : Nat) (hi : i < xs.length) : (zerosAt xs).set i ⟨xs[i], 1⟩ = partsAt xs (unit i) := by
  refine List.ext_getElem (by simp [partsAt, zerosAt]) fun j h1 h2 => ?_
  rw [partsAt_length] at h2
  rw [partsAt_get, List.getElem_set, getD_get xs 0 h2]
  unfold unit
  by_cases e : i = j
  · subst e; rw [if_pos rfl, if_pos rfl]
  · rw [if_neg e, if_neg (fun h => e h.symm)]; simp [zerosAt]
theorem weights_succ (xs : List Int) (i : Nat) : (List.range (i + 1)).map (weight xs) = (List.range i).map (weight xs) ++ [weight xs i] := by
  rw [List.range_succ, List.map_append]; rfl
theorem rd_weight (xs : List Int) (i : Nat) : (interp (pts (partsAt xs (unit i)))).getD 0 0 = weight xs i := (atI_zero (interp_nums _)).symm

/-! ### The program's -/
theorem sweights_l1 (xs : List Int) (h6 : xs.length ≤ 6) (hv : valid (zerosAt xs) = 0) : ∀ (d i k : Nat), i + d = xs.length → d < k → secret_Weights.l1 k (zerosAt xs) ((List.range i).map (weight xs)) (xs.length : Int) (i : Int) = some ((List.range xs.length).map (weight xs), 0) := by
  intro d
  induction d with
  | zero =>
    intro i k hi hk
    obtain ⟨k, rfl⟩ : ∃ j, k = j + 1 := ⟨k - 1, by omega⟩
    rw [secret_Weights.l1, if_neg (by omega), show i = xs.length by omega]
  | succ d ih =>
    intro i k hi hk
    obtain ⟨k, rfl⟩ : ∃ j, k = j + 1 := ⟨k - 1, by omega⟩
    have hil : i < xs.length := by omega
    have hzl : (zerosAt xs).length = xs.length := by simp [zerosAt]
    have hz : (rd_T43 (zerosAt xs) (i : Int)).f0 = xs[i] := by rw [rdT_get _ i (by omega)]; simp [zerosAt]
    have hv2 : valid (partsAt xs (unit i)) = 0 := valid_partsAt hv fun j _ => num_unit i j
    rw [secret_Weights.l1, if_pos (by omega), api_Part_93.f, if_pos (by omega), Option.bind_some, if_pos (by omega), if_pos (by omega), hz, Int.toNat_natCast, zeros_set xs i hil, secret_of.f, if_pos hv2, Option.bind_some, if_pos (by rw [interp_len, pts_length, partsAt_length]; omega), if_pos (by simp; omega),
      show rd (interp (pts (partsAt xs (unit i)))) 0 = weight xs i from rd_weight xs i, ← weights_succ, wrap_succ i (by omega)]
    exact ih (i + 1) k (by omega) (by omega)
theorem sweights_l0 (xs : List Int) (h6 : xs.length ≤ 6) : ∀ (d i k : Nat), i + d = xs.length → d + 20 < k → secret_Weights.l0 k ((zerosAt xs).take i) xs (xs.length : Int) (i : Int) = some (if valid (zerosAt xs) = 0 then ((List.range xs.length).map (weight xs), 0) else ([], valid (zerosAt xs))) := by
  have hzl : (zerosAt xs).length = xs.length := by simp [zerosAt]
  intro d
  induction d with
  | zero =>
    intro i k hi hk
    obtain ⟨k, rfl⟩ : ∃ j, k = j + 1 := ⟨k - 1, by omega⟩
    rw [secret_Weights.l0, if_neg (by omega), List.take_of_length_le (by omega), secret_Validate.f, Option.bind_some]
    by_cases hv : valid (zerosAt xs) = 0
    · rw [if_pos hv, if_pos hv, hzl]
      exact sweights_l1 xs h6 hv xs.length 0 k (by omega) (by omega)
    · rw [if_neg hv, if_neg hv]
  | succ d ih =>
    intro i k hi hk
    obtain ⟨k, rfl⟩ : ∃ j, k = j + 1 := ⟨k - 1, by omega⟩
    have hil : i < xs.length := by omega
    rw [secret_Weights.l0, if_pos (by omega), if_pos (by omega), if_pos (by omega), if_pos (by simp; omega), rd_get xs i hil, ← zeros_take xs i hil, wrap_succ i (by omega)]
    exact ih (i + 1) k (by omega) (by omega)
theorem sweights_eq (xs : List Int) (k : Nat) (hk : 100 ≤ k) : secret_Weights.f k xs = some (weightsR xs) := by
  rw [secret_Weights.f, swithin_eq, Option.bind_some, within_if]
  unfold weightsR
  by_cases h : 1 ≤ xs.length ∧ xs.length ≤ 6
  · rw [if_pos (show (1 : Int) ≤ (xs.length : Int) ∧ (xs.length : Int) ≤ 6 by omega), if_pos h]
    have := sweights_l0 xs h.2 xs.length 0 k (by omega) (by omega)
    rw [List.take_zero] at this
    exact this
  · rw [if_neg (show ¬ ((1 : Int) ≤ (xs.length : Int) ∧ (xs.length : Int) ≤ 6) by omega), if_neg h]

theorem atI_plus' (c d : List Int) (x : Int) (h : c.length = d.length) : atI (plusL c d) x = (atI c x + atI d x) % 251 :=
  (atI_eq (num_mod _) (by rw [cst_mod, cst_add, cst_atI, cst_atI, ev_plusL _ _ _ h])).symm
/-! ### The secret is told with the weights -/
def comb (xs : List Int) (Y : Nat → Int) : Nat → List Int
  | 0 => List.replicate xs.length 0
  | m + 1 => plusL (comb xs Y m) ((interp (pts (partsAt xs (unit m)))).map fun a => (a * Y m) % 251)
def told (xs : List Int) (Y : Nat → Int) : Nat → Int
  | 0 => 0
  | m + 1 => (told xs Y m + weight xs m * Y m) % 251
theorem comb_length (xs : List Int) (Y : Nat → Int) : ∀ m, (comb xs Y m).length = xs.length
  | 0 => by simp [comb]
  | m + 1 => by rw [comb, plusL_length, comb_length xs Y m, List.length_map, interp_len, pts_length, partsAt_length]; omega
theorem comb_num (xs : List Int) (Y : Nat → Int) : ∀ m, ∀ n ∈ comb xs Y m, num n = true
  | 0, n, h => by simp [comb] at h; rw [h.2]; rfl
  | m + 1, n, h => plusL_num _ _ n h
theorem scaled_at (c : List Int) (y x : Int) : atI (c.map fun a => (a * y) % 251) x = (atI c x * y) % 251 :=
  cst_inj (num_atI _ _) (num_mod _) (by rw [atI_map _ y (fun a => ⟨num_mod _, by rw [cst_mod, cst_mul]; grind⟩), cst_mod, cst_mul]; grind)
theorem comb_zero (xs : List Int) (Y : Nat → Int) : ∀ m, atI (comb xs Y m) 0 = told xs Y m
  | 0 => by
    show atI (List.replicate xs.length 0) 0 = 0
    have := atI_more [] 0 xs.length
    rw [List.nil_append] at this
    exact this
  | m + 1 => by
    rw [comb, atI_plus' _ _ _ (by rw [comb_length, List.length_map, interp_len, pts_length, partsAt_length]), comb_zero xs Y m, scaled_at, told]
    show (told xs Y m + weight xs m * Y m % 251) % 251 = _
    omega
theorem unit_at {xs : List Int} (hv : valid (zerosAt xs) = 0) (m j : Nat) (hj : j < xs.length) : atI (interp (pts (partsAt xs (unit m)))) xs[j] = unit m j := by
  have hv2 : valid (partsAt xs (unit m)) = 0 := valid_partsAt hv fun j _ => num_unit m j
  have hm : (⟨xs[j], unit m j⟩ : S43) ∈ partsAt xs (unit m) := by
    have := List.getElem_mem (l := partsAt xs (unit m)) (n := j) (by rw [partsAt_length]; exact hj)
    rw [partsAt_get, getD_get xs 0 hj] at this
    exact this
  exact interp_at (good_pts hv2) (mem_pts hm)
theorem comb_at {xs : List Int} (Y : Nat → Int) (hv : valid (zerosAt xs) = 0) (hY : ∀ j, j < xs.length → num (Y j) = true) (j : Nat) (hj : j < xs.length) : ∀ m, m ≤ xs.length → atI (comb xs Y m) xs[j] = if j < m then Y j else 0
  | 0, _ => by
    rw [if_neg (by omega)]
    have := atI_more [] xs[j] xs.length
    rw [List.nil_append] at this
    exact this
  | m + 1, hm => by
    have hy := num_iff.1 (hY j hj)
    rw [comb, atI_plus' _ _ _ (by rw [comb_length, List.length_map, interp_len, pts_length, partsAt_length]), comb_at Y hv hY j hj m (by omega), scaled_at, unit_at hv m j hj]
    unfold unit
    by_cases e : j = m
    · subst e
      rw [if_neg (by omega), if_pos rfl, if_pos (by omega), Int.one_mul]; omega
    · rw [if_neg e, Int.zero_mul]
      by_cases hlt : j < m
      · rw [if_pos hlt, if_pos (by omega)]; omega
      · rw [if_neg hlt, if_neg (by omega)]; rfl
theorem told_eq {xs : List Int} (Y : Nat → Int) (hv : valid (zerosAt xs) = 0) (hY : ∀ j, j < xs.length → num (Y j) = true) : atI (interp (pts (partsAt xs Y))) 0 = told xs Y xs.length := by
  have hv2 := valid_partsAt hv hY
  rw [← comb_zero]
  congr 1
  symm
  refine interp_uniq (good_pts hv2) (by rw [comb_length, pts_length, partsAt_length]) (comb_num xs Y _) fun q hq => ?_
  obtain ⟨p, hp, rfl⟩ := List.mem_map.1 hq
  obtain ⟨j, hj, rfl⟩ := List.mem_map.1 hp
  have hj' := List.mem_range.1 hj
  have := comb_at Y hv hY j hj' xs.length (Nat.le_refl _)
  rw [if_pos hj'] at this
  show atI (comb xs Y xs.length) (xs.getD j 0) = Y j
  rw [getD_get xs 0 hj']; exact this
theorem told_num (xs : List Int) (Y : Nat → Int) : ∀ m, num (told xs Y m) = true
  | 0 => rfl
  | m + 1 => num_mod _

end Go.Proofs.Ythlbjdiicmojfaa.P.T

/-! Part PureTopA. -/
namespace Go.Proofs.Ythlbjdiicmojfaa.P.T
open Go.RowKit Go.Proofs.YthlbjdiicmojfaaW.PrintWords Go.Proofs.YthlbjdiicmojfaaW.PrintLast Go.Proofs.YthlbjdiicmojfaaW.PrintMore
set_option linter.unusedVariables false
theorem u64_of (a : Int) : IntKind.u64.wrap a = a % 18446744073709551616 := rfl
theorem inv_two : invI 2 = 126 := by decide +kernel
theorem inverse_two (k : Nat) (hk : 250 ≤ k) : secret_Inverse.f k 2 = some (126, 0) := by
  rw [secret_Inverse.f, if_neg (by decide), isNumber_eq, Option.bind_some, if_pos (show num 2 = true from rfl), inverse_eq 2 rfl k hk, inv_two]; rfl

theorem shares_places (c : List Int) (n : Nat) : (shares c n).map S43.f0 = (List.range n).map fun i => ((i + 1 : Nat) : Int) := by
  unfold shares; rw [List.map_map]; rfl
section
variable {c o : List Int} {l ow : List S43} {i n : Nat}
  (hc : ∀ x ∈ c, num x = true) (hcn : c.length = n) (h1 : 1 ≤ n) (h6 : n ≤ 6)
  (hl : l = shares c 12) (hi : i + n ≤ 12) (how : ow = (l.take (i + n)).drop i)
include h1 h6 hl hi how in
theorem ow_facts : valid ow = 0 ∧ ow.length = n ∧ (∀ p ∈ ow, p.f1 = atI c p.f0) ∧ l.length = 12 ∧ valid l = 0 := by
  have hv : valid l = 0 := by rw [hl]; exact valid_shares c (by omega)
  have hll : l.length = 12 := by rw [hl, shares_length]
  have hsub : ow.Sublist l := by rw [how]; exact (List.drop_sublist _ _).trans (List.take_sublist _ _)
  refine ⟨valid_sub hv hsub, by rw [how, List.length_drop, List.length_take]; omega, fun p hp => ?_, hll, hv⟩
  have := hsub.subset hp
  rw [hl] at this
  exact (mem_shares this).2.2
end

/-! The end: the renewed parts. -/
set_option maxHeartbeats 100000
theorem j11_eq {c o : List Int} {ow : List S43} {n : Nat} (hc : ∀ x ∈ c, num x = true) (ho : ∀ x ∈ o, num x = true) (hcn : c.length = n) (hon : o.length = n) (h1 : 1 ≤ n) (h6 : n ≤ 6) (hv : valid ow = 0) (hlen : ow.length = n) (hcur : ∀ p ∈ ow, p.f1 = atI c p.f0) (k : Nat) (hk : 1 ≤ k) :
    verditertop_topSecrets.j11 k c o ow false = some true := by
  obtain ⟨k, rfl⟩ : ∃ j, k = j + 1 := ⟨k - 1, by omega⟩
  have hnum : ∀ x ∈ [0] ++ o.drop 1, num x = true := by
    intro x hx
    rcases List.mem_append.1 hx with h | h
    · simp at h; subst h; rfl
    · exact ho x (List.mem_of_mem_drop h)
  have hln : ([0] ++ o.drop 1).length = n := by simp; omega
  have hce : curveErr ([0] ++ o.drop 1) = 0 := curveErr_iff.2 ⟨by omega, by omega, hnum⟩
  have hz : ([0] ++ o.drop 1).getD 0 (0 : Int) = 0 := rfl
  have e : renewR ow ([0] ++ o.drop 1) = (renewed ow ([0] ++ o.drop 1), 0) := by unfold renewR; rw [if_pos hv, if_pos hce, if_pos hz]
  have hin : interp (pts ow) = c := interp_of_curve hv hc (by omega) hcur
  have hy : atI (interp (pts (renewed ow ([0] ++ o.drop 1)))) 0 = c.getD 0 0 := by
    have hx := num_iff.1 (num_atI c 0)
    rw [interp_renewed hv hnum (by omega), hin, atI_plus _ _ _ (by rw [List.length_append, List.length_replicate]; omega), atI_more, atI_zero hnum, ← atI_zero hc]
    show (atI c 0 + 0) % 251 = atI c 0
    omega
  have hs : secretR (renewed ow ([0] ++ o.drop 1)) = (c.getD 0 0, 0) := by rw [secretR_ok (valid_renewed hv _) (by simp [renewed]; omega) (by simp [renewed]; omega), hy]
  rw [verditertop_topSecrets.j11, if_neg (by simp), Option.bind_some, if_pos (by omega), if_pos (by simp; omega), srenew_eq, e, Option.bind_some, secret_eq, hs, Option.bind_some, if_pos rfl, if_pos rfl, if_pos (by omega)]
  show some (c.getD 0 0 == rd c 0) = some true
  rw [show rd c 0 = c.getD 0 0 from rfl, beq_iff_eq.2 rfl]

/-! The sums of two curves' parts. -/
theorem j10_eq {c o : List Int} {ow l m : List S43} {i n : Nat} (hc : ∀ x ∈ c, num x = true) (ho : ∀ x ∈ o, num x = true) (hcn : c.length = n) (hon : o.length = n) (h1 : 1 ≤ n) (h6 : n ≤ 6) (hl : l = shares c 12) (hm : m = shares o 12) (hi : i + n ≤ 12) (how : ow = (l.take (i + n)).drop i) (k : Nat) (hk : 2 ≤ k) :
    verditertop_topSecrets.j10 k c o (i : Int) ow (sums l m) false = some true := by
  obtain ⟨hv, hlen, hcur, hll, hvl⟩ := ow_facts h1 h6 hl hi how
  obtain ⟨k, rfl⟩ : ∃ j, k = j + 1 := ⟨k - 1, by omega⟩
  have hplaces : l.map S43.f0 = m.map S43.f0 := by
    rw [hl, hm, shares_places, shares_places]
  have hsl : (sums l m).length = 12 := by rw [sums_length, hl, hm, shares_length, shares_length]; rfl
  have hsub : (((sums l m).take (i + n)).drop i).Sublist (sums l m) := (List.drop_sublist _ _).trans (List.take_sublist _ _)
  have hv2 := valid_sub (valid_sums hvl hplaces) hsub
  have hlen2 : (((sums l m).take (i + n)).drop i).length = n := by rw [List.length_drop, List.length_take]; omega
  have hcur2 : ∀ p ∈ ((sums l m).take (i + n)).drop i, p.f1 = atI (plusL c o) p.f0 := by
    intro p hp
    obtain ⟨a, b, ha, hb, he, rfl⟩ := mem_sums (hsub.subset hp) hplaces
    rw [hl] at ha
    rw [hm] at hb
    have e1 := (mem_shares ha).2.2
    have e2 := (mem_shares hb).2.2
    simp only
    rw [atI_plus _ _ _ (by omega), e1, e2, he]
  have hin : interp (pts (((sums l m).take (i + n)).drop i)) = plusL c o := interp_of_curve hv2 (plusL_num c o) (by rw [hlen2, plusL_length]; omega) hcur2
  have hs : secretR (((sums l m).take (i + n)).drop i) = ((c.getD 0 0 + o.getD 0 0) % 251, 0) := by
    rw [secretR_ok hv2 (by omega) (by omega), hin, atI_plus _ _ _ (by omega), atI_zero hc, atI_zero ho]
  have hw : wrap64 ((i : Int) + (c.length : Int)) = ((i + n : Nat) : Int) := by rw [wrap_id (by omega) (by omega)]; omega
  have Ahw := Aside0.mk hw
  clear hw
  have hc0 := num_iff.1 (num_atI c 0)
  have ho0 := num_iff.1 (num_atI o 0)
  rw [atI_zero hc] at hc0
  rw [atI_zero ho] at ho0
  rw [verditertop_topSecrets.j10, if_neg (by simp), Option.bind_some, Ahw.out, if_pos (by omega), if_pos (by omega), if_pos (by omega), Option.bind_some, Int.toNat_natCast, Int.toNat_natCast, List.nil_append, hlen2, if_pos (by simp; omega), secret_eq, hs, Option.bind_some, if_pos rfl, if_neg (by omega), if_pos (by omega), if_pos (by omega),
    show rd c 0 = c.getD 0 0 from rfl, show rd o 0 = o.getD 0 0 from rfl]
  simp only
  generalize c.getD 0 0 = s at *
  generalize o.getD 0 0 = t at *
  rw [wrap_id (a := s + t) (by omega) (by omega), Int.tmod_eq_emod_of_nonneg (by omega), show ((s + t) % 251 != (s + t) % 251) = false from bne_eq_false_iff_eq.2 rfl]
  exact j11_eq hc ho hcn hon h1 h6 hv hlen hcur k (by omega)

end Go.Proofs.Ythlbjdiicmojfaa.P.T

/-! Part PureTopB. -/
namespace Go.Proofs.Ythlbjdiicmojfaa.P.T
open Go.RowKit Go.Proofs.YthlbjdiicmojfaaW.PrintWords Go.Proofs.YthlbjdiicmojfaaW.PrintLast Go.Proofs.YthlbjdiicmojfaaW.PrintMore
set_option linter.unusedVariables false
set_option maxHeartbeats 1000000
/-! What the weights tell. -/
theorem partsAt_self {ow : List S43} : partsAt (ow.map S43.f0) (fun j => (ow.getD j z43).f1) = ow := by
  refine List.ext_getElem (by simp [partsAt]) fun j g1 g2 => ?_
  rw [partsAt_get, getD_get _ 0 (by simpa using g2), List.getElem_map, getD_get _ z43 g2]
theorem l3_eq {c o : List Int} {ow l : List S43} {i n : Nat} (hc : ∀ x ∈ c, num x = true) (hcn : c.length = n) (h1 : 1 ≤ n) (h6 : n ≤ 6) (hol : o.length ≤ 100) (hl : l = shares c 12) (hi : i + n ≤ 12) (how : ow = (l.take (i + n)).drop i)
    (hz : valid (zerosAt (ow.map S43.f0)) = 0) : ∀ (d j k : Nat), j + d = n → d + 1000 < k →
    verditertop_topSecrets.l3 k c o l (i : Int) ow ((List.range n).map (weight (ow.map S43.f0))) (told (ow.map S43.f0) (fun j => (ow.getD j z43).f1) j) (j : Int) = some true := by
  obtain ⟨hv, hlen, hcur, hll, hvl⟩ := ow_facts h1 h6 hl hi how
  have hxl : (ow.map S43.f0).length = n := by rw [List.length_map]; exact hlen
  intro d
  induction d with
  | zero =>
    intro j k hj hk
    obtain ⟨k, rfl⟩ : ∃ j, k = j + 1 := ⟨k - 1, by omega⟩
    have ht : told (ow.map S43.f0) (fun j => (ow.getD j z43).f1) j = rd c 0 := by
      have e := told_eq (xs := ow.map S43.f0) (fun j => (ow.getD j z43).f1) hz (fun j hj => by
        rw [hxl] at hj
        show num (ow.getD j z43).f1 = true
        rw [getD_get _ z43 (by omega)]
        exact (valid_num hv (List.getElem_mem _)).2)
      rw [partsAt_self, hxl, interp_of_curve hv hc (by omega) hcur, atI_zero hc] at e
      rw [show j = n by omega, ← e]; rfl
    rw [verditertop_topSecrets.l3, if_neg (by omega), if_pos (by omega), if_pos ht, share_eq o 12 k (by omega), Option.bind_some]
    by_cases hoe : curveErr o = 0
    · obtain ⟨o1, o6, ho⟩ := curveErr_iff.1 hoe
      obtain ⟨m, hm⟩ : ∃ m, m = shares o 12 := ⟨_, rfl⟩
      have e : shareR o 12 = (m, 0) := by unfold shareR; rw [if_pos hoe, if_pos (by omega), hm]; rfl
      have hvm : valid m = 0 := by rw [hm]; exact valid_shares o (by omega)
      have hml : m.length = 12 := by rw [hm, shares_length]
      obtain ⟨k, rfl⟩ : ∃ j, k = j + 1 := ⟨k - 1, by omega⟩
      rw [e, if_pos rfl]
      by_cases hon : o.length = n
      · have hplaces : l.map S43.f0 = m.map S43.f0 := by rw [hl, hm, shares_places, shares_places]
        have ea : addR l m = (sums l m, 0) := by unfold addR; rw [if_pos hvl, if_pos hvm, if_pos hplaces]
        have hsl : (sums l m).length = 12 := by rw [sums_length, hml, hll]; rfl
        have hsl2 : (((sums l m).length : Int) != 12) = false := bne_eq_false_iff_eq.2 (by omega)
        rw [show ((o.length : Int) != (c.length : Int)) = false from bne_eq_false_iff_eq.2 (by omega), verditertop_topSecrets.j9, if_neg (by simp), sadd_eq, ea, Option.bind_some, if_pos rfl]
        simp only
        rw [hsl2]
        exact j10_eq hc ho hcn hon h1 h6 hl hm hi how k (by omega)
      · rw [show ((o.length : Int) != (c.length : Int)) = true from bne_iff_ne.2 (by omega), verditertop_topSecrets.j9, if_pos rfl]
    · have e : shareR o 12 = ([], curveErr o) := by unfold shareR; rw [if_neg hoe]
      obtain ⟨k, rfl⟩ : ∃ j, k = j + 1 := ⟨k - 1, by omega⟩
      rw [e, if_neg hoe, verditertop_topSecrets.j9, if_pos rfl]
  | succ d ih =>
    intro j k hj hk
    obtain ⟨k, rfl⟩ : ∃ j, k = j + 1 := ⟨k - 1, by omega⟩
    have hjl : j < ow.length := by omega
    have hw : rd ((List.range n).map (weight (ow.map S43.f0))) (j : Int) = weight (ow.map S43.f0) j := by rw [rd_get _ j (by simp; omega)]; simp
    have Ahw := Aside0.mk hw
    clear hw
    have hwn : 0 ≤ weight (ow.map S43.f0) j ∧ weight (ow.map S43.f0) j ≤ 250 := num_iff.1 (num_atI _ 0)
    have hyn := num_iff.1 (valid_num hv (List.getElem_mem hjl)).2
    have hs := num_iff.1 (told_num (ow.map S43.f0) (fun j => (ow.getD j z43).f1) j)
    have ih' := ih (j + 1) k (by omega) (by omega)
    rw [told] at ih'
    rw [getD_get ow z43 hjl] at ih'
    rw [verditertop_topSecrets.l3, if_pos (by omega), if_pos (by omega), if_pos (by simp; omega), Ahw.out, rdT_get ow j hjl]
    generalize weight (ow.map S43.f0) j = wi at *
    generalize told (ow.map S43.f0) (fun j => (ow.getD j z43).f1) j = si at *
    have hm := mul_range hwn.1 hwn.2 hyn.1 hyn.2
    rw [if_neg (by omega), if_neg (by omega), if_neg (by omega), if_neg (by omega), wrap_id (a := wi * ow[j].f1) (by omega) (by omega), wrap_id (a := si + wi * ow[j].f1) (by omega) (by omega), Int.tmod_eq_emod_of_nonneg (by omega), wrap_succ j (by omega)]
    exact ih'
theorem zeros_of {ow : List S43} (hv : valid ow = 0) : valid (zerosAt (ow.map S43.f0)) = 0 := by
  refine valid_same hv (by unfold zerosAt; rw [List.map_map]; exact List.map_id _) fun p hp => ?_
  obtain ⟨x, _, rfl⟩ := List.mem_map.1 hp
  rfl
theorem l2_eq {c o : List Int} {ow l : List S43} {i n : Nat} (hc : ∀ x ∈ c, num x = true) (hcn : c.length = n) (h1 : 1 ≤ n) (h6 : n ≤ 6) (hol : o.length ≤ 100) (hl : l = shares c 12) (hi : i + n ≤ 12) (how : ow = (l.take (i + n)).drop i) : ∀ (d j k : Nat), j + d = n → d + 2000 < k →
    verditertop_topSecrets.l2 k c o l (i : Int) ow ((ow.map S43.f0).take j) (j : Int) = some true := by
  obtain ⟨hv, hlen, hcur, hll, hvl⟩ := ow_facts h1 h6 hl hi how
  have hxl : (ow.map S43.f0).length = n := by rw [List.length_map]; exact hlen
  intro d
  induction d with
  | zero =>
    intro j k hj hk
    obtain ⟨k, rfl⟩ : ∃ j, k = j + 2 := ⟨k - 2, by omega⟩
    have hz := zeros_of hv
    have e : weightsR (ow.map S43.f0) = ((List.range n).map (weight (ow.map S43.f0)), 0) := by unfold weightsR; rw [if_pos (by omega), if_pos hz, hxl]
    rw [verditertop_topSecrets.l2, if_neg (by omega), List.take_of_length_le (by omega), sweights_eq _ _ (by omega), e, Option.bind_some, if_pos rfl]
    simp only
    rw [show ((((List.range n).map (weight (ow.map S43.f0))).length : Int) != (ow.length : Int)) = false from bne_eq_false_iff_eq.2 (by simp; omega), verditertop_topSecrets.j7, if_neg (by simp)]
    exact l3_eq hc hcn h1 h6 hol hl hi how hz n 0 k (by omega) (by omega)
  | succ d ih =>
    intro j k hj hk
    obtain ⟨k, rfl⟩ : ∃ j, k = j + 1 := ⟨k - 1, by omega⟩
    have hjl : j < ow.length := by omega
    have ih' := ih (j + 1) k (by omega) (by omega)
    rw [List.take_succ_eq_append_getElem (by omega), List.getElem_map] at ih'
    rw [verditertop_topSecrets.l2, if_pos (by omega), if_pos (by omega), if_pos (by simp; omega), rdT_get ow j hjl, wrap_succ j (by omega)]
    exact ih'
theorem l1_eq {c o : List Int} {ow l : List S43} {i n : Nat} (hc : ∀ x ∈ c, num x = true) (hcn : c.length = n) (h1 : 1 ≤ n) (h6 : n ≤ 6) (hol : o.length ≤ 100) (hl : l = shares c 12) (hi : i + n ≤ 12) (how : ow = (l.take (i + n)).drop i) : ∀ (d j k : Nat), j + d = 12 → d + 7100 < k →
    verditertop_topSecrets.l1 k c o l (i : Int) ow ((j + 1 : Nat) : Int) = some true := by
  obtain ⟨hv, hlen, hcur, hll, hvl⟩ := ow_facts h1 h6 hl hi how
  intro d
  induction d with
  | zero =>
    intro j k hj hk
    obtain ⟨k, rfl⟩ : ∃ j, k = j + 1 := ⟨k - 1, by omega⟩
    rw [verditertop_topSecrets.l1, if_neg (by omega)]
    exact l2_eq hc hcn h1 h6 hol hl hi how n 0 k (by omega) (by omega)
  | succ d ih =>
    intro j k hj hk
    obtain ⟨k, rfl⟩ : ∃ j, k = j + 1 := ⟨k - 1, by omega⟩
    have hjl : j < l.length := by omega
    have hin : interp (pts ow) = c := interp_of_curve hv hc (by omega) hcur
    have hp : partR ow ((j + 1 : Nat) : Int) = (((j + 1 : Nat) : Int), atI c ((j + 1 : Nat) : Int), 0) := by
      unfold partR
      rw [if_pos hv, if_pos (by omega), curveR_eq hv (by omega) (by omega), if_pos rfl, hin]
    have hg : l[j] = ⟨((j + 1 : Nat) : Int), atI c ((j + 1 : Nat) : Int)⟩ := by subst hl; simp [shares]
    have hw : wrap64 (((j + 1 : Nat) : Int) - 1) = (j : Int) := by rw [wrap_id (by omega) (by omega)]; omega
    have Ahw := Aside0.mk hw
    clear hw
    rw [verditertop_topSecrets.l1, if_pos (by omega), spart_eq ow _ k (by omega), hp, Option.bind_some, if_pos rfl, Ahw.out, if_pos (by omega), if_pos (by omega), rdT_get l j hjl, hg, if_neg (by simp), wrap_succ (j + 1) (by omega)]
    exact ih (j + 1) k (by omega) (by omega)
theorem l0_eq {c o : List Int} {ow l few : List S43} {i n : Nat} {s : Int} (hc : ∀ x ∈ c, num x = true) (hcn : c.length = n) (h1 : 1 ≤ n) (h6 : n ≤ 6) (hol : o.length ≤ 100) (hl : l = shares c 12) (hi : i + n ≤ 12) (how : ow = (l.take (i + n)).drop i) (hs : num s = true) (hfew : few = ow.drop 1) : ∀ (d j k : Nat), j + d = few.length → d + 7200 < k →
    verditertop_topSecrets.l0 k c o l (i : Int) ow few (interp ((0, s) :: pts few)) (j : Int) = some true := by
  obtain ⟨hv, hlen, hcur, hll, hvl⟩ := ow_facts h1 h6 hl hi how
  have hvf : valid few = 0 := by rw [hfew]; exact valid_sub hv (List.drop_sublist 1 ow)
  have hfl : few.length = n - 1 := by rw [hfew, List.length_drop, hlen]
  have hg := good_secret hvf hs
  have hce : curveErr (interp ((0, s) :: pts few)) = 0 := curveErr_interp (by simp) (by simp [pts]; omega)
  intro d
  induction d with
  | zero =>
    intro j k hj hk
    obtain ⟨k, rfl⟩ : ∃ j, k = j + 1 := ⟨k - 1, by omega⟩
    rw [verditertop_topSecrets.l0, if_neg (by omega)]
    exact l1_eq hc hcn h1 h6 hol hl hi how 12 0 k (by omega) (by omega)
  | succ d ih =>
    intro j k hj hk
    obtain ⟨k, rfl⟩ : ∃ j, k = j + 1 := ⟨k - 1, by omega⟩
    have hjl : j < few.length := by omega
    have hm := List.getElem_mem hjl
    have ha := interp_at hg (q := (few[j].f0, few[j].f1)) (List.mem_cons_of_mem _ (mem_pts hm))
    rw [verditertop_topSecrets.l0, if_pos (by omega), if_pos (by omega), rdT_get few j hjl, secretAt_ok hce (valid_num hvf hm).1, Option.bind_some, if_pos rfl, if_pos ha, wrap_succ j (by omega)]
    exact ih (j + 1) k (by omega) (by omega)
end Go.Proofs.Ythlbjdiicmojfaa.P.T

/-! Part PureTopSecrets. -/
namespace Go.Proofs.Ythlbjdiicmojfaa.P.T
open Go.RowKit Go.Proofs.YthlbjdiicmojfaaW.PrintWords Go.Proofs.YthlbjdiicmojfaaW.PrintLast Go.Proofs.YthlbjdiicmojfaaW.PrintMore
set_option linter.unusedVariables false
set_option maxHeartbeats 1000000
theorem _root_.Go.Proofs.Ythlbjdiicmojfaa.P.pureTopSecrets (c o : List Int) (a1 a2 : Int) : ∃ k, verditertop_topSecrets.f k c o a1 a2 = some true := by
  refine ⟨10000, ?_⟩
  have quick : verditertop_topSecrets.j1 9999 a1 a2 c o true = some true := by rw [verditertop_topSecrets.j1, if_pos rfl]
  rw [verditertop_topSecrets.f, inverse_two _ (by omega), Option.bind_some, if_pos rfl, show ((126 : Int) != 126) = false from rfl, verditertop_topSecrets.j0, if_neg (by simp)]
  by_cases hl1 : (c.length : Int) > 100
  · rw [if_pos hl1]; exact quick
  rw [if_neg hl1]
  by_cases hl2 : (o.length : Int) > 100
  · rw [decide_eq_true hl2]; exact quick
  rw [decide_eq_false hl2, verditertop_topSecrets.j1, if_neg (by simp), share_eq _ _ _ (by omega), Option.bind_some]
  by_cases hce : curveErr c = 0
  · obtain ⟨h1, h6, hnum⟩ := curveErr_iff.1 hce
    obtain ⟨l, hl⟩ : ∃ l, l = shares c 12 := ⟨_, rfl⟩
    have e : shareR c 12 = (l, 0) := by unfold shareR; rw [if_pos hce, if_pos (by omega), hl]; rfl
    have hsl : l.length = 12 := by rw [hl, shares_length]
    have hsl2 : ((l.length : Int) != 12) = false := bne_eq_false_iff_eq.2 (by omega)
    rw [e, if_pos rfl, if_neg (by omega), if_neg (by omega)]
    simp only
    rw [hsl2, verditertop_topSecrets.j2, if_neg (by simp)]
    have hw1 : wrap64 (12 - (c.length : Int)) = 12 - (c.length : Int) := wrap_id (by omega) (by omega)
    have Ahw1 := Aside0.mk hw1
    clear hw1
    have hw2 : wrap64 (12 - (c.length : Int) + 1) = 13 - (c.length : Int) := by rw [wrap_id (by omega) (by omega)]; omega
    have Ahw2 := Aside0.mk hw2
    clear hw2
    have hw3 : IntKind.u64.wrap (13 - (c.length : Int)) = 13 - (c.length : Int) := by rw [u64_of]; omega
    have Ahw3 := Aside0.mk hw3
    clear hw3
    obtain ⟨i, hi, hie⟩ : ∃ i : Nat, i + c.length ≤ 12 ∧ Aside0 (wrap64 (Int.tmod (IntKind.u64.wrap a1) (13 - (c.length : Int))) = (i : Int)) := by
      have h0 : 0 ≤ IntKind.u64.wrap a1 := by rw [u64_of]; omega
      have ha := Int.emod_nonneg (IntKind.u64.wrap a1) (show (13 - (c.length : Int)) ≠ 0 by omega)
      have hb := Int.emod_lt_of_pos (IntKind.u64.wrap a1) (show 0 < (13 - (c.length : Int)) by omega)
      refine ⟨(IntKind.u64.wrap a1 % (13 - (c.length : Int))).toNat, by omega, ⟨?_⟩⟩
      rw [Int.tmod_eq_emod_of_nonneg h0, wrap_id (by omega) (by omega)]
      omega
    obtain ⟨s, hs, hse⟩ : ∃ s : Int, num s = true ∧ Aside0 (wrap64 (Int.tmod (IntKind.u64.wrap a2) 251) = s) := by
      refine ⟨IntKind.u64.wrap a2 % 251, num_mod _, ⟨?_⟩⟩
      have h0 : 0 ≤ IntKind.u64.wrap a2 := by rw [u64_of]; omega
      rw [Int.tmod_eq_emod_of_nonneg h0, wrap_id (by omega) (by omega)]
    have hw4 : wrap64 ((i : Int) + (c.length : Int)) = ((i + c.length : Nat) : Int) := by rw [wrap_id (by omega) (by omega)]; omega
    have Ahw4 := Aside0.mk hw4
    clear hw4
    obtain ⟨ow, how⟩ : ∃ ow, ow = (l.take (i + c.length)).drop i := ⟨_, rfl⟩
    obtain ⟨few, hfew⟩ : ∃ few, few = ow.drop 1 := ⟨_, rfl⟩
    obtain ⟨hv, hlen, hcur, hll, hvl⟩ := ow_facts h1 h6 hl hi how
    have hin : interp (pts ow) = c := interp_of_curve hv hnum (by omega) hcur
    have hvf : valid few = 0 := by rw [hfew]; exact valid_sub hv (List.drop_sublist 1 ow)
    have hfl : few.length = c.length - 1 := by rw [hfew, List.length_drop, hlen]
    have hcm : secret_Complete.f few s = some (interp ((0, s) :: pts few), 0) := by rw [secret_Complete.f, if_pos hvf, if_pos hs, if_neg (by omega)]
    have hgl : (interp ((0, s) :: pts few)).length = c.length := by rw [interp_len]; simp [pts]; omega
    have hg0 : rd (interp ((0, s) :: pts few)) 0 = s := by
      have e1 := atI_zero (interp_nums ((0, s) :: pts few))
      have e2 := interp_at (good_secret hvf hs) (q := (0, s)) (by simp)
      show (interp ((0, s) :: pts few)).getD 0 0 = s
      rw [← e1]; exact e2
    have hlie : lieOnR l (c.length : Int) = (true, 0) := by
      unfold lieOnR
      rw [if_pos (neededR_eq hvl (by omega) (by omega)), Int.toNat_natCast, lies_of_curve hvl hnum rfl fun p hp => by rw [hl] at hp; exact (mem_shares hp).2.2]
    rw [Ahw1.out, Ahw2.out, Ahw3.out, if_neg (show ¬ (13 - (c.length : Int) = 0) by omega), hie.out, Ahw4.out, hse.out, Option.bind_some, if_pos (by omega), if_pos (by omega), if_pos (by omega), Option.bind_some, Int.toNat_natCast, Int.toNat_natCast, ← how, List.nil_append, hlen, if_pos (by simp; omega), Option.bind_some, curve_eq, curveR_eq hv (by omega) (by omega), hin, Option.bind_some, Option.bind_some, hlen, if_pos (by omega), Option.bind_some, ← hfew, List.nil_append, hfl, if_pos (by simp; omega), Option.bind_some, hcm, Option.bind_some, lieOn_eq', hlie, Option.bind_some, if_pos rfl, sameInts_self c (by omega) _ (by omega), Option.bind_some, if_pos rfl, if_pos rfl]
    simp only
    rw [hgl, if_pos rfl, if_pos (by omega), if_pos hg0, if_pos True.intro, verditertop_topSecrets.j3, if_neg (by simp)]
    exact l0_eq hnum rfl h1 h6 (by omega) hl hi how hs hfew few.length 0 _ (by omega) (by omega)
  · have e : shareR c 12 = ([], curveErr c) := by unfold shareR; rw [if_neg hce]
    rw [e, if_neg hce]
end Go.Proofs.Ythlbjdiicmojfaa.P.T
