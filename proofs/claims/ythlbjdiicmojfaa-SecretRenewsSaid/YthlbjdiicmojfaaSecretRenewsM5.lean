/- Parts of the proof of the law SecretRenews: walks of functions that it reaches, and plain facts about numbers, lists and curves; without a condition. -/
import Derived.Test.YthlbjdiicmojfaaSecretRenewsM4
import Derived.Test.YthlbjdiicmojfaaSecretRenewsM1
import Derived.Test.YthlbjdiicmojfaaSecretRenewsM3
import Derived.Test.YthlbjdiicmojfaaVSized
import Derived.Deep.SlicePairs
import Derived.Test.YthlbjdiicmojfaaSecretRenewsM2
/-! Part H59. -/
namespace Go.Proofs.Ythlbjdiicmojfaa.P
open Go.RowKit Go.Proofs.YthlbjdiicmojfaaW.PrintWords Go.Proofs.YthlbjdiicmojfaaW.PrintLast Go.Proofs.YthlbjdiicmojfaaW.PrintMore
set_option linter.unusedVariables false

/-- The parts renewed, up to place i. -/
def renP (c : List Int) (p : S43) : S43 := ⟨p.f0, (p.f1 + atI c p.f0) % 251⟩
def renTo (c : List Int) (l : List S43) (i : Nat) : List S43 := (l.take i).map (renP c) ++ l.drop i
theorem renTo_length (c : List Int) (l : List S43) (i : Nat) (hi : i ≤ l.length) : (renTo c l i).length = l.length := by
  unfold renTo; simp; omega
theorem renTo_get (c : List Int) (l : List S43) (i : Nat) (hi : i < l.length) : (renTo c l i)[i]? = some l[i] := by
  unfold renTo
  rw [List.getElem?_append_right (by simp; omega)]
  simp only [List.length_map, List.length_take]
  rw [show i - min i l.length = 0 by omega, List.getElem?_drop]
  simp [hi]
theorem renTo_succ (c : List Int) (l : List S43) (i : Nat) (hi : i < l.length) (hg : i < (renTo c l i).length) : (renTo c l i).set i ⟨(renTo c l i)[i].f0, (l[i].f1 + atI c l[i].f0) % 251⟩ = renTo c l (i + 1) := by
  have h1 : (renTo c l i)[i] = l[i] := by have := renTo_get c l i hi; rw [List.getElem?_eq_getElem hg] at this; exact Option.some.inj this
  rw [h1]
  unfold renTo
  have hz : ((l.take i).map (renP c)).length = i := by simp; omega
  rw [List.set_append_right _ _ (by omega), hz, Nat.sub_self, List.drop_eq_getElem_cons hi, List.set_cons_zero, List.take_succ_eq_append_getElem hi, List.map_append, List.append_assoc]
  rfl
theorem frozen_below {w w1 : World} (h : Below w.heap.size w w1) {p : Addr} (hp : p.block < w.heap.size) (hf : w.frozen? p = false) : w1.frozen? p = false := (h.frozen hp).trans hf

set_option maxHeartbeats 8000000 in
set_option maxRecDepth 100000 in
theorem secret_Renew.calls (A0 : Option Addr) (c0 : Nat) (l0 : List (S43)) (A1 : Option Addr) (c1 : Nat) (l1 : List Int) (r1 : List (S43)) (r2 : Int) (w : World) (hr0 : Kd.C k43 w A0 l0.length l0) (hc0 : l0.length ≤ c0) (hr1 : Kd.C (Kd.int .i64) w A1 l1.length l1) (hc1 : l1.length ≤ c1) (h : secret_Renew.f l0 l1 = some (r1, r2)) :
    Calls Try.prog 59 #[.slice A0 l0.length c0, .slice A1 l1.length c1] w fun e w' => ∃ v0_ : Value, e = .returned (.tuple #[v0_, .int .i64 r2]) ∧ Kd.R k43 43 w' w.heap.size (fun _ => True) v0_ r1 ∧ Below w.heap.size w w' := by
  have HV0 := Aside0.mk (secret_Validate.calls A0 c0 l0 (valid l0) w hr0 hc0 rfl)
  have HV1 : Aside0 (∀ W, Below w.heap.size w W → Calls Try.prog 79 #[.slice A1 l1.length c1] W fun e w' => e = .returned (.int .i64 (curveErr l1)) ∧ Below W.heap.size W w') := ⟨fun W hW => secret_isCurve.calls A1 c1 l1 (curveErr l1) W (Kd.C_below hr1 hW) hc1 rfl⟩
  have HR0 := Aside0.mk hr0
  have HR1 := Aside0.mk hr1
  have HC0 := Aside0.mk hc0
  have HC1 := Aside0.mk hc1
  have hu43 := Try.underlying43
  clear hr0 hr1 hc0 hc1
  unfold secret_Renew.f at h
  split at h
  · rename_i hv
    obtain ⟨hlen, -, -⟩ := valid_iff.1 hv
    have hok0 := (valid_iff.1 hv).2.1
    rw [hv] at HV0
    have HOK0 := Aside0.mk hok0
    clear hv hok0
    split at h
    · rename_i hv1
      obtain ⟨hl1, hl6, hnn⟩ := curveErr_iff.1 hv1
      have HNN := Aside0.mk hnn
      rw [hv1] at HV1
      clear hv1 hnn
      have hcell : ∀ W, Below w.heap.size w W → ∃ ad, A1 = some ad ∧ W.cell? ad = some (.int .i64 (l1.getD 0 0)) := by
        intro W hW
        obtain ⟨ad, e, hx⟩ := Kd.at_int (Kd.C_below HR1.out hW) 0 (by omega) (by omega)
        refine ⟨ad, e, ?_⟩
        rw [show (0 : Int).toNat = 0 from rfl, Addr.add_zero'] at hx
        exact hx
      obtain ⟨ad, hA1, -⟩ := hcell w (Below.refl _ _)
      subst hA1
      have HCELL : Aside0 (∀ W, Below w.heap.size w W → W.cell? ad = some (.int .i64 (l1.getD 0 0))) := ⟨fun W hW => by obtain ⟨ad', e, h⟩ := hcell W hW; cases e; exact h⟩
      clear hcell
      have hl0z : (0 : Int) < (l1.length : Int) := by omega
      split at h
      · rename_i hz
        simp only [Option.some.injEq, Prod.mk.injEq] at h
        obtain ⟨hr, rfl⟩ := h
        have HR := Aside0.mk hr
        have HZ := Aside0.mk hz
        clear hr hz
        go_enter Try.func59, Try.ntmps59
        go_wp2_with fail
        with_reducible refine HV0.out.mono ?_
        rintro e w1 ⟨rfl, hb⟩
        have HB1 := Aside0.mk hb
        clear hb
        go_wp2_with fail
        with_reducible refine (HV1.out w1 HB1.out).mono ?_
        rintro e w2 ⟨rfl, hb⟩
        have HB2 := Aside0.mk (below_step HB1.out hb)
        clear hb
        have hc0' := HCELL.out w2 HB2.out
        rw [HZ.out] at hc0'
        go_wp2_with fail
        with_reducible refine (api_Part_93.calls A0 c0 l0 l0 _ (Kd.C_below HR0.out HB2.out) HC0.out (by unfold api_Part_93.f; rw [if_pos hlen])).mono ?_
        rintro e w4 ⟨v, rfl, hR, hb⟩
        have HB4 := Aside0.mk (below_step HB2.out hb)
        have HO := Aside0.mk (own43 (Kd.R_lower hR (below_size HB2.out)))
        obtain ⟨Av, cv, ev⟩ := Kd.R_slice hR
        subst ev
        clear hb hR hc0'
        go_wp2_with fail
        go_loopg [29] l0.length (fun gg s29 wr => ∃ i : Nat, i ≤ l0.length ∧ l0.length - i ≤ gg ∧ s29 = .int .i64 i ∧ Aside0 (wr.ownsRow w.heap.size 43 2 (.slice Av l0.length cv) l0.length (fl (renTo l1 l0 i))) ∧ Aside0 (Below w.heap.size w wr))
        case atStart => exact ⟨0, Nat.zero_le _, by omega, rfl, ⟨by have := HO.out; simpa [renTo] using this⟩, HB4⟩
        case round =>
          clear HO HB4 HB2 HB1
          obtain ⟨i, hi, hg, rfl, HO, HB⟩ := hrel
          by_cases hlt : i < l0.length
          · have hltz : (i : Int) < (l0.length : Int) := by omega
            have hq0 : (0 : Int) ≤ (i : Int) := by omega
            obtain ⟨g, hAv⟩ : ∃ g, Av = some ⟨g, 0, none⟩ := by
              rcases HO.out.2 with ⟨_, h0⟩ | ⟨g, cap, _, he, _⟩
              · omega
              · cases he; exact ⟨g, rfl⟩
            subst hAv
            have hal : (renTo l1 l0 i).length = l0.length := renTo_length l1 l0 i hi
            have hown := HO.out
            rw [← hal] at hown
            have hia : i < (renTo l1 l0 i).length := by rw [hal]; exact hlt
            obtain ⟨hcx, hcy, hfz⟩ := own43_cell hown i hia
            have hgi : (renTo l1 l0 i)[i] = l0[i] := by have := renTo_get l1 l0 i hlt; rw [List.getElem?_eq_getElem hia] at this; exact Option.some.inj this
            rw [hgi] at hcx hcy
            have HGB := Aside0.mk (own43_below hown)
            have HGL : Aside0 (g < wr.heap.size) := ⟨World.block_lt_of_cell? wr _ hcx⟩
            have hfz1 := hfz (i * 2 + 1)
            have HFZ := Aside0.mk hfz1
            have HCY := Aside0.mk hcy
            have hy0 := okP_iff.1 (HOK0.out l0[i] (List.getElem_mem hlt))
            have HAT := Aside0.mk (at_eq HNN.out (by omega : l1.length ≤ 12) (num_iff.2 ⟨by omega, hy0.2.1⟩ : num l0[i].f0 = true))
            have hna := num_iff.1 (num_atI l1 l0[i].f0)
            have HSET : Aside0 (∀ W : World, W.ownsRow w.heap.size 43 2 (.slice (some ⟨g, 0, none⟩) l0.length cv) l0.length (fl (renTo l1 l0 i)) → (W.setCell ⟨g, i * 2 + 1, none⟩ (.int .i64 ((l0[i].f1 + atI l1 l0[i].f0) % 251))).ownsRow w.heap.size 43 2 (.slice (some ⟨g, 0, none⟩) l0.length cv) l0.length (fl (renTo l1 l0 (i + 1)))) := ⟨fun W hW => by
              rw [← hal] at hW
              have hset := own43_set hW i hia ((l0[i].f1 + atI l1 l0[i].f0) % 251)
              rw [renTo_succ l1 l0 i hlt hia, renTo_length l1 l0 (i + 1) (by omega)] at hset
              exact hset⟩
            generalize atI l1 l0[i].f0 = av at HAT hna HSET
            generalize l0[i].f1 = y0 at hcy hy0 HSET HCY
            generalize l0[i].f0 = x0 at hcx HAT hy0
            obtain ⟨-, -, hy00, hy01⟩ := hy0
            obtain ⟨hna0, hna1⟩ := hna
            have hsum : IntKind.i64.wrap (y0 + av) = y0 + av := IntWalk.i64_in _ (by omega)
            clear hown hfz hal hia hgi
            have hal2 := below_alloc (Below.refl wr.heap.size wr) (.cells #[.int .i64 x0, .int .i64 y0] 43)
            have HW := Aside0.mk (below_step HB.out hal2)
            have HOW := Aside0.mk (pw_own_below HO.out hal2)
            have HB0 : Aside0 ((wr.alloc (.cells #[.int .i64 x0, .int .i64 y0] 43)).cell? ⟨wr.heap.size, 0, none⟩ = some (.int .i64 x0)) := ⟨blk_cell (alloc_new wr (.cells #[.int .i64 x0, .int .i64 y0] 43)).2 0⟩
            have HB1 : Aside0 ((wr.alloc (.cells #[.int .i64 x0, .int .i64 y0] 43)).cell? ⟨wr.heap.size, 1, none⟩ = some (.int .i64 y0)) := ⟨blk_cell (alloc_new wr (.cells #[.int .i64 x0, .int .i64 y0] 43)).2 1⟩
            have HCYW := Aside0.mk (pw_cell_below hal2 HCY.out)
            have HFZW := Aside0.mk (frozen_below hal2 (p := ⟨g, i * 2 + 1, none⟩) HGL.out HFZ.out)
            have HGLW : Aside0 (g < (wr.alloc (.cells #[.int .i64 x0, .int .i64 y0] 43)).heap.size) := ⟨Nat.lt_of_lt_of_le HGL.out hal2.size⟩
            obtain ⟨n1, hn1⟩ : ∃ n1, wr.heap.size = n1 := ⟨_, rfl⟩
            rw [hn1] at HB0 HB1
            have HN1 := Aside0.mk hn1
            clear hal2
            go_wp2_with fail
            clear hn1
            generalize wr.alloc (.cells #[.int .i64 x0, .int .i64 y0] 43) = w5 at HW HOW HB0 HB1 HCYW HFZW HGLW ⊢
            have hb0 := HB0.out
            have hb1 := HB1.out
            go_region_with (first | (go_at_call 80; refine (secret_curve_at.calls (some ad) c1 l1 x0 av _ (Kd.C_drew (Kd.C_below HR1.out HW.out)) HC1.out HAT.out).mono ?_; rintro e w6 ⟨rfl, hb⟩; have hd0 := pw_cell_below hb HB0.out; have hd1 := pw_cell_below hb HB1.out; have hd2 := pw_cell_below hb HCYW.out; have hd3 := frozen_below hb (p := ⟨g, i * 2 + 1, none⟩) HGLW.out HFZW.out; have HH := Aside0.mk hb; clear hb) | (go_at_call 96; refine (secret_rest.calls _ _ _ (rest_eq _)).mono ?_; rintro e w' ⟨rfl, ⟨nd, rfl⟩⟩))
            all_goals
              go_wp2_with fail
              go_roundg (l0.length - (i + 1))
              case measure => omega
              case rel => exact ⟨i + 1, by omega, by omega, by go_num, ⟨HSET.out (w6.drewN nd) (pw_own_below (w := w5.drew) HOW.out (pw_below_drewN HH.out nd))⟩, ⟨(pw_below_drewN (below_step (below_drew HW.out) HH.out) nd).setCell (p := ⟨g, i * 2 + 1, none⟩) HGB.out _⟩⟩
          · have hltz : ¬ (i : Int) < (l0.length : Int) := by omega
            have HE : Aside0 (renTo l1 l0 i = l0.map (renP l1)) := ⟨by unfold renTo; rw [List.take_of_length_le (by omega), List.drop_of_length_le (by omega), List.append_nil]⟩
            go_wp2_with fail
            go_ret2
            refine ⟨_, rfl, ?_, HB.out⟩
            have h1 : r1 = l0.map (renP l1) := HR.out.symm
            rw [h1, ← HE.out]
            refine R43 ?_
            rw [renTo_length l1 l0 i hi]
            exact HO.out
      · rename_i hz
        simp only [Option.some.injEq, Prod.mk.injEq] at h
        obtain ⟨rfl, rfl⟩ := h
        have hz1 : (l1.getD 0 0 != 0) = true := by rw [bne_iff_ne]; exact hz
        obtain ⟨zz, hzz⟩ : ∃ zz, l1.getD 0 0 = zz := ⟨_, rfl⟩
        rw [hzz] at HCELL hz1
        clear hz hzz
        go_enter Try.func59, Try.ntmps59
        go_wp2_with fail
        with_reducible refine HV0.out.mono ?_
        rintro e w1 ⟨rfl, hb⟩
        have HB1 := Aside0.mk hb
        clear hb
        go_wp2_with fail
        with_reducible refine (HV1.out w1 HB1.out).mono ?_
        rintro e w2 ⟨rfl, hb⟩
        have HB2 := Aside0.mk (below_step HB1.out hb)
        clear hb
        have hc0' := HCELL.out w2 HB2.out
        go_wp2_with fail
        go_ret2
        exact ⟨_, rfl, Kd.R_nil _ _ _ _ _, HB2.out⟩
    · rename_i hv1
      simp only [Option.some.injEq, Prod.mk.injEq] at h
      obtain ⟨rfl, rfl⟩ := h
      have hw1 : (curveErr l1 == 0) = false := by simpa using hv1
      have hw2 : (curveErr l1 != 0) = true := by simpa using hv1
      obtain ⟨vv, hvv⟩ : ∃ vv, curveErr l1 = vv := ⟨_, rfl⟩
      rw [hvv] at HV1 hw1 hw2 ⊢
      clear hv1 hvv
      go_enter Try.func59, Try.ntmps59
      go_wp2_with fail
      with_reducible refine HV0.out.mono ?_
      rintro e w1 ⟨rfl, hb⟩
      have HB1 := Aside0.mk hb
      clear hb
      go_wp2_with fail
      with_reducible refine (HV1.out w1 HB1.out).mono ?_
      rintro e w2 ⟨rfl, hb⟩
      have HB2 := Aside0.mk (below_step HB1.out hb)
      clear hb
      go_wp2_with fail
      go_ret2
      exact ⟨_, rfl, Kd.R_nil _ _ _ _ _, HB2.out⟩
  · rename_i hv
    simp only [Option.some.injEq, Prod.mk.injEq] at h
    obtain ⟨rfl, rfl⟩ := h
    have hw1 : (valid l0 == 0) = false := by simpa using hv
    have hw2 : (valid l0 != 0) = true := by simpa using hv
    obtain ⟨vv, hvv⟩ : ∃ vv, valid l0 = vv := ⟨_, rfl⟩
    rw [hvv] at HV0 hw1 hw2 ⊢
    clear hv hvv
    go_enter Try.func59, Try.ntmps59
    go_wp2_with fail
    with_reducible refine HV0.out.mono ?_
    rintro e w1 ⟨rfl, hb⟩
    have HB1 := Aside0.mk hb
    clear hb
    go_wp2_with fail
    go_ret2
    exact ⟨_, rfl, Kd.R_nil _ _ _ _ _, HB1.out⟩
end Go.Proofs.Ythlbjdiicmojfaa.P

/-! Part PF34. -/
-- Written for this claim by wip/print_more.py (a session's program that runs the kit's printer with hand-proved functions beside). Lean checks it.
namespace Go.Proofs.Ythlbjdiicmojfaa.P
open Go.RowKit Go.Proofs.YthlbjdiicmojfaaW.PrintWords Go.Proofs.YthlbjdiicmojfaaW.PrintLast Go.Proofs.YthlbjdiicmojfaaW.PrintMore
attribute [local go_sem] max2_int min2_int max_two min_two max_three min_three max_four min_four   -- for this text's walks alone
set_option linter.unusedVariables false
set_option linter.unusedSimpArgs false

/-! ### verditerlaw08_secretRenews: function 34 -/
mutual
def verditerlaw08_secretRenews.j0 : Nat → List (S43) → List Int → Bool → Option (Bool)
  | 0, _, _, _ => none
  | k + 1, x0, x1, x20 => if x20 = true then ((verditerlaw08_known.f k).bind fun t543 => (some t543)) else ((some (([] : List (S43)) : List (S43))).bind fun y544 => (if y544.length + x0.length < 8796093022208 then ((some (y544 ++ x0 : List (S43))).bind fun y547 => ((verditerref08_Renew.f k x0 x1).bind fun bt550 => ((secret_Renew.f y547 x1).bind fun bt554 => (if bt554.2 = bt550.2 then ((verditerref08_Same.f k bt554.1 bt550.1).bind fun t558 => (if t558 = true then ((verditerref08_Same.f k y547 x0).bind fun t559 => (verditerlaw08_secretRenews.j1 k x0 x1 bt554.1 bt554.2 (!t559))) else (verditerlaw08_secretRenews.j1 k x0 x1 bt554.1 bt554.2 true))) else (verditerlaw08_secretRenews.j1 k x0 x1 bt554.1 bt554.2 true))))) else (none)))
def verditerlaw08_secretRenews.j1 : Nat → List (S43) → List Int → List (S43) → Int → Bool → Option (Bool)
  | 0, _, _, _, _, _ => none
  | k + 1, x0, x1, x8, x9, x51 => if x51 = true then (some false) else ((secret_Secret.f x0).bind fun bt560 => ((secret_Secret.f x8).bind fun bt562 => (if x9 = 0 then (if bt560.2 = 0 then (verditerlaw08_secretRenews.j2 k bt560.1 bt562.1 bt562.2 (decide ((x1.length : Int) > (x0.length : Int)))) else (verditerlaw08_secretRenews.j2 k bt560.1 bt562.1 bt562.2 true)) else (verditerlaw08_secretRenews.j2 k bt560.1 bt562.1 bt562.2 true))))
def verditerlaw08_secretRenews.j2 : Nat → Int → Int → Int → Bool → Option (Bool)
  | 0, _, _, _, _ => none
  | k + 1, x10, x12, x13, x74 => if x74 = true then ((verditerlaw08_known.f k).bind fun t564 => (some t564)) else (if x13 = 0 then (if x10 = x12 then ((verditerlaw08_known.f k).bind fun t565 => (some t565)) else (some false)) else (some false))
end
def verditerlaw08_secretRenews.f (k : Nat) (l0 : List (S43)) (l1 : List Int) : Option (Bool) := (verditerlaw08_Long.f l0).bind fun t542 => (if t542 = true then (verditerlaw08_secretRenews.j0 k l0 l1 true) else (verditerlaw08_secretRenews.j0 k l0 l1 (decide ((l1.length : Int) > 100))))
theorem verditerlaw08_secretRenews.mono_l : ∀ k, (∀ y0 y1 y2, LeO (verditerlaw08_secretRenews.j0 k y0 y1 y2) (verditerlaw08_secretRenews.j0 (k + 1) y0 y1 y2)) ∧ (∀ y0 y1 y2 y3 y4, LeO (verditerlaw08_secretRenews.j1 k y0 y1 y2 y3 y4) (verditerlaw08_secretRenews.j1 (k + 1) y0 y1 y2 y3 y4)) ∧ (∀ y0 y1 y2 y3, LeO (verditerlaw08_secretRenews.j2 k y0 y1 y2 y3) (verditerlaw08_secretRenews.j2 (k + 1) y0 y1 y2 y3))
  | 0 => ⟨fun _ _ _ r h => by simp [verditerlaw08_secretRenews.j0] at h, fun _ _ _ _ _ r h => by simp [verditerlaw08_secretRenews.j1] at h, fun _ _ _ _ r h => by simp [verditerlaw08_secretRenews.j2] at h⟩
  | k + 1 => by
    obtain ⟨ih0, ih1, ih2⟩ := verditerlaw08_secretRenews.mono_l k
    refine ⟨?_, ?_, ?_⟩
    · intro y0 y1 y2
      unfold verditerlaw08_secretRenews.j0
      repeat' first
      | (with_reducible exact ih0 _ _ _)
      | (with_reducible exact ih1 _ _ _ _ _)
      | (with_reducible exact ih2 _ _ _ _)
      | (with_reducible exact verditerlaw08_known.mono _)
      | (with_reducible exact verditerref08_Renew.mono _ _ _)
      | (with_reducible exact verditerref08_Same.mono _ _ _)
      | (with_reducible exact LeO.refl _)
      | (with_reducible exact LeO.none _)
      | (with_reducible refine LeO.ite ?_ ?_)
      | (with_reducible refine LeO.bind ?_ (fun _ => ?_))
      | exact ih0 _ _ _
      | exact ih1 _ _ _ _ _
      | exact ih2 _ _ _ _
      | exact verditerlaw08_known.mono _
      | exact verditerref08_Renew.mono _ _ _
      | exact verditerref08_Same.mono _ _ _
      | exact LeO.none _
      | refine LeO.ite ?_ ?_
      | refine LeO.bind ?_ (fun _ => ?_)
    · intro y0 y1 y2 y3 y4
      unfold verditerlaw08_secretRenews.j1
      repeat' first
      | (with_reducible exact ih0 _ _ _)
      | (with_reducible exact ih1 _ _ _ _ _)
      | (with_reducible exact ih2 _ _ _ _)
      | (with_reducible exact verditerlaw08_known.mono _)
      | (with_reducible exact verditerref08_Renew.mono _ _ _)
      | (with_reducible exact verditerref08_Same.mono _ _ _)
      | (with_reducible exact LeO.refl _)
      | (with_reducible exact LeO.none _)
      | (with_reducible refine LeO.ite ?_ ?_)
      | (with_reducible refine LeO.bind ?_ (fun _ => ?_))
      | exact ih0 _ _ _
      | exact ih1 _ _ _ _ _
      | exact ih2 _ _ _ _
      | exact verditerlaw08_known.mono _
      | exact verditerref08_Renew.mono _ _ _
      | exact verditerref08_Same.mono _ _ _
      | exact LeO.none _
      | refine LeO.ite ?_ ?_
      | refine LeO.bind ?_ (fun _ => ?_)
    · intro y0 y1 y2 y3
      unfold verditerlaw08_secretRenews.j2
      repeat' first
      | (with_reducible exact ih0 _ _ _)
      | (with_reducible exact ih1 _ _ _ _ _)
      | (with_reducible exact ih2 _ _ _ _)
      | (with_reducible exact verditerlaw08_known.mono _)
      | (with_reducible exact verditerref08_Renew.mono _ _ _)
      | (with_reducible exact verditerref08_Same.mono _ _ _)
      | (with_reducible exact LeO.refl _)
      | (with_reducible exact LeO.none _)
      | (with_reducible refine LeO.ite ?_ ?_)
      | (with_reducible refine LeO.bind ?_ (fun _ => ?_))
      | exact ih0 _ _ _
      | exact ih1 _ _ _ _ _
      | exact ih2 _ _ _ _
      | exact verditerlaw08_known.mono _
      | exact verditerref08_Renew.mono _ _ _
      | exact verditerref08_Same.mono _ _ _
      | exact LeO.none _
      | refine LeO.ite ?_ ?_
      | refine LeO.bind ?_ (fun _ => ?_)
theorem verditerlaw08_secretRenews.mono : ∀ a0 a1 k, LeO (verditerlaw08_secretRenews.f k a0 a1) (verditerlaw08_secretRenews.f (k + 1) a0 a1) := by
  intro a0 a1 k
  obtain ⟨ih0, ih1, ih2⟩ := verditerlaw08_secretRenews.mono_l k
  unfold verditerlaw08_secretRenews.f
  repeat' first
      | (with_reducible exact ih0 _ _ _)
      | (with_reducible exact ih1 _ _ _ _ _)
      | (with_reducible exact ih2 _ _ _ _)
      | (with_reducible exact verditerlaw08_known.mono _)
      | (with_reducible exact verditerref08_Renew.mono _ _ _)
      | (with_reducible exact verditerref08_Same.mono _ _ _)
      | (with_reducible exact LeO.refl _)
      | (with_reducible exact LeO.none _)
      | (with_reducible refine LeO.ite ?_ ?_)
      | (with_reducible refine LeO.bind ?_ (fun _ => ?_))
      | exact ih0 _ _ _
      | exact ih1 _ _ _ _ _
      | exact ih2 _ _ _ _
      | exact verditerlaw08_known.mono _
      | exact verditerref08_Renew.mono _ _ _
      | exact verditerref08_Same.mono _ _ _
      | exact LeO.none _
      | refine LeO.ite ?_ ?_
      | refine LeO.bind ?_ (fun _ => ?_)
set_option maxHeartbeats 8000000 in
set_option maxRecDepth 100000 in
theorem verditerlaw08_secretRenews.calls (k : Nat) (A0 : Option Addr) (c0 : Nat) (l0 : List (S43)) (A1 : Option Addr) (c1 : Nat) (l1 : List Int) (r : Bool) (w : World) (hr0 : Kd.C k43 w A0 l0.length l0) (hc0 : l0.length ≤ c0) (hr1 : Kd.C (Kd.int .i64) w A1 l1.length l1) (hc1 : l1.length ≤ c1) (h : verditerlaw08_secretRenews.f k l0 l1 = some r) :
    Calls Try.prog 34 #[.slice A0 l0.length c0, .slice A1 l1.length c1] w fun e w' => e = .returned (.bool r) ∧ Below w.heap.size w w' := by
  have HR0 := Aside0.mk hr0
  have HC0 := Aside0.mk hc0
  clear hr0 hc0
  have HR1 := Aside0.mk hr1
  have HC1 := Aside0.mk hc1
  clear hr1 hc1
  have HB := Aside0.mk (Below.refl w.heap.size w)
  have H : ((verditerlaw08_Long.f l0).bind fun t542 => (if t542 = true then (verditerlaw08_secretRenews.j0 k l0 l1 true) else (verditerlaw08_secretRenews.j0 k l0 l1 (decide ((l1.length : Int) > 100))))) = some r := h
  clear h
  have HC3 := Aside0.mk H
  clear H
  go_enter Try.func34, Try.ntmps34
  go_upto_region 1 with (fail)
  go_cut [20] (fun v20 wc => ∃ (kq : Nat) (x20_2 : Bool), v20 = .bool x20_2 ∧ Aside0 (verditerlaw08_secretRenews.j0 kq l0 l1 x20_2 = some r) ∧ Aside0 (kq ≤ k) ∧ Aside0 (Below w.heap.size w wc))
  case first =>
    have H := HC3.out
    clear HC3
    replace H := Option.bind_eq_some_iff.mp H
    obtain ⟨t542, A40, H⟩ := H
    replace H : (if t542 = true then (verditerlaw08_secretRenews.j0 k l0 l1 true) else (verditerlaw08_secretRenews.j0 k l0 l1 (decide ((l1.length : Int) > 100)))) = some r := H
    have A4 := Aside0.mk A40
    clear A40
    by_cases c5 : t542 = true
    · subst c5
      have H1 : (verditerlaw08_secretRenews.j0 k l0 l1 true) = some r := by rw [if_pos rfl] at H; exact H
      clear H
      have H := H1
      clear H1
      have H' := Aside0.mk H
      clear H
      go_wp2_with (first | ((with_reducible refine gate_callee (f := 39) rfl ?_); refine goesL_ (some 15) rfl rfl Try.func39 (by kernel_rfl) rfl #[.slice A0 l0.length c0] rfl (by (try simp only [List.map_toArray, List.map_cons, List.map_nil]); first | done | rfl | (simp only [List.length_drop, List.length_take]; rfl)) ?_; (with_reducible refine (verditerlaw08_Long.calls _ _ l0 true _ ?side1 ?side2 A4.out).mono ?_); (case side1 => repeat (first | exact (Kd.C_below HR0.out HB.out) | (with_reducible refine Kd.C_alloc ?_ _) | (with_reducible refine Kd.C_drewN ?_ _) | (with_reducible refine Kd.C_drew ?_))); (case side2 => exact HC0.out); rintro e w' ⟨rfl, ⟨nd, rfl⟩⟩; refine ⟨_, rfl, ?_⟩))
      go_meet
      case rel => exact ⟨_, (true), (by first | rfl | (simp; done) | (simp [*]; done)), H', ⟨by first | omega | exact Nat.le_refl _⟩, ⟨by repeat (first | (with_reducible first | exact HB.out | apply below_alloc | apply pw_below_drewN | apply below_drew1) | exact HB.out)⟩⟩
    · replace c5 := Bool.eq_false_iff.mpr c5
      subst c5
      have H1 : (verditerlaw08_secretRenews.j0 k l0 l1 (decide ((l1.length : Int) > 100))) = some r := by rw [if_neg (show ¬ (false = true) by decide)] at H; exact H
      clear H
      have H := H1
      clear H1
      have H' := Aside0.mk H
      clear H
      go_wp2_with (first | ((with_reducible refine gate_callee (f := 39) rfl ?_); refine goesL_ (some 15) rfl rfl Try.func39 (by kernel_rfl) rfl #[.slice A0 l0.length c0] rfl (by (try simp only [List.map_toArray, List.map_cons, List.map_nil]); first | done | rfl | (simp only [List.length_drop, List.length_take]; rfl)) ?_; (with_reducible refine (verditerlaw08_Long.calls _ _ l0 false _ ?side1 ?side2 A4.out).mono ?_); (case side1 => repeat (first | exact (Kd.C_below HR0.out HB.out) | (with_reducible refine Kd.C_alloc ?_ _) | (with_reducible refine Kd.C_drewN ?_ _) | (with_reducible refine Kd.C_drew ?_))); (case side2 => exact HC0.out); rintro e w' ⟨rfl, ⟨nd, rfl⟩⟩; refine ⟨_, rfl, ?_⟩))
      go_meet
      case rel => exact ⟨_, (decide ((l1.length : Int) > 100)), (by first | rfl | (simp; done) | (simp [*]; done)), H', ⟨by first | omega | exact Nat.le_refl _⟩, ⟨by repeat (first | (with_reducible first | exact HB.out | apply below_alloc | apply pw_below_drewN | apply below_drew1) | exact HB.out)⟩⟩
  case rest =>
    clear HC3
    try clear c1
    try clear p2
    try clear c3
    try clear c5
    obtain ⟨kq, x20_2, rfl, HA, HJ2, HB⟩ := hcut
    cases kq with
    | zero => exact absurd HA.out (by simp [verditerlaw08_secretRenews.j0])
    | succ kj2 =>
      have H := HA.out
      clear HA
      simp only [verditerlaw08_secretRenews.j0] at H
      by_cases c6 : x20_2 = true
      · subst c6
        have H1 : ((verditerlaw08_known.f kj2).bind fun t543 => (some t543)) = some r := by rw [if_pos rfl] at H; exact H
        clear H
        have H := H1
        clear H1
        replace H := Option.bind_eq_some_iff.mp H
        obtain ⟨t543, A70, H⟩ := H
        replace H : (some t543) = some r := H
        have A7 := Aside0.mk A70
        clear A70
        obtain rfl := Option.some.inj H
        go_wp2_with (first | ((with_reducible refine gate_callee (f := 40) rfl ?_); refine goesL_ (some 21) rfl rfl Try.func40 (by kernel_rfl) rfl #[] rfl (by (try simp only [List.map_toArray, List.map_cons, List.map_nil]); first | done | rfl | (simp only [List.length_drop, List.length_take]; rfl)) ?_; (with_reducible refine (verditerlaw08_known.calls kj2  t543 _ A7.out).mono ?_); rintro e w8 ⟨rfl, hb⟩; refine ⟨_, rfl, ?_⟩; have n0_ := Aside0.mk (below_step (by repeat (first | (with_reducible first | exact HB.out | apply below_alloc | apply pw_below_drewN | apply below_drew1) | exact HB.out)) hb); clear HB; have HB := n0_; clear n0_; (try clear hb); (try clear hb2); (try clear hk); (try clear hi)))
        go_ret
        exact ⟨by first | rfl | (simp [errW_none, errW_some] <;> rfl) | (simp [*, errW_none, errW_some] <;> rfl), by repeat (first | (with_reducible first | exact HB.out | apply below_alloc | apply pw_below_drewN | apply below_drew1) | exact HB.out)⟩
      · replace c6 := Bool.eq_false_iff.mpr c6
        subst c6
        have H1 : ((some (([] : List (S43)) : List (S43))).bind fun y544 => (if y544.length + l0.length < 8796093022208 then ((some (y544 ++ l0 : List (S43))).bind fun y547 => ((verditerref08_Renew.f kj2 l0 l1).bind fun bt550 => ((secret_Renew.f y547 l1).bind fun bt554 => (if bt554.2 = bt550.2 then ((verditerref08_Same.f kj2 bt554.1 bt550.1).bind fun t558 => (if t558 = true then ((verditerref08_Same.f kj2 y547 l0).bind fun t559 => (verditerlaw08_secretRenews.j1 kj2 l0 l1 bt554.1 bt554.2 (!t559))) else (verditerlaw08_secretRenews.j1 kj2 l0 l1 bt554.1 bt554.2 true))) else (verditerlaw08_secretRenews.j1 kj2 l0 l1 bt554.1 bt554.2 true))))) else (none))) = some r := by rw [if_neg (show ¬ (false = true) by decide)] at H; exact H
        clear H
        have H := H1
        clear H1
        obtain ⟨y544, hy544⟩ : ∃ y_ : List (S43), y_ = (([] : List (S43))) := ⟨_, rfl⟩
        replace H : (if y544.length + l0.length < 8796093022208 then ((some (y544 ++ l0 : List (S43))).bind fun y547 => ((verditerref08_Renew.f kj2 l0 l1).bind fun bt550 => ((secret_Renew.f y547 l1).bind fun bt554 => (if bt554.2 = bt550.2 then ((verditerref08_Same.f kj2 bt554.1 bt550.1).bind fun t558 => (if t558 = true then ((verditerref08_Same.f kj2 y547 l0).bind fun t559 => (verditerlaw08_secretRenews.j1 kj2 l0 l1 bt554.1 bt554.2 (!t559))) else (verditerlaw08_secretRenews.j1 kj2 l0 l1 bt554.1 bt554.2 true))) else (verditerlaw08_secretRenews.j1 kj2 l0 l1 bt554.1 bt554.2 true))))) else (none)) = some r := by first | (rw [hy544]; with_reducible exact H) | (have H2_ := (Option.bind_some _ _).symm.trans H; rw [hy544]; with_reducible exact H2_) | (have H2_ := (Option.bind_some _ _).symm.trans H; with_reducible exact H2_) | with_reducible exact H | (rw [hy544]; exact H) | exact H
        have Ny544 := Aside0.mk hy544
        clear hy544
        by_cases c9 : y544.length + l0.length < 8796093022208
        · rw [if_pos c9] at H
          have LMc9 := Aside0.mk c9
          clear c9
          obtain ⟨y547, hy547⟩ : ∃ y_ : List (S43), y_ = (y544 ++ l0) := ⟨_, rfl⟩
          replace H : ((verditerref08_Renew.f kj2 l0 l1).bind fun bt550 => ((secret_Renew.f y547 l1).bind fun bt554 => (if bt554.2 = bt550.2 then ((verditerref08_Same.f kj2 bt554.1 bt550.1).bind fun t558 => (if t558 = true then ((verditerref08_Same.f kj2 y547 l0).bind fun t559 => (verditerlaw08_secretRenews.j1 kj2 l0 l1 bt554.1 bt554.2 (!t559))) else (verditerlaw08_secretRenews.j1 kj2 l0 l1 bt554.1 bt554.2 true))) else (verditerlaw08_secretRenews.j1 kj2 l0 l1 bt554.1 bt554.2 true)))) = some r := by first | (rw [hy547]; with_reducible exact H) | (have H2_ := (Option.bind_some _ _).symm.trans H; rw [hy547]; with_reducible exact H2_) | (have H2_ := (Option.bind_some _ _).symm.trans H; with_reducible exact H2_) | with_reducible exact H | (rw [hy547]; exact H) | exact H
          have Ny547 := Aside0.mk hy547
          clear hy547
          replace H := Option.bind_eq_some_iff.mp H
          obtain ⟨⟨t550, t551⟩, A100, H⟩ := H
          replace H : ((secret_Renew.f y547 l1).bind fun bt554 => (if bt554.2 = t551 then ((verditerref08_Same.f kj2 bt554.1 t550).bind fun t558 => (if t558 = true then ((verditerref08_Same.f kj2 y547 l0).bind fun t559 => (verditerlaw08_secretRenews.j1 kj2 l0 l1 bt554.1 bt554.2 (!t559))) else (verditerlaw08_secretRenews.j1 kj2 l0 l1 bt554.1 bt554.2 true))) else (verditerlaw08_secretRenews.j1 kj2 l0 l1 bt554.1 bt554.2 true))) = some r := H
          have A10 := Aside0.mk A100
          clear A100
          replace H := Option.bind_eq_some_iff.mp H
          obtain ⟨⟨t554, t555⟩, A110, H⟩ := H
          replace H : (if t555 = t551 then ((verditerref08_Same.f kj2 t554 t550).bind fun t558 => (if t558 = true then ((verditerref08_Same.f kj2 y547 l0).bind fun t559 => (verditerlaw08_secretRenews.j1 kj2 l0 l1 t554 t555 (!t559))) else (verditerlaw08_secretRenews.j1 kj2 l0 l1 t554 t555 true))) else (verditerlaw08_secretRenews.j1 kj2 l0 l1 t554 t555 true)) = some r := H
          have A11 := Aside0.mk A110
          clear A110
          have HC12 := Aside0.mk H
          clear H
          go_upto_region 6 with (first | ((with_reducible refine gate_dst (N := 22) rfl ?_); (try (refine gate_guard (by rfl) ?_; dsimp only)); refine Kd.R_lit k43 _ 43 ?hg (N := 22) ?hd (xs := ([] : List (S43))) (inner := []) (ok := fun _ => True) (okp := fun _ => True) ?hr ?hp (fun _ hk => hk) trivial (Below.refl _ _) (Nat.le_refl _) (by simp) ?_; (case hd => rfl); (case hg => rfl); (case hr => first | (go_simp; done) | (go_simp; rfl)); (case hp => exact (Reps.none _ _)); intro v545 w13 ho14 hb hg_ hnew_; clear hg_ hnew_; (first | rw [← Ny544.out] at ho14 | (simp only [Int.reduceToNat] at ho14; rw [← Ny544.out] at ho14)); have n0_ := Aside0.mk (Kd.R_lower ho14 (below_size (by repeat (first | (with_reducible first | exact HB.out | apply below_alloc | apply pw_below_drewN | apply below_drew1) | exact HB.out)))); have n1_ := Aside0.mk (below_step (by repeat (first | (with_reducible first | exact HB.out | apply below_alloc | apply pw_below_drewN | apply below_drew1) | exact HB.out)) hb); clear HB; have HO546 := n0_; have HB := n1_; clear n0_ n1_; clear hb ho14) | ((with_reducible refine gate_builtin (b := .append) (xs := #[.tmp 22, .tmp 23]) rfl ?_); (try (refine gate_guard (by rfl) ?_; dsimp only)); at_builtin; refine Kd.R_append_rows k43 (w0 := w) w.heap.size rfl (.tmp 22) (.tmp 23) 22 43 (.agg #[(.int .i64 0), (.int .i64 0)]) 16 rfl Try.underlying22 info43 rfl (by decide) (by omega) v545 y544 l0 _ _ _ (fun _ => True) (fun _ => False) rfl rfl ?aO ?aR (fun _ _ h => h) (fun _ h => h.elim) ?aF ?aB ?aS ?aL ?_; (case aR => repeat (first | exact (Kd.C_below HR0.out HB.out) | (with_reducible refine Kd.C_alloc ?_ _) | (with_reducible refine Kd.C_drewN ?_ _) | (with_reducible refine Kd.C_drew ?_))); (case aB => exact (by repeat (first | (with_reducible first | exact HB.out | apply below_alloc | apply pw_below_drewN | apply below_drew1) | exact HB.out))); (case aF => exact (fun _ _ => trivial)); (case aO => exact (by (with_reducible repeat (first | apply Kd.R_alloc | apply Kd.R_drewN | apply Kd.R_drew)); exact HO546.out)); (case aS => exact (below_size (by repeat (first | (with_reducible first | exact HB.out | apply below_alloc | apply pw_below_drewN | apply below_drew1) | exact HB.out)))); (case aL => have := LMc9.out; omega); intro v548 w15 ho hb hg hat; rw [← Ny547.out] at ho; have n0_ := Aside0.mk (hb); have n1_ := Aside0.mk (ho); clear HB; clear HO546; have HB := n0_; have HO549 := n1_; clear n0_ n1_; clear ho hb hg hat) | ((with_reducible refine gate_callee (f := 69) rfl ?_); refine goesL_ (some 28) rfl rfl Try.func69 (by kernel_rfl) rfl #[.slice A0 l0.length c0, .slice A1 l1.length c1] rfl (by (try simp only [List.map_toArray, List.map_cons, List.map_nil]); first | done | rfl | (simp only [List.length_drop, List.length_take]; rfl)) ?_; (with_reducible refine (verditerref08_Renew.calls kj2 _ _ l0 _ _ l1 t550 t551 _ ?side1 ?side2 ?side3 ?side4 A10.out).mono ?_); (case side1 => repeat (first | exact (Kd.C_below HR0.out HB.out) | (with_reducible refine Kd.C_alloc ?_ _) | (with_reducible refine Kd.C_drewN ?_ _) | (with_reducible refine Kd.C_drew ?_))); (case side2 => exact HC0.out); (case side3 => repeat (first | exact (Kd.C_below HR1.out HB.out) | (with_reducible refine Kd.C_alloc ?_ _) | (with_reducible refine Kd.C_drewN ?_ _) | (with_reducible refine Kd.C_drew ?_))); (case side4 => exact HC1.out); rintro e w16 ⟨v552, rfl, ho0, hb⟩; refine ⟨_, rfl, ?_⟩; have n0_ := Aside0.mk (Kd.R_elder' (by (with_reducible repeat (first | apply Kd.R_alloc | apply Kd.R_drewN | apply Kd.R_drew)); exact HO549.out) (Kd.R_base ho0) hb); have n1_ := Aside0.mk (Kd.R_lower (Kd.R_new' ho0 (Kd.R_lt (by (with_reducible repeat (first | apply Kd.R_alloc | apply Kd.R_drewN | apply Kd.R_drew)); exact HO549.out))) (below_size (by repeat (first | (with_reducible first | exact HB.out | apply below_alloc | apply pw_below_drewN | apply below_drew1) | exact HB.out)))); have n2_ := Aside0.mk (below_step (by repeat (first | (with_reducible first | exact HB.out | apply below_alloc | apply pw_below_drewN | apply below_drew1) | exact HB.out)) hb); clear HO549; clear HB; have HO549 := n0_; have HO553 := n1_; have HB := n2_; clear n0_ n1_ n2_; (try clear hb); (try clear hb2); (try clear hk); (try clear hi); (try clear ho0); obtain ⟨Ao17, co17, eo17⟩ := Kd.R_slice HO549.out; subst eo17) | ((with_reducible refine gate_callee (f := 59) rfl ?_); refine goesL_ (some 34) rfl rfl Try.func59 (by kernel_rfl) rfl #[.slice Ao17 y547.length co17, .slice A1 l1.length c1] rfl (by (try simp only [List.map_toArray, List.map_cons, List.map_nil]); first | done | rfl | (simp only [List.length_drop, List.length_take]; rfl)) ?_; (with_reducible refine (secret_Renew.calls _ _ y547 _ _ l1 t554 t555 _ ?side1 ?side2 ?side3 ?side4 A11.out).mono ?_); (case side1 => repeat (first | exact (Kd.R_reads' HO549.out).2.2 | (with_reducible refine Kd.C_alloc ?_ _) | (with_reducible refine Kd.C_drewN ?_ _) | (with_reducible refine Kd.C_drew ?_))); (case side2 => exact (Kd.R_reads' HO549.out).2.1); (case side3 => repeat (first | exact (Kd.C_below HR1.out HB.out) | (with_reducible refine Kd.C_alloc ?_ _) | (with_reducible refine Kd.C_drewN ?_ _) | (with_reducible refine Kd.C_drew ?_))); (case side4 => exact HC1.out); rintro e w18 ⟨v556, rfl, ho0, hb⟩; refine ⟨_, rfl, ?_⟩; have n0_ := Aside0.mk (Kd.R_elder' (by (with_reducible repeat (first | apply Kd.R_alloc | apply Kd.R_drewN | apply Kd.R_drew)); exact HO549.out) (Kd.R_base ho0) hb); have n1_ := Aside0.mk (Kd.R_elder' (by (with_reducible repeat (first | apply Kd.R_alloc | apply Kd.R_drewN | apply Kd.R_drew)); exact HO553.out) (Kd.R_base ho0) hb); have n2_ := Aside0.mk (Kd.R_lower (Kd.R_new' (Kd.R_new' ho0 (Kd.R_lt (by (with_reducible repeat (first | apply Kd.R_alloc | apply Kd.R_drewN | apply Kd.R_drew)); exact HO549.out))) (Kd.R_lt (by (with_reducible repeat (first | apply Kd.R_alloc | apply Kd.R_drewN | apply Kd.R_drew)); exact HO553.out))) (below_size (by repeat (first | (with_reducible first | exact HB.out | apply below_alloc | apply pw_below_drewN | apply below_drew1) | exact HB.out)))); have n3_ := Aside0.mk (below_step (by repeat (first | (with_reducible first | exact HB.out | apply below_alloc | apply pw_below_drewN | apply below_drew1) | exact HB.out)) hb); clear HO549; clear HO553; clear HB; have HO549 := n0_; have HO553 := n1_; have HO557 := n2_; have HB := n3_; clear n0_ n1_ n2_ n3_; (try clear hb); (try clear hb2); (try clear hk); (try clear hi); (try clear ho0)))
          (try simp only [Act.put, List.setIfInBounds_toArray, List.set_cons_zero, List.set_cons_succ])
          go_cut [51] (fun v51 wc => ∃ (kq : Nat) (x51_11 : Bool), v51 = .bool x51_11 ∧ Aside0 (verditerlaw08_secretRenews.j1 kq l0 l1 t554 t555 x51_11 = some r) ∧ Aside0 (kq ≤ kj2) ∧ Aside0 (Kd.R k43 43 wc w.heap.size (fun _ => True) v556 t554) ∧ Aside0 (Below w.heap.size w wc))
          case first =>
            have H := HC12.out
            clear HC12
            by_cases c19 : t555 = t551
            · rw [if_pos c19] at H
              have c19b0 : (t555 == t551) = true := beq_iff_eq.mpr c19
              have c19b1 : (t555 != t551) = false := bne_eq_false_iff_eq.mpr c19
              clear c19
              (first | rw [c19b0] | (simp only [i64_w, i32_w]; rw [c19b0]) | skip)
              replace H := Option.bind_eq_some_iff.mp H
              obtain ⟨t558, A200, H⟩ := H
              replace H : (if t558 = true then ((verditerref08_Same.f kj2 y547 l0).bind fun t559 => (verditerlaw08_secretRenews.j1 kj2 l0 l1 t554 t555 (!t559))) else (verditerlaw08_secretRenews.j1 kj2 l0 l1 t554 t555 true)) = some r := H
              have A20 := Aside0.mk A200
              clear A200
              by_cases c21 : t558 = true
              · subst c21
                have H1 : ((verditerref08_Same.f kj2 y547 l0).bind fun t559 => (verditerlaw08_secretRenews.j1 kj2 l0 l1 t554 t555 (!t559))) = some r := by rw [if_pos rfl] at H; exact H
                clear H
                have H := H1
                clear H1
                replace H := Option.bind_eq_some_iff.mp H
                obtain ⟨t559, A220, H⟩ := H
                replace H : (verditerlaw08_secretRenews.j1 kj2 l0 l1 t554 t555 (!t559)) = some r := H
                have A22 := Aside0.mk A220
                clear A220
                have H' := Aside0.mk H
                clear H
                obtain ⟨Ao23, co23, eo23⟩ := Kd.R_slice HO557.out
                subst eo23
                obtain ⟨Ao24, co24, eo24⟩ := Kd.R_slice HO553.out
                subst eo24
                go_wp2_with (first | (go_at_call 52; (with_reducible refine (verditerref08_Same.calls kj2 _ _ t554 _ _ t550 true _ ?side1 ?side2 ?side3 ?side4 A20.out).mono ?_); (case side1 => repeat (first | exact (Kd.R_reads' HO557.out).2.2 | (with_reducible refine Kd.C_alloc ?_ _) | (with_reducible refine Kd.C_drewN ?_ _) | (with_reducible refine Kd.C_drew ?_))); (case side2 => exact (Kd.R_reads' HO557.out).2.1); (case side3 => repeat (first | exact (Kd.R_reads' HO553.out).2.2 | (with_reducible refine Kd.C_alloc ?_ _) | (with_reducible refine Kd.C_drewN ?_ _) | (with_reducible refine Kd.C_drew ?_))); (case side4 => exact (Kd.R_reads' HO553.out).2.1); rintro e w' ⟨rfl, ⟨nd, rfl⟩⟩) | (go_at_call 52; (with_reducible refine (verditerref08_Same.calls kj2 _ _ y547 _ _ l0 t559 _ ?side1 ?side2 ?side3 ?side4 A22.out).mono ?_); (case side1 => repeat (first | exact (Kd.R_reads' HO549.out).2.2 | (with_reducible refine Kd.C_alloc ?_ _) | (with_reducible refine Kd.C_drewN ?_ _) | (with_reducible refine Kd.C_drew ?_))); (case side2 => exact (Kd.R_reads' HO549.out).2.1); (case side3 => repeat (first | exact (Kd.C_below HR0.out (by repeat (first | (with_reducible first | exact HB.out | apply below_alloc | apply pw_below_drewN | apply below_drew1) | exact HB.out))) | (with_reducible refine Kd.C_alloc ?_ _) | (with_reducible refine Kd.C_drewN ?_ _) | (with_reducible refine Kd.C_drew ?_))); (case side4 => exact HC0.out); rintro e w' ⟨rfl, ⟨nd, rfl⟩⟩))
                go_meet
                case rel => exact ⟨_, (!t559), (by first | rfl | (simp; done) | (simp [*]; done)), H', ⟨by have := HJ2.out; first | omega | exact Nat.le_refl _⟩, ⟨by (with_reducible repeat (first | apply Kd.R_alloc | apply Kd.R_drewN | apply Kd.R_drew)); exact Kd.R_mono HO557.out (fun _ hk => trivial)⟩, ⟨by repeat (first | (with_reducible first | exact HB.out | apply below_alloc | apply pw_below_drewN | apply below_drew1) | exact HB.out)⟩⟩
              · replace c21 := Bool.eq_false_iff.mpr c21
                subst c21
                have H1 : (verditerlaw08_secretRenews.j1 kj2 l0 l1 t554 t555 true) = some r := by rw [if_neg (show ¬ (false = true) by decide)] at H; exact H
                clear H
                have H := H1
                clear H1
                have H' := Aside0.mk H
                clear H
                obtain ⟨Ao25, co25, eo25⟩ := Kd.R_slice HO557.out
                subst eo25
                obtain ⟨Ao26, co26, eo26⟩ := Kd.R_slice HO553.out
                subst eo26
                go_wp2_with (first | (go_at_call 52; (with_reducible refine (verditerref08_Same.calls kj2 _ _ t554 _ _ t550 false _ ?side1 ?side2 ?side3 ?side4 A20.out).mono ?_); (case side1 => repeat (first | exact (Kd.R_reads' HO557.out).2.2 | (with_reducible refine Kd.C_alloc ?_ _) | (with_reducible refine Kd.C_drewN ?_ _) | (with_reducible refine Kd.C_drew ?_))); (case side2 => exact (Kd.R_reads' HO557.out).2.1); (case side3 => repeat (first | exact (Kd.R_reads' HO553.out).2.2 | (with_reducible refine Kd.C_alloc ?_ _) | (with_reducible refine Kd.C_drewN ?_ _) | (with_reducible refine Kd.C_drew ?_))); (case side4 => exact (Kd.R_reads' HO553.out).2.1); rintro e w' ⟨rfl, ⟨nd, rfl⟩⟩))
                go_meet
                case rel => exact ⟨_, (true), (by first | rfl | (simp; done) | (simp [*]; done)), H', ⟨by have := HJ2.out; first | omega | exact Nat.le_refl _⟩, ⟨by (with_reducible repeat (first | apply Kd.R_alloc | apply Kd.R_drewN | apply Kd.R_drew)); exact Kd.R_mono HO557.out (fun _ hk => trivial)⟩, ⟨by repeat (first | (with_reducible first | exact HB.out | apply below_alloc | apply pw_below_drewN | apply below_drew1) | exact HB.out)⟩⟩
            · rw [if_neg c19] at H
              have c19b0 : (t555 == t551) = false := beq_eq_false_iff_ne.mpr c19
              have c19b1 : (t555 != t551) = true := bne_iff_ne.mpr c19
              (first | rw [c19b0] | (simp only [i64_w, i32_w]; rw [c19b0]) | skip)
              have H' := Aside0.mk H
              clear H
              go_wp2
              go_meet
              case rel => exact ⟨_, (true), (by first | rfl | (simp; done) | (simp [*]; done)), H', ⟨by have := HJ2.out; first | omega | exact Nat.le_refl _⟩, ⟨by (with_reducible repeat (first | apply Kd.R_alloc | apply Kd.R_drewN | apply Kd.R_drew)); exact Kd.R_mono HO557.out (fun _ hk => trivial)⟩, ⟨by repeat (first | (with_reducible first | exact HB.out | apply below_alloc | apply pw_below_drewN | apply below_drew1) | exact HB.out)⟩⟩
          case rest =>
            clear HC12
            try clear c1
            try clear c2
            try clear p2
            try clear c3
            try clear c4
            try clear c5
            try clear c6
            try clear c9
            try clear c19
            try clear c19b0
            try clear c19b1
            try clear c21
            try clear p2
            obtain ⟨kq, x51_11, rfl, HA, HJ11, HO_8, HB⟩ := hcut
            cases kq with
            | zero => exact absurd HA.out (by simp [verditerlaw08_secretRenews.j1])
            | succ kj11 =>
              have H := HA.out
              clear HA
              simp only [verditerlaw08_secretRenews.j1] at H
              by_cases c27 : x51_11 = true
              · subst c27
                have H1 : (some false) = some r := by rw [if_pos rfl] at H; exact H
                clear H
                have H := H1
                clear H1
                obtain rfl := Option.some.inj H
                go_wp2
                go_ret
                exact ⟨by first | rfl | (simp [errW_none, errW_some] <;> rfl) | (simp [*, errW_none, errW_some] <;> rfl), by repeat (first | (with_reducible first | exact HB.out | apply below_alloc | apply pw_below_drewN | apply below_drew1) | exact HB.out)⟩
              · replace c27 := Bool.eq_false_iff.mpr c27
                subst c27
                have H1 : ((secret_Secret.f l0).bind fun bt560 => ((secret_Secret.f t554).bind fun bt562 => (if t555 = 0 then (if bt560.2 = 0 then (verditerlaw08_secretRenews.j2 kj11 bt560.1 bt562.1 bt562.2 (decide ((l1.length : Int) > (l0.length : Int)))) else (verditerlaw08_secretRenews.j2 kj11 bt560.1 bt562.1 bt562.2 true)) else (verditerlaw08_secretRenews.j2 kj11 bt560.1 bt562.1 bt562.2 true)))) = some r := by rw [if_neg (show ¬ (false = true) by decide)] at H; exact H
                clear H
                have H := H1
                clear H1
                replace H := Option.bind_eq_some_iff.mp H
                obtain ⟨⟨t560, t561⟩, A280, H⟩ := H
                replace H : ((secret_Secret.f t554).bind fun bt562 => (if t555 = 0 then (if t561 = 0 then (verditerlaw08_secretRenews.j2 kj11 t560 bt562.1 bt562.2 (decide ((l1.length : Int) > (l0.length : Int)))) else (verditerlaw08_secretRenews.j2 kj11 t560 bt562.1 bt562.2 true)) else (verditerlaw08_secretRenews.j2 kj11 t560 bt562.1 bt562.2 true))) = some r := H
                have A28 := Aside0.mk A280
                clear A280
                replace H := Option.bind_eq_some_iff.mp H
                obtain ⟨⟨t562, t563⟩, A290, H⟩ := H
                replace H : (if t555 = 0 then (if t561 = 0 then (verditerlaw08_secretRenews.j2 kj11 t560 t562 t563 (decide ((l1.length : Int) > (l0.length : Int)))) else (verditerlaw08_secretRenews.j2 kj11 t560 t562 t563 true)) else (verditerlaw08_secretRenews.j2 kj11 t560 t562 t563 true)) = some r := H
                have A29 := Aside0.mk A290
                clear A290
                have HC30 := Aside0.mk H
                clear H
                go_upto_region 10 with (first | ((with_reducible refine gate_callee (f := 58) rfl ?_); refine goesL_ (some 54) rfl rfl Try.func58 (by kernel_rfl) rfl #[.slice A0 l0.length c0] rfl (by (try simp only [List.map_toArray, List.map_cons, List.map_nil]); first | done | rfl | (simp only [List.length_drop, List.length_take]; rfl)) ?_; (with_reducible refine (secret_Secret.calls _ _ l0 t560 t561 _ ?side1 ?side2 A28.out).mono ?_); (case side1 => repeat (first | exact (Kd.C_below HR0.out HB.out) | (with_reducible refine Kd.C_alloc ?_ _) | (with_reducible refine Kd.C_drewN ?_ _) | (with_reducible refine Kd.C_drew ?_))); (case side2 => exact HC0.out); rintro e w31 ⟨rfl, hb⟩; refine ⟨_, rfl, ?_⟩; have n0_ := Aside0.mk (Kd.R_below (by (with_reducible repeat (first | apply Kd.R_alloc | apply Kd.R_drewN | apply Kd.R_drew)); exact HO_8.out) hb); have n1_ := Aside0.mk (below_step (by repeat (first | (with_reducible first | exact HB.out | apply below_alloc | apply pw_below_drewN | apply below_drew1) | exact HB.out)) hb); clear HO_8; clear HB; have HO_8 := n0_; have HB := n1_; clear n0_ n1_; (try clear hb); (try clear hb2); (try clear hk); (try clear hi); obtain ⟨Ao32, co32, eo32⟩ := Kd.R_slice HO_8.out; subst eo32) | ((with_reducible refine gate_callee (f := 58) rfl ?_); refine goesL_ (some 59) rfl rfl Try.func58 (by kernel_rfl) rfl #[.slice Ao32 t554.length co32] rfl (by (try simp only [List.map_toArray, List.map_cons, List.map_nil]); first | done | rfl | (simp only [List.length_drop, List.length_take]; rfl)) ?_; (with_reducible refine (secret_Secret.calls _ _ t554 t562 t563 _ ?side1 ?side2 A29.out).mono ?_); (case side1 => repeat (first | exact (Kd.R_reads' HO_8.out).2.2 | (with_reducible refine Kd.C_alloc ?_ _) | (with_reducible refine Kd.C_drewN ?_ _) | (with_reducible refine Kd.C_drew ?_))); (case side2 => exact (Kd.R_reads' HO_8.out).2.1); rintro e w33 ⟨rfl, hb⟩; refine ⟨_, rfl, ?_⟩; have n0_ := Aside0.mk (Kd.R_below (by (with_reducible repeat (first | apply Kd.R_alloc | apply Kd.R_drewN | apply Kd.R_drew)); exact HO_8.out) hb); have n1_ := Aside0.mk (below_step (by repeat (first | (with_reducible first | exact HB.out | apply below_alloc | apply pw_below_drewN | apply below_drew1) | exact HB.out)) hb); clear HO_8; clear HB; have HO_8 := n0_; have HB := n1_; clear n0_ n1_; (try clear hb); (try clear hb2); (try clear hk); (try clear hi)))
                (try simp only [Act.put, List.setIfInBounds_toArray, List.set_cons_zero, List.set_cons_succ])
                go_cut [74] (fun v74 wc => ∃ (kq : Nat) (x74_29 : Bool), v74 = .bool x74_29 ∧ Aside0 (verditerlaw08_secretRenews.j2 kq t560 t562 t563 x74_29 = some r) ∧ Aside0 (kq ≤ kj11) ∧ Aside0 (Below w.heap.size w wc))
                case first =>
                  have H := HC30.out
                  clear HC30
                  by_cases c34 : t555 = 0
                  · rw [if_pos c34] at H
                    have c34b0 : (t555 == 0) = true := beq_iff_eq.mpr c34
                    have c34b1 : (t555 != 0) = false := bne_eq_false_iff_eq.mpr c34
                    clear c34
                    (first | rw [c34b0] | (simp only [i64_w, i32_w]; rw [c34b0]) | skip)
                    by_cases c35 : t561 = 0
                    · rw [if_pos c35] at H
                      have c35b0 : (t561 == 0) = true := beq_iff_eq.mpr c35
                      have c35b1 : (t561 != 0) = false := bne_eq_false_iff_eq.mpr c35
                      clear c35
                      have H' := Aside0.mk H
                      clear H
                      go_wp2
                      go_meet
                      case rel => exact ⟨_, (decide ((l1.length : Int) > (l0.length : Int))), (by first | rfl | (simp; done) | (simp [*]; done)), H', ⟨by have := HJ2.out; have := HJ11.out; first | omega | exact Nat.le_refl _⟩, ⟨by repeat (first | (with_reducible first | exact HB.out | apply below_alloc | apply pw_below_drewN | apply below_drew1) | exact HB.out)⟩⟩
                    · rw [if_neg c35] at H
                      have c35b0 : (t561 == 0) = false := beq_eq_false_iff_ne.mpr c35
                      have c35b1 : (t561 != 0) = true := bne_iff_ne.mpr c35
                      have H' := Aside0.mk H
                      clear H
                      go_wp2
                      go_meet
                      case rel => exact ⟨_, (true), (by first | rfl | (simp; done) | (simp [*]; done)), H', ⟨by have := HJ2.out; have := HJ11.out; first | omega | exact Nat.le_refl _⟩, ⟨by repeat (first | (with_reducible first | exact HB.out | apply below_alloc | apply pw_below_drewN | apply below_drew1) | exact HB.out)⟩⟩
                  · rw [if_neg c34] at H
                    have c34b0 : (t555 == 0) = false := beq_eq_false_iff_ne.mpr c34
                    have c34b1 : (t555 != 0) = true := bne_iff_ne.mpr c34
                    (first | rw [c34b0] | (simp only [i64_w, i32_w]; rw [c34b0]) | skip)
                    have H' := Aside0.mk H
                    clear H
                    go_wp2
                    go_meet
                    case rel => exact ⟨_, (true), (by first | rfl | (simp; done) | (simp [*]; done)), H', ⟨by have := HJ2.out; have := HJ11.out; first | omega | exact Nat.le_refl _⟩, ⟨by repeat (first | (with_reducible first | exact HB.out | apply below_alloc | apply pw_below_drewN | apply below_drew1) | exact HB.out)⟩⟩
                case rest =>
                  clear HC30
                  try clear c1
                  try clear c2
                  try clear p2
                  try clear c3
                  try clear c4
                  try clear c5
                  try clear c6
                  try clear c9
                  try clear c19
                  try clear c19b0
                  try clear c19b1
                  try clear c21
                  try clear c27
                  try clear c34
                  try clear c34b0
                  try clear c34b1
                  try clear c35
                  try clear c35b0
                  try clear c35b1
                  try clear p2
                  obtain ⟨kq, x74_29, rfl, HA, HJ29, HB⟩ := hcut
                  cases kq with
                  | zero => exact absurd HA.out (by simp [verditerlaw08_secretRenews.j2])
                  | succ kj29 =>
                    have H := HA.out
                    clear HA
                    simp only [verditerlaw08_secretRenews.j2] at H
                    by_cases c36 : x74_29 = true
                    · subst c36
                      have H1 : ((verditerlaw08_known.f kj29).bind fun t564 => (some t564)) = some r := by rw [if_pos rfl] at H; exact H
                      clear H
                      have H := H1
                      clear H1
                      replace H := Option.bind_eq_some_iff.mp H
                      obtain ⟨t564, A370, H⟩ := H
                      replace H : (some t564) = some r := H
                      have A37 := Aside0.mk A370
                      clear A370
                      obtain rfl := Option.some.inj H
                      go_wp2_with (first | ((with_reducible refine gate_callee (f := 40) rfl ?_); refine goesL_ (some 75) rfl rfl Try.func40 (by kernel_rfl) rfl #[] rfl (by (try simp only [List.map_toArray, List.map_cons, List.map_nil]); first | done | rfl | (simp only [List.length_drop, List.length_take]; rfl)) ?_; (with_reducible refine (verditerlaw08_known.calls kj29  t564 _ A37.out).mono ?_); rintro e w38 ⟨rfl, hb⟩; refine ⟨_, rfl, ?_⟩; have n0_ := Aside0.mk (below_step (by repeat (first | (with_reducible first | exact HB.out | apply below_alloc | apply pw_below_drewN | apply below_drew1) | exact HB.out)) hb); clear HB; have HB := n0_; clear n0_; (try clear hb); (try clear hb2); (try clear hk); (try clear hi)))
                      go_ret
                      exact ⟨by first | rfl | (simp [errW_none, errW_some] <;> rfl) | (simp [*, errW_none, errW_some] <;> rfl), by repeat (first | (with_reducible first | exact HB.out | apply below_alloc | apply pw_below_drewN | apply below_drew1) | exact HB.out)⟩
                    · replace c36 := Bool.eq_false_iff.mpr c36
                      subst c36
                      have H1 : (if t563 = 0 then (if t560 = t562 then ((verditerlaw08_known.f kj29).bind fun t565 => (some t565)) else (some false)) else (some false)) = some r := by rw [if_neg (show ¬ (false = true) by decide)] at H; exact H
                      clear H
                      have H := H1
                      clear H1
                      by_cases c39 : t563 = 0
                      · rw [if_pos c39] at H
                        have c39b0 : (t563 == 0) = true := beq_iff_eq.mpr c39
                        have c39b1 : (t563 != 0) = false := bne_eq_false_iff_eq.mpr c39
                        clear c39
                        by_cases c40 : t560 = t562
                        · rw [if_pos c40] at H
                          have c40b0 : (t560 == t562) = true := beq_iff_eq.mpr c40
                          have c40b1 : (t560 != t562) = false := bne_eq_false_iff_eq.mpr c40
                          clear c40
                          replace H := Option.bind_eq_some_iff.mp H
                          obtain ⟨t565, A410, H⟩ := H
                          replace H : (some t565) = some r := H
                          have A41 := Aside0.mk A410
                          clear A410
                          obtain rfl := Option.some.inj H
                          go_wp2_with (first | (go_at_call 40; (with_reducible refine (verditerlaw08_known.calls kj29  t565 _ A41.out).mono ?_); rintro e w42 ⟨rfl, hb⟩; have n0_ := Aside0.mk (below_step (by repeat (first | (with_reducible first | exact HB.out | apply below_alloc | apply pw_below_drewN | apply below_drew1) | exact HB.out)) hb); clear HB; have HB := n0_; clear n0_; (try clear hb); (try clear hb2); (try clear hk); (try clear hi)))
                          go_ret
                          exact ⟨by first | rfl | (simp [errW_none, errW_some] <;> rfl) | (simp [*, errW_none, errW_some] <;> rfl), by repeat (first | (with_reducible first | exact HB.out | apply below_alloc | apply pw_below_drewN | apply below_drew1) | exact HB.out)⟩
                        · rw [if_neg c40] at H
                          have c40b0 : (t560 == t562) = false := beq_eq_false_iff_ne.mpr c40
                          have c40b1 : (t560 != t562) = true := bne_iff_ne.mpr c40
                          obtain rfl := Option.some.inj H
                          go_wp2
                          go_ret
                          exact ⟨by first | rfl | (simp [errW_none, errW_some] <;> rfl) | (simp [*, errW_none, errW_some] <;> rfl), by repeat (first | (with_reducible first | exact HB.out | apply below_alloc | apply pw_below_drewN | apply below_drew1) | exact HB.out)⟩
                      · rw [if_neg c39] at H
                        have c39b0 : (t563 == 0) = false := beq_eq_false_iff_ne.mpr c39
                        have c39b1 : (t563 != 0) = true := bne_iff_ne.mpr c39
                        obtain rfl := Option.some.inj H
                        go_wp2
                        go_ret
                        exact ⟨by first | rfl | (simp [errW_none, errW_some] <;> rfl) | (simp [*, errW_none, errW_some] <;> rfl), by repeat (first | (with_reducible first | exact HB.out | apply below_alloc | apply pw_below_drewN | apply below_drew1) | exact HB.out)⟩
        · rw [if_neg c9] at H
          exact absurd H (by simp)

end Go.Proofs.Ythlbjdiicmojfaa.P

/-! Part Out14. -/
namespace Go.Proofs.Ythlbjdiicmojfaa.P
open Go.RowKit Go.Proofs.YthlbjdiicmojfaaW.PrintWords Go.Proofs.YthlbjdiicmojfaaW.PrintLast Go.Proofs.YthlbjdiicmojfaaW.PrintMore
set_option linter.unusedVariables false

set_option maxHeartbeats 2000000 in
set_option maxRecDepth 100000 in
theorem out14 (k : Nat) (A0 : Option Addr) (n0 : Nat) (zs0 : List S43) (A1 : Option Addr) (n1 : Nat) (zs1 : List Int) (w : World) (hr0 : Kd.C k43 w A0 zs0.length zs0) (hn0 : n0 ≤ zs0.length) (hl0 : zs0.length * 16 ≤ 140737488351232) (hr1 : Kd.C (Kd.int .i64) w A1 zs1.length zs1) (hn1 : n1 ≤ zs1.length) (hl1 : zs1.length * 8 ≤ 140737488351232)
    (h : verditerlaw08_secretRenews.f k (zs0.take n0) (zs1.take n1) = some true) :
    Calls Try.prog 14 #[.slice A0 n0 zs0.length, .slice A1 n1 zs1.length] w fun e w' => e = .returned (.bool true) ∧ Below w.heap.size w w' := by
  have hu43 := Try.underlying43
  have HR0 := Aside0.mk hr0
  have hnl0 : (zs0.take n0).length = n0 := by rw [List.length_take]; omega
  have HR1 := Aside0.mk hr1
  have hnl1 : (zs1.take n1).length = n1 := by rw [List.length_take]; omega
  have HI := Aside0.mk (fun (w1 : World) (hb : Below w.heap.size w w1) => verditerlaw08_secretRenews.calls k A0 zs0.length (zs0.take n0) A1 zs1.length (zs1.take n1) true w1 (Kd.C_take (Kd.C_below hr0 hb) hn0) (by omega) (Kd.C_take (Kd.C_below hr1 hb) hn1) (by omega) h)
  rw [hnl0, hnl1] at HI
  have HK0 := Aside0.mk (keepParts A0 n0 zs0 w hr0 hn0 hl0)
  have HN0 := Aside0.mk hn0
  have HK1 := Aside0.mk (fun (w1 : World) (hb : Below w.heap.size w w1) => keepInts A1 n1 zs1 w1 (Kd.C_below hr1 hb) hn1 hl1)
  have HN1 := Aside0.mk hn1
  have HB := Aside0.mk (Below.refl w.heap.size w)
  clear h hr0 hnl0 hn0 hl0 hr1 hnl1 hn1 hl1
  go_enter Try.func14, Try.ntmps14
  go_wp2_with fail
  with_reducible refine HK0.out.mono ?_
  rintro e w1 ⟨v, rfl, hv, hb⟩
  obtain ⟨B0, c0, rfl, hcc0, hc⟩ := Kd.R_reads hv
  have HC0 := Aside0.mk hc
  clear HB; have HB := Aside0.mk hb
  clear hb hc hv
  go_wp2_with fail
  with_reducible refine (HK1.out w1 HB.out).mono ?_
  rintro e w2 ⟨v, rfl, hv, hb⟩
  obtain ⟨B1, c1, rfl, hcc1, hc⟩ := Kd.R_reads hv
  have hcx := Kd.C_below HC0.out hb; clear HC0; have HC0 := Aside0.mk hcx; clear hcx
  have HC1 := Aside0.mk hc
  have hbx := below_step HB.out hb; clear HB; have HB := Aside0.mk hbx; clear hbx
  clear hb hc hv
  go_wp2_with fail
  with_reducible refine (HI.out w2 HB.out).mono ?_
  rintro e wi ⟨rfl, hb⟩
  have hcx := Kd.C_below HC0.out hb; clear HC0; have HC0 := Aside0.mk hcx; clear hcx
  have hcx := Kd.C_below HC1.out hb; clear HC1; have HC1 := Aside0.mk hcx; clear hcx
  have hbx := below_step HB.out hb; clear HB; have HB := Aside0.mk hbx; have HBI := Aside0.mk hbx; clear hbx hb
  go_wp2_with fail
  with_reducible refine (keptParts B0 c0 A0 n0 zs0 _ HC0.out (Kd.C_below HR0.out HB.out) HN0.out).mono ?_
  rintro e wk0 ⟨rfl, ⟨m0, rfl⟩⟩
  have hcx := Kd.C_drewN HC1.out m0; clear HC1; have HC1 := Aside0.mk hcx; clear hcx
  have hbx := pw_below_drewN HB.out m0; clear HB; have HB := Aside0.mk hbx; clear hbx
  go_wp2_with fail
  with_reducible refine (keptInts B1 c1 A1 n1 zs1 _ HC1.out (Kd.C_below HR1.out HB.out) HN1.out).mono ?_
  rintro e wk1 ⟨rfl, ⟨m1, rfl⟩⟩
  have hbx := pw_below_drewN HB.out m1; clear HB; have HB := Aside0.mk hbx; clear hbx
  go_wp2_with fail
  go_ret
  exact ⟨rfl, pw_below_drewN HBI.out _⟩
end Go.Proofs.Ythlbjdiicmojfaa.P

/-! Part Open. -/
namespace Go.Proofs.Ythlbjdiicmojfaa.P
open Go.RowKit Go.Proofs.YthlbjdiicmojfaaW.PrintWords Go.Proofs.YthlbjdiicmojfaaW.PrintLast Go.Proofs.YthlbjdiicmojfaaW.PrintMore
open Go.ChangeShapes Go.WideShapes Go.Deep
set_option linter.unusedVariables false

theorem open_intlist {H : Type} {enc : TypeId × Value → H} {W : World} {base : Nat} {held : Bool} {a : Option Addr} {len cap : Nat} {d : DataW H} {ps : List MemPlace} {ts : List TypeId} {ds : List (DataW H)} {j : Nat}
    (hsz : (DataW.weightsEach Try.prog ts ds).all (· ≤ reachBytes) = true) (ht : ts[j]? = some 26) (hd : ds[j]? = some d)
    (h : DataW.Trod enc Try.prog W base (fun _ => true) held 26 (.slice a len cap) d ps) :
    ∃ zs : List Int, cap = zs.length ∧ len ≤ zs.length ∧ Kd.C (Kd.int .i64) W a zs.length zs ∧ zs.length * 8 ≤ 140737488351232 ∧ ∀ z ∈ zs, (Lit.int .i64 z).wf = true := by
  obtain ⟨fuel, hf⟩ := h
  rcases open_ints Try.underlying26 Try.underlying3 (by kernel_rfl) hf with ⟨hcs, _⟩ | ⟨x, l, c, zs, hcs, _, hl, hm, hz, hx, hcell, hwz⟩
  · simp [Value.cells] at hcs
    obtain ⟨rfl, rfl, rfl⟩ := hcs
    exact ⟨[], rfl, Nat.le_refl _, Kd.C_nil _ _, by simp, by simp⟩
  · simp [Value.cells] at hcs
    obtain ⟨rfl, rfl, rfl⟩ := hcs
    simp only [if_true] at hz
    obtain ⟨hx, _⟩ := Prod.mk.inj hx
    subst hx
    have z := sized_slice hsz ht hd Try.underlying26
    have h1 : (lits (H := H) .i64 (zs.take len)).length + (lits (H := H) .i64 (zs.drop len)).length = zs.length := by
      simp [lits]
      omega
    rw [h1, show Try.prog.bytesOf 3 = 8 by kernel_rfl] at z
    refine ⟨zs, hz.symm, by omega, Kd.C_of_reads (enc := Value.int .i64) (d := (0 : Int)) (h1 := fun _ => rfl) ⟨rfl, by rw [hz]; simp only [maxLen] at hm; omega, fun _ => ⟨x, rfl, fun j hj => ?_⟩⟩, z, hwz⟩
    exact hcell j hj

theorem open_partlist {H : Type} {enc : TypeId × Value → H} {W : World} {base : Nat} {held : Bool} {a : Option Addr} {len cap : Nat} {d : DataW H} {ps : List MemPlace} {ts : List TypeId} {ds : List (DataW H)} {j : Nat}
    (hsz : (DataW.weightsEach Try.prog ts ds).all (· ≤ reachBytes) = true) (ht : ts[j]? = some 22) (hd : ds[j]? = some d)
    (h : DataW.Trod enc Try.prog W base (fun _ => true) held 22 (.slice a len cap) d ps) :
    ∃ zs : List S43, cap = zs.length ∧ len ≤ zs.length ∧ Kd.C k43 W a zs.length zs ∧ zs.length * 16 ≤ 140737488351232 ∧ ∀ z ∈ zs, (Lit.int .i64 z.f0).wf = true ∧ (Lit.int .i64 z.f1).wf = true := by
  obtain ⟨fuel, hf⟩ := h
  rcases open_slice_pairs Try.underlying22 Try.underlying43 (by kernel_rfl) rfl rfl (by kernel_rfl) (by kernel_rfl) hf with ⟨hcs, _⟩ | ⟨x, l, c, m, n, V0, V1, D0, D1, P0, P1, hcs, _, hl, hm, hmm, hx, hi⟩
  · simp [Value.cells] at hcs
    obtain ⟨rfl, rfl, rfl⟩ := hcs
    exact ⟨[], rfl, Nat.le_refl _, Kd.C_nil _ _, by simp, by simp⟩
  · simp [Value.cells] at hcs
    obtain ⟨rfl, rfl, rfl⟩ := hcs
    simp only [if_true] at hmm
    subst hmm
    obtain ⟨hx, _⟩ := Prod.mk.inj hx
    subst hx
    have z := sized_slice hsz ht hd Try.underlying22
    rw [show Try.prog.bytesOf 43 = 16 by kernel_rfl] at z
    simp only [List.length_map, List.length_range] at z
    rw [show len + (m - len) = m by omega] at z
    have key : ∀ i, i < m → ∃ p : S43, (W.cell? (x.add (i * 2)) = some (.int .i64 p.f0) ∧ W.cell? (x.add (i * 2 + 1)) = some (.int .i64 p.f1)) ∧ (Lit.int .i64 p.f0).wf = true ∧ (Lit.int .i64 p.f1).wf = true := by
      intro i him
      obtain ⟨g0, g1, g2, g3⟩ := hi i him
      obtain ⟨a0, e0, _, w0⟩ := DataW.trod_int Try.underlying3 g2
      obtain ⟨a1, e1, _, w1⟩ := DataW.trod_int Try.underlying3 g3
      simp only [List.cons.injEq, and_true] at e0 e1
      exact ⟨⟨a0, a1⟩, ⟨by rw [g0, e0], by rw [g1, e1]⟩, w0, w1⟩
    haveI : Inhabited S43 := ⟨z43⟩
    obtain ⟨q, hq⟩ := choose_lt key
    have hlen : ((List.range m).map q).length = m := by simp
    refine ⟨(List.range m).map q, hlen.symm, by rw [hlen]; exact hl, ⟨rfl, by rw [hlen]; simp only [maxLen] at hm; omega, fun _ => ⟨x, rfl, fun i p hp => ?_⟩⟩, by rw [hlen]; exact z, ?_⟩
    · obtain ⟨him, hpe⟩ := List.getElem?_eq_some_iff.1 hp
      rw [hlen] at him
      simp only [List.getElem_map, List.getElem_range] at hpe
      subst hpe
      refine ⟨[.int .i64 (q i).f0, .int .i64 (q i).f1], rfl, k43_mk _ _, fun j u hu => ?_⟩
      match j, hu with
      | 0, hu => simp at hu; subst hu; exact (hq i him).1.1
      | 1, hu => simp at hu; subst hu; exact (hq i him).1.2
    · intro p hp
      obtain ⟨i, him, rfl⟩ := List.mem_map.1 hp
      exact (hq i (List.mem_range.1 him)).2
end Go.Proofs.Ythlbjdiicmojfaa.P

/-! Part Alg. -/
namespace Ply
theorem inv_ex : ∀ a : Fin 251, a ≠ 0 → ∃ b, a * b = 1 := by
  have h : ∀ a : Fin 251, a ≠ 0 → a * a^249 = 1 := by decide +kernel
  exact fun a ha => ⟨_, h a ha⟩
theorem nzd (a b : Fin 251) (h : a * b = 0) (ha : a ≠ 0) : b = 0 := by
  obtain ⟨c, hc⟩ := inv_ex a ha
  have : b = (a * c) * b := by rw [hc]; grind
  have h2 : a * c * b = c * (a * b) := by grind
  rw [this, h2, h]; grind
def ev : List (Fin 251) → Fin 251 → Fin 251
  | [], _ => 0
  | c :: q, x => c + x * ev q x
def dv (a : Fin 251) : List (Fin 251) → List (Fin 251)
  | [] => []
  | [_] => []
  | _ :: c :: q => ev (c :: q) a :: dv a (c :: q)
theorem ev_dv (a x : Fin 251) : ∀ p, ev p x = ev p a + (x - a) * ev (dv a p) x
  | [] => by simp only [ev, dv]; grind
  | [c] => by simp only [ev, dv]; grind
  | d :: c :: q => by
    have ih := ev_dv a x (c :: q)
    simp only [dv, ev] at ih ⊢
    generalize ev (dv a (c :: q)) x = t at *
    generalize ev q a = u at *
    generalize ev q x = v at *
    grind
theorem len_dv (a : Fin 251) : ∀ p, (dv a p).length = p.length - 1
  | [] => rfl
  | [_] => rfl
  | _ :: c :: q => by
    have ih := len_dv a (c :: q)
    simp only [dv, List.length_cons] at ih ⊢
    omega
theorem dv_zero (a : Fin 251) : ∀ p, (∀ c ∈ dv a p, c = 0) → ev p a = 0 → ∀ c ∈ p, c = 0
  | [], _, _ => by simp
  | [c], _, h => by
    simp only [ev] at h
    have h2 : c = 0 := by grind
    simp [h2]
  | d :: c :: q, hz, h => by
    simp only [dv, List.mem_cons, forall_eq_or_imp] at hz
    have h1 : d = 0 := by
      have h' : d + a * ev (c :: q) a = 0 := h
      rw [hz.1] at h'; grind
    have ih := dv_zero a (c :: q) hz.2 hz.1
    intro x hx
    rcases List.mem_cons.1 hx with rfl | hx
    · exact h1
    · exact ih x hx
theorem roots (n : Nat) : ∀ (p xs : List (Fin 251)), p.length = n → xs.Nodup → n ≤ xs.length → (∀ x ∈ xs, ev p x = 0) → ∀ c ∈ p, c = 0 := by
  induction n with
  | zero => intro p xs hp _ _ _; rw [List.length_eq_zero_iff.1 hp]; simp
  | succ n ih =>
    intro p xs hp hn hl hz
    cases xs with
    | nil => simp at hl
    | cons a xs =>
      have ha := hz a (by simp)
      refine dv_zero a p (ih (dv a p) xs (by rw [len_dv, hp]; rfl) (List.nodup_cons.1 hn).2 (by simp at hl; omega) ?_) ha
      intro x hx
      have h1 := ev_dv a x p
      rw [hz x (by simp [hx]), ha] at h1
      have hne : x - a ≠ 0 := by
        intro e
        have : x = a := by
          have : x = (x - a) + a := by grind
          rw [this, e]; grind
        rw [this] at hx; exact (List.nodup_cons.1 hn).1 hx
      refine nzd (x - a) _ ?_ hne
      generalize ev (dv a p) x = t at *
      grind
theorem ev_sub : ∀ (p q : List (Fin 251)) (x : Fin 251), p.length = q.length → ev (List.zipWith (fun a b => a - b) p q) x = ev p x - ev q x
  | [], [], x, _ => by simp [ev]
  | a :: p, b :: q, x, h => by
    have ih := ev_sub p q x (by simpa using h)
    simp only [List.zipWith_cons_cons, ev, ih]
    grind
theorem sub_zero_eq : ∀ (p q : List (Fin 251)), p.length = q.length → (∀ c ∈ List.zipWith (fun a b => a - b) p q, c = 0) → p = q
  | [], [], _, _ => rfl
  | a :: p, b :: q, h, hz => by
    simp only [List.zipWith_cons_cons, List.mem_cons, forall_eq_or_imp] at hz
    have hab : a = b := by
      have : a = (a - b) + b := by grind
      rw [this, hz.1]; grind
    rw [hab, sub_zero_eq p q (by simpa using h) hz.2]
theorem uniq (p q xs : List (Fin 251)) (hl : p.length = q.length) (hn : xs.Nodup) (hx : p.length ≤ xs.length) (h : ∀ x ∈ xs, ev p x = ev q x) : p = q := by
  refine sub_zero_eq p q hl (roots p.length _ xs (by simp [hl]) hn hx ?_)
  intro x hm
  rw [ev_sub p q x hl, h x hm]; grind
end Ply

/-! Part Lag. -/
namespace Go.Proofs.Ythlbjdiicmojfaa.P
open Go.RowKit Go.Proofs.YthlbjdiicmojfaaW.PrintWords Go.Proofs.YthlbjdiicmojfaaW.PrintLast Go.Proofs.YthlbjdiicmojfaaW.PrintMore
open Ply
set_option linter.unusedVariables false

theorem getD_get {α : Type} (l : List α) (d : α) {i : Nat} (h : i < l.length) : l.getD i d = l[i] := by
  simp [List.getD, List.getElem?_eq_getElem h]
/-! ### Numbers as classes -/
def cst (n : Int) : Fin 251 := ⟨(n % 251).toNat, by omega⟩
theorem cst_mod (a : Int) : cst (a % 251) = cst a := by
  unfold cst; congr 2; omega
theorem cst_add (a b : Int) : cst (a + b) = cst a + cst b := by
  apply Fin.ext
  simp only [cst, Fin.val_add]
  omega
theorem cst_zero : cst 0 = 0 := rfl
theorem cst_one : cst 1 = 1 := rfl
theorem cst_sub (a b : Int) : cst (a - b) = cst a - cst b := by
  have h := cst_add (a - b) b
  rw [show a - b + b = a by omega] at h
  rw [h]; grind
theorem cst_mul (a b : Int) : cst (a * b) = cst a * cst b := by
  apply Fin.ext
  simp only [cst, Fin.val_mul]
  have h1 : ((a % 251).toNat : Int) = a % 251 := by omega
  have h2 : ((b % 251).toNat : Int) = b % 251 := by omega
  have h3 : a * b % 251 = (a % 251) * (b % 251) % 251 := Int.mul_emod a b 251
  have h4 : ((((a % 251).toNat * (b % 251).toNat) % 251 : Nat) : Int) = (a % 251) * (b % 251) % 251 := by
    rw [Int.natCast_emod, Int.natCast_mul, h1, h2]; rfl
  have h5 : (((a * b % 251).toNat : Nat) : Int) = a * b % 251 := by omega
  omega
theorem cst_inj {a b : Int} (ha : num a = true) (hb : num b = true) (h : cst a = cst b) : a = b := by
  rw [num_iff] at ha hb
  have := congrArg Fin.val h
  simp only [cst] at this
  omega
theorem cst_ne {a b : Int} (ha : num a = true) (hb : num b = true) (h : a ≠ b) : cst a - cst b ≠ 0 := by
  intro e
  apply h
  apply cst_inj ha hb
  have : cst a = (cst a - cst b) + cst b := by grind
  rw [this, e]; grind

/-! ### A curve's value -/
theorem cst_atI : ∀ (c : List Int) (x : Int), cst (atI c x) = ev (c.map cst) (cst x)
  | [], x => rfl
  | n :: c, x => by
    have ih := cst_atI c x
    show cst ((atI c x * x + n) % 251) = cst n + cst x * ev (c.map cst) (cst x)
    rw [cst_mod, cst_add, cst_mul, ih]; grind
theorem atI_eq {c : List Int} {x r : Int} (hr : num r = true) (h : cst r = ev (c.map cst) (cst x)) : r = atI c x := cst_inj hr (num_atI c x) (by rw [h, cst_atI])

/-! ### Products and sums of curves -/
theorem ev_timesL : ∀ (c : List Int) (less m carry : Int) (x : Fin 251), ev ((timesL c less m carry).map cst) x = cst carry + (x - cst less) * cst m * ev (c.map cst) x
  | [], less, m, carry, x => by
    simp only [timesL, List.map_cons, List.map_nil, ev, cst_mod]; grind
  | n :: c, less, m, carry, x => by
    have ih := ev_timesL c less m (n * m) x
    simp only [timesL, List.map_cons, ev, cst_mod, ih, cst_sub, cst_mul]
    generalize ev (c.map cst) x = t
    grind
theorem ev_zip (f : Int → Int → Int) (u v : Fin 251) (hf : ∀ a b, cst (f a b) = u * cst a + v * cst b) : ∀ (c d : List Int) (x : Fin 251), c.length = d.length → ev ((List.zipWith f c d).map cst) x = u * ev (c.map cst) x + v * ev (d.map cst) x
  | [], [], x, _ => by simp only [List.zipWith_nil_left, List.map_nil, ev]; grind
  | a :: c, b :: d, x, h => by
    have ih := ev_zip f u v hf c d x (by simpa using h)
    simp only [List.zipWith_cons_cons, List.map_cons, ev, ih, hf]
    grind
theorem ev_plusL (c d : List Int) (x : Fin 251) (h : c.length = d.length) : ev ((plusL c d).map cst) x = ev (c.map cst) x + ev (d.map cst) x := by
  have := ev_zip (fun a b => (a + b) % 251) 1 1 (fun a b => by rw [cst_mod, cst_add]; grind) c d x h
  rw [show plusL c d = List.zipWith (fun a b => (a + b) % 251) c d from rfl, this]; grind
theorem ev_zeros (x : Fin 251) : ∀ n, ev ((List.replicate n (0 : Int)).map cst) x = 0
  | 0 => rfl
  | n + 1 => by
    rw [List.replicate_succ, List.map_cons, ev, ev_zeros x n, cst_zero]; grind

/-! ### The inverse -/
theorem cst_powIt (n : Int) : ∀ d x, cst (powIt n d x) = cst x * cst n ^ d
  | 0, x => by simp only [powIt]; grind
  | d + 1, x => by
    rw [powIt, cst_powIt n d, cst_mod, cst_mul]; grind
theorem inv_all : ∀ a : Fin 251, a ≠ 0 → a * a ^ 249 = 1 := by decide +kernel
theorem inv_mul (n : Int) (h : cst n ≠ 0) : cst (invI n) * cst n = 1 := by
  unfold invI
  rw [cst_powIt, cst_one]
  have := inv_all (cst n) h
  grind

/-! ### Lagrange's curves -/
theorem ev_basis_zero (xi : Int) (x : Fin 251) : ∀ (others c : List Int), (∃ xj ∈ others, cst xj = x) ∨ ev (c.map cst) x = 0 → ev ((basis xi others c).map cst) x = 0
  | [], c, h => by
    rcases h with ⟨_, h, _⟩ | h
    · simp at h
    · exact h
  | y :: others, c, h => by
    refine ev_basis_zero xi x others (timesL c y (invI ((xi - y) % 251)) 0) ?_
    rcases h with ⟨xj, hm, he⟩ | h
    · rcases List.mem_cons.1 hm with rfl | hm
      · right
        rw [ev_timesL, ← he, cst_zero]; grind
      · exact .inl ⟨xj, hm, he⟩
    · right
      rw [ev_timesL, h, cst_zero]; grind
theorem ev_basis_own (xi : Int) : ∀ (others c : List Int), (∀ xj ∈ others, cst xi - cst xj ≠ 0) → ev ((basis xi others c).map cst) (cst xi) = ev (c.map cst) (cst xi)
  | [], c, h => rfl
  | y :: others, c, h => by
    have ih := ev_basis_own xi others (timesL c y (invI ((xi - y) % 251)) 0) (fun xj hj => h xj (List.mem_cons_of_mem _ hj))
    rw [show basis xi (y :: others) c = basis xi others (timesL c y (invI ((xi - y) % 251)) 0) from rfl, ih, ev_timesL, cst_zero]
    have h1 := inv_mul ((xi - y) % 251) (by rw [cst_mod, cst_sub]; exact h y (by simp))
    rw [cst_mod, cst_sub] at h1
    generalize cst (invI ((xi - y) % 251)) = t at *
    generalize ev (c.map cst) (cst xi) = u at *
    grind

/-! ### The curve through points -/
/-- Points whose places are numbers, all different; their values are numbers. -/
def good (p : List (Int × Int)) : Prop := (∀ q ∈ p, num q.1 = true ∧ num q.2 = true) ∧ (p.map Prod.fst).Nodup
theorem good_getD {p : List (Int × Int)} (h : good p) {i : Nat} (hi : i < p.length) : num (p.getD i (0, 0)).1 = true ∧ num (p.getD i (0, 0)).2 = true := by
  rw [getD_get _ _ hi]
  exact h.1 _ (List.getElem_mem hi)
theorem ev_one_own {p : List (Int × Int)} (h : good p) {i : Nat} (hi : i < p.length) : ev ((oneL p i).map cst) (cst (p.getD i (0, 0)).1) = cst (p.getD i (0, 0)).2 := by
  unfold oneL
  rw [ev_basis_own]
  · simp only [List.map_cons, List.map_nil, ev]; grind
  · intro xj hm
    obtain ⟨j, hj, hne, rfl⟩ := List.mem_eraseIdx_iff_getElem.1 hm
    rw [List.length_map] at hj
    rw [getD_get _ _ hi]
    refine cst_ne (h.1 _ (List.getElem_mem hi)).1 (by rw [List.getElem_map]; exact (h.1 _ (List.getElem_mem hj)).1) fun e => hne ?_
    have h2 := h.2
    rw [List.Nodup, List.pairwise_iff_getElem] at h2
    rcases Nat.lt_trichotomy i j with hlt | heq | hgt
    · exact absurd (by rw [List.getElem_map, List.getElem_map]; simpa using e) (h2 i j (by simpa using hi) (by simpa using hj) hlt)
    · exact heq.symm
    · exact absurd (by rw [List.getElem_map, List.getElem_map]; simpa using e.symm) (h2 j i (by simpa using hj) (by simpa using hi) hgt)
theorem ev_one_other {p : List (Int × Int)} {i j : Nat} (hj : j < p.length) (hne : j ≠ i) : ev ((oneL p i).map cst) (cst (p.getD j (0, 0)).1) = 0 := by
  unfold oneL
  refine ev_basis_zero _ _ _ _ (.inl ⟨(p.getD j (0, 0)).1, ?_, rfl⟩)
  refine List.mem_eraseIdx_iff_getElem.2 ⟨j, by simpa using hj, hne, ?_⟩
  rw [List.getElem_map, getD_get _ _ hj]
theorem ev_interpTo {p : List (Int × Int)} (h : good p) {j : Nat} (hj : j < p.length) : ∀ m, m ≤ p.length → ev ((interpTo p m).map cst) (cst (p.getD j (0, 0)).1) = if j < m then cst (p.getD j (0, 0)).2 else 0
  | 0, _ => by
    rw [if_neg (by omega)]
    exact ev_zeros _ _
  | m + 1, hm => by
    rw [interpTo_succ, ev_plusL _ _ _ (by rw [interpTo_length p m (by omega), oneL_length p m (by omega)]), ev_interpTo h hj m (by omega)]
    by_cases e : j = m
    · subst e
      rw [if_neg (by omega), if_pos (by omega), ev_one_own h hj]; grind
    · rw [ev_one_other hj e]
      by_cases hlt : j < m
      · rw [if_pos hlt, if_pos (by omega)]; grind
      · rw [if_neg hlt, if_neg (by omega)]; grind
theorem interp_len (p : List (Int × Int)) : (interp p).length = p.length := interpTo_length p _ (Nat.le_refl _)
theorem interp_nums (p : List (Int × Int)) : ∀ n ∈ interp p, num n = true := interpTo_num p _
theorem interp_at {p : List (Int × Int)} (h : good p) {q : Int × Int} (hq : q ∈ p) : atI (interp p) q.1 = q.2 := by
  obtain ⟨j, hj, rfl⟩ := List.mem_iff_getElem.1 hq
  symm
  refine atI_eq (h.1 _ hq).2 ?_
  have := ev_interpTo h hj p.length (Nat.le_refl _)
  rw [if_pos hj, getD_get _ _ hj] at this
  exact this.symm

/-! ### One curve alone -/
theorem map_cst_inj : ∀ (c d : List Int), (∀ n ∈ c, num n = true) → (∀ n ∈ d, num n = true) → c.map cst = d.map cst → c = d
  | [], [], _, _, _ => rfl
  | [], _ :: _, _, _, h => by simp at h
  | _ :: _, [], _, _, h => by simp at h
  | a :: c, b :: d, hc, hd, h => by
    simp only [List.map_cons, List.cons.injEq] at h
    rw [cst_inj (hc a (by simp)) (hd b (by simp)) h.1, map_cst_inj c d (fun n hn => hc n (by simp [hn])) (fun n hn => hd n (by simp [hn])) h.2]
theorem nodup_cst : ∀ {xs : List Int}, (∀ x ∈ xs, num x = true) → xs.Nodup → (xs.map cst).Nodup
  | [], _, _ => by simp
  | a :: xs, hn, h => by
    rw [List.nodup_cons] at h
    rw [List.map_cons, List.nodup_cons]
    refine ⟨fun hm => ?_, nodup_cst (fun x hx => hn x (by simp [hx])) h.2⟩
    obtain ⟨b, hb, e⟩ := List.mem_map.1 hm
    rw [cst_inj (hn b (by simp [hb])) (hn a (by simp)) e] at hb
    exact h.1 hb
theorem curve_uniq {c d xs : List Int} (hl : c.length = d.length) (hc : ∀ n ∈ c, num n = true) (hd : ∀ n ∈ d, num n = true) (hx : ∀ x ∈ xs, num x = true) (hn : xs.Nodup) (hlen : c.length ≤ xs.length)
    (h : ∀ x ∈ xs, atI c x = atI d x) : c = d := by
  refine map_cst_inj c d hc hd (uniq _ _ (xs.map cst) (by simpa using hl) (nodup_cst hx hn) (by simpa using hlen) ?_)
  intro y hy
  obtain ⟨x, hm, rfl⟩ := List.mem_map.1 hy
  rw [← cst_atI, ← cst_atI, h x hm]
theorem interp_uniq {p : List (Int × Int)} {c : List Int} (h : good p) (hl : c.length = p.length) (hc : ∀ n ∈ c, num n = true) (ha : ∀ q ∈ p, atI c q.1 = q.2) : c = interp p := by
  refine curve_uniq (xs := p.map Prod.fst) (by rw [hl, interp_len]) hc (interp_nums p) ?_ h.2 (by rw [List.length_map]; omega) ?_
  · intro x hx
    obtain ⟨q, hq, rfl⟩ := List.mem_map.1 hx
    exact (h.1 q hq).1
  · intro x hx
    obtain ⟨q, hq, rfl⟩ := List.mem_map.1 hx
    rw [ha q hq, interp_at h hq]
theorem atI_zero {c : List Int} (hc : ∀ n ∈ c, num n = true) : atI c 0 = c.getD 0 0 := by
  cases c with
  | nil => rfl
  | cons n c =>
    have := num_iff.1 (hc n (by simp))
    show (atI c 0 * 0 + n) % 251 = n
    omega
theorem atI_more (c : List Int) (x : Int) : ∀ n, atI (c ++ List.replicate n 0) x = atI c x
  | 0 => by simp
  | n + 1 => by
    rw [List.replicate_succ', ← List.append_assoc]
    unfold atI
    rw [List.foldr_append]
    simp only [List.foldr_cons, List.foldr_nil]
    rw [show ((0 : Int) * x + 0) % 251 = 0 by rw [Int.zero_mul]; rfl]
    exact atI_more c x n
theorem good_pts {l : List S43} (h : valid l = 0) : good (pts l) := by
  obtain ⟨_, hok, hn⟩ := valid_iff.1 h
  refine ⟨fun q hq => ?_, ?_⟩
  · obtain ⟨p, hp, rfl⟩ := List.mem_map.1 hq
    have := okP_iff.1 (hok p hp)
    exact ⟨num_iff.2 (by simp only; omega), num_iff.2 (by simp only; omega)⟩
  · unfold pts
    rw [List.map_map]
    exact hn
theorem pts_length (l : List S43) : (pts l).length = l.length := by simp [pts]
theorem mem_pts {l : List S43} {p : S43} (h : p ∈ l) : (p.f0, p.f1) ∈ pts l := List.mem_map.2 ⟨p, h, rfl⟩
end Go.Proofs.Ythlbjdiicmojfaa.P

/-! Part PF84. -/
-- Written for this claim by wip/print_more.py (a session's program that runs the kit's printer with hand-proved functions beside). Lean checks it.
namespace Go.Proofs.Ythlbjdiicmojfaa.P
open Go.RowKit Go.Proofs.YthlbjdiicmojfaaW.PrintWords Go.Proofs.YthlbjdiicmojfaaW.PrintLast Go.Proofs.YthlbjdiicmojfaaW.PrintMore
attribute [local go_sem] max2_int min2_int max_two min_two max_three min_three max_four min_four   -- for this text's walks alone
set_option linter.unusedVariables false
set_option linter.unusedSimpArgs false

/-! ### verditerref08_inverse: function 84 -/
def verditerref08_inverse.l0 : Nat → Int → Int → Option (Int)
  | 0, _, _ => none
  | k + 1, x0, x3 => (verditerref08_mod.f (wrap64 (x0 * x3))).bind fun t180 => (if t180 = 1 then (some x3) else (verditerref08_inverse.l0 k x0 (wrap64 (x3 + 1))))
def verditerref08_inverse.f (k : Nat) (a0 : Int) : Option (Int) := verditerref08_inverse.l0 k a0 1
theorem verditerref08_inverse.mono_l : ∀ k, (∀ y0 y1, LeO (verditerref08_inverse.l0 k y0 y1) (verditerref08_inverse.l0 (k + 1) y0 y1))
  | 0 => fun _ _ r h => by simp [verditerref08_inverse.l0] at h
  | k + 1 => by
    have ih0 := verditerref08_inverse.mono_l k
    · intro y0 y1
      unfold verditerref08_inverse.l0
      repeat' first
      | (with_reducible exact ih0 _ _)
      | (with_reducible exact LeO.refl _)
      | (with_reducible exact LeO.none _)
      | (with_reducible refine LeO.ite ?_ ?_)
      | (with_reducible refine LeO.bind ?_ (fun _ => ?_))
      | exact ih0 _ _
      | exact LeO.none _
      | refine LeO.ite ?_ ?_
      | refine LeO.bind ?_ (fun _ => ?_)
theorem verditerref08_inverse.mono : ∀ a0 k, LeO (verditerref08_inverse.f k a0) (verditerref08_inverse.f (k + 1) a0) := by
  intro a0 k
  have ih0 := verditerref08_inverse.mono_l k
  unfold verditerref08_inverse.f
  repeat' first
      | (with_reducible exact ih0 _ _)
      | (with_reducible exact LeO.refl _)
      | (with_reducible exact LeO.none _)
      | (with_reducible refine LeO.ite ?_ ?_)
      | (with_reducible refine LeO.bind ?_ (fun _ => ?_))
      | exact ih0 _ _
      | exact LeO.none _
      | refine LeO.ite ?_ ?_
      | refine LeO.bind ?_ (fun _ => ?_)
set_option maxHeartbeats 8000000 in
set_option maxRecDepth 100000 in
theorem verditerref08_inverse.calls (k : Nat) (a0 : Int) (r : Int) (w : World) (h : verditerref08_inverse.f k a0 = some r) :
    Calls Try.prog 84 #[.int .i64 a0] w fun e w' => e = .returned (.int .i64 r) ∧ Drawn0 w w' := by
  have H : (verditerref08_inverse.l0 k a0 1) = some r := h
  clear h
  have H' := Aside0.mk H
  clear H
  go_enter Try.func84, Try.ntmps84
  go_wp2
  go_loopg [3] k (fun kq v3 w' => ∃ (x3_1 : Int), v3 = .int .i64 x3_1 ∧ Aside0 (verditerref08_inverse.l0 kq a0 x3_1 = some r) ∧ Aside0 (kq ≤ k) ∧ Drawn0 w w')
  case atStart => exact ⟨(1), (by first | rfl | (simp; done) | (simp [*]; done)), H', ⟨Nat.le_refl _⟩, by repeat (first | exact Drawn0.refl _ | apply Drawn0.step)⟩
  case round =>
    clear H'
    obtain ⟨x3_1, rfl, HA, HK1, ⟨m1, rfl⟩⟩ := hrel
    cases gk with
    | zero => exact absurd HA.out (by simp [verditerref08_inverse.l0])
    | succ k1 =>
      have H := HA.out
      clear HA
      simp only [verditerref08_inverse.l0] at H
      replace H := Option.bind_eq_some_iff.mp H
      obtain ⟨t180, A20, H⟩ := H
      replace H : (if t180 = 1 then (some x3_1) else (verditerref08_inverse.l0 k1 a0 (wrap64 (x3_1 + 1)))) = some r := H
      have A2 := Aside0.mk A20
      clear A20
      by_cases c3 : t180 = 1
      · rw [if_pos c3] at H
        have c3b0 : (t180 == 1) = true := beq_iff_eq.mpr c3
        have c3b1 : (t180 != 1) = false := bne_eq_false_iff_eq.mpr c3
        clear c3
        obtain rfl := Option.some.inj H
        go_wp2_with (first | ((with_reducible refine gate_callee (f := 104) rfl ?_); refine goesL_ (some 7) rfl rfl Try.func104 (by kernel_rfl) rfl #[.int .i64 (wrap64 (a0 * x3_1))] rfl (by (try simp only [List.map_toArray, List.map_cons, List.map_nil]); first | done | rfl | (simp only [List.length_drop, List.length_take]; rfl)) ?_; (with_reducible refine (verditerref08_mod.calls (wrap64 (a0 * x3_1)) t180 _ A2.out).mono ?_); rintro e w' ⟨rfl, ⟨nd, rfl⟩⟩; refine ⟨_, rfl, ?_⟩))
        go_ret
        exact ⟨by first | rfl | (simp; done) | (simp [*]; done), by repeat (first | exact Drawn0.refl _ | apply Drawn0.step)⟩
      · rw [if_neg c3] at H
        have c3b0 : (t180 == 1) = false := beq_eq_false_iff_ne.mpr c3
        have c3b1 : (t180 != 1) = true := bne_iff_ne.mpr c3
        have H' := Aside0.mk H
        clear H
        go_wp2_with (first | ((with_reducible refine gate_callee (f := 104) rfl ?_); refine goesL_ (some 7) rfl rfl Try.func104 (by kernel_rfl) rfl #[.int .i64 (wrap64 (a0 * x3_1))] rfl (by (try simp only [List.map_toArray, List.map_cons, List.map_nil]); first | done | rfl | (simp only [List.length_drop, List.length_take]; rfl)) ?_; (with_reducible refine (verditerref08_mod.calls (wrap64 (a0 * x3_1)) t180 _ A2.out).mono ?_); rintro e w' ⟨rfl, ⟨nd, rfl⟩⟩; refine ⟨_, rfl, ?_⟩))
        go_roundg k1
        case measure => have := HK1.out; omega
        case rel => exact ⟨(wrap64 (x3_1 + 1)), (by first | rfl | (simp; done) | (simp [*]; done)), H', ⟨by have := HK1.out; omega⟩, by repeat (first | exact Drawn0.refl _ | apply Drawn0.step)⟩

end Go.Proofs.Ythlbjdiicmojfaa.P

/-! Part Ref. -/
namespace Go.Proofs.Ythlbjdiicmojfaa.P
open Go.RowKit Go.Proofs.YthlbjdiicmojfaaW.PrintWords Go.Proofs.YthlbjdiicmojfaaW.PrintLast Go.Proofs.YthlbjdiicmojfaaW.PrintMore
open Ply
set_option linter.unusedVariables false

theorem rwithin_eq (a lo hi : Int) : verditerref08_within.f a lo hi = some (decide (lo ≤ a) && decide (a ≤ hi)) := by
  unfold verditerref08_within.f
  split
  · rename_i h; rw [decide_eq_true (show lo ≤ a from h)]; rfl
  · rename_i h; rw [decide_eq_false (show ¬ lo ≤ a from h)]; rfl
theorem risNumber_eq (a : Int) : verditerref08_isNumber.f a = some (num a) := by
  unfold verditerref08_isNumber.f num
  rw [rwithin_eq]; rfl
theorem rd_get (l : List Int) (i : Nat) (h : i < l.length) : rd l (i : Int) = l[i] := by
  unfold rd; rw [Int.toNat_natCast]; exact getD_get l 0 h
theorem rdT_get (l : List S43) (i : Nat) (h : i < l.length) : rd_T43 l (i : Int) = l[i] := by
  unfold rd_T43; rw [Int.toNat_natCast]; exact getD_get l z43 h
theorem wrap_succ (i : Nat) (h : i ≤ 1000000) : wrap64 ((i : Int) + 1) = ((i + 1 : Nat) : Int) := by
  rw [wrap_id (a := (i : Int) + 1) (by omega) (by omega)]; omega

/-! ### A curve's value -/
theorem rat_loop (c : List Int) (x : Int) (hc : ∀ n ∈ c, num n = true) (hx : num x = true) (hl : c.length ≤ 1000) : ∀ (d : Nat) (i : Nat) (s p : Int) (k : Nat), i + d = c.length → num s = true → num p = true → d < k →
    ∃ r, verditerref08_at.l0 k c x s p (i : Int) = some r ∧ num r = true ∧ cst r = cst s + cst p * ev ((c.drop i).map cst) (cst x) := by
  intro d
  induction d with
  | zero =>
    intro i s p k hi hs hp hk
    obtain ⟨k, rfl⟩ : ∃ j, k = j + 1 := ⟨k - 1, by omega⟩
    refine ⟨s, ?_, hs, ?_⟩
    · rw [verditerref08_at.l0, if_neg (by omega)]
    · rw [List.drop_of_length_le (by omega)]
      simp only [List.map_nil, ev]; grind
  | succ d ih =>
    intro i s p k hi hs hp hk
    obtain ⟨k, rfl⟩ : ∃ j, k = j + 1 := ⟨k - 1, by omega⟩
    have hic : i < c.length := by omega
    have hn := num_iff.1 (hc c[i] (List.getElem_mem hic))
    have hs' := num_iff.1 hs
    have hp' := num_iff.1 hp
    have hx' := num_iff.1 hx
    have hm1 := mul_range hn.1 hn.2 hp'.1 hp'.2
    have hm2 := mul_range hp'.1 hp'.2 hx'.1 hx'.2
    obtain ⟨r, hr, hrn, hrc⟩ := ih (i + 1) ((s + c[i] * p) % 251) ((p * x) % 251) k (by omega) (num_mod _) (num_mod _) (by omega)
    refine ⟨r, ?_, hrn, ?_⟩
    · rw [verditerref08_at.l0, if_pos (by omega), if_pos (by omega), rd_get c i hic, wrap_id (a := c[i] * p) (by omega) (by omega), wrap_id (a := s + c[i] * p) (by omega) (by omega), mod_eq, Option.bind_some, wrap_id (a := p * x) (by omega) (by omega), mod_eq, Option.bind_some, wrap_succ i (by omega)]
      exact hr
    · rw [hrc, cst_mod, cst_mod, cst_add, cst_mul, cst_mul, List.drop_eq_getElem_cons hic, List.map_cons, ev]
      generalize ev ((c.drop (i + 1)).map cst) (cst x) = t
      grind
theorem rat_eq (c : List Int) (x : Int) (hc : ∀ n ∈ c, num n = true) (hx : num x = true) (hl : c.length ≤ 1000) (k : Nat) (hk : c.length < k) : verditerref08_at.f k c x = some (atI c x) := by
  obtain ⟨r, hr, hn, he⟩ := rat_loop c x hc hx hl c.length 0 0 1 k (by omega) rfl rfl hk
  rw [verditerref08_at.f]
  rw [show ((0 : Nat) : Int) = 0 from rfl] at hr
  rw [hr, atI_eq (c := c) (x := x) hn (by rw [he, List.drop_zero, cst_zero, cst_one]; grind)]

/-! ### The inverse -/
theorem invI_mul {a : Int} (ha : num a = true) (h0 : a ≠ 0) : cst a * cst (invI a) = 1 := by
  have h := inv_mul a (by
    have := cst_ne ha (show num 0 = true from rfl) h0
    rw [cst_zero] at this
    intro e; apply this; rw [e]; grind)
  generalize cst (invI a) = u at *
  generalize cst a = v at *
  grind
theorem mul_one_iff {a b : Int} : (a * b) % 251 = 1 ↔ cst a * cst b = 1 := by
  rw [← cst_mul]
  constructor
  · intro h; rw [← cst_mod, h]; rfl
  · intro h; exact cst_inj (num_mod _) rfl (by rw [cst_mod, h]; rfl)
theorem invI_pos {a : Int} (ha : num a = true) (h0 : a ≠ 0) : 1 ≤ invI a ∧ invI a ≤ 250 := by
  have h1 := num_iff.1 (num_invI a)
  refine ⟨?_, h1.2⟩
  rcases Int.lt_or_le 0 (invI a) with h | h
  · omega
  · have e : invI a = 0 := by omega
    have := invI_mul ha h0
    rw [e, cst_zero] at this
    have h2 : cst a * 0 = 0 := by grind
    rw [h2] at this
    exact absurd this (by decide)
theorem rinv_loop (a t : Int) (ha : num a = true) (h2 : cst a * cst t = 1) (hi : 1 ≤ t ∧ t ≤ 250) : ∀ (d : Nat) (b : Int) (k : Nat), 1 ≤ b → b + d = t → d < k → verditerref08_inverse.l0 k a b = some t := by
  have ha' := num_iff.1 ha
  intro d
  induction d with
  | zero =>
    intro b k hb he hk
    obtain ⟨k, rfl⟩ : ∃ j, k = j + 1 := ⟨k - 1, by omega⟩
    have e : b = t := by omega
    subst e
    have hm := mul_range ha'.1 ha'.2 (by omega) hi.2
    rw [verditerref08_inverse.l0, wrap_id (a := a * b) (by omega) (by omega), mod_eq, Option.bind_some, if_pos (mul_one_iff.2 h2)]
  | succ d ih =>
    intro b k hb he hk
    obtain ⟨k, rfl⟩ : ∃ j, k = j + 1 := ⟨k - 1, by omega⟩
    have hm := mul_range ha'.1 ha'.2 (show 0 ≤ b by omega) (show b ≤ 250 by omega)
    have hne : ¬ (a * b) % 251 = 1 := by
      intro h
      have h1 := mul_one_iff.1 h
      have h3 : cst b = cst t := by
        have : cst b = cst b * (cst a * cst t) := by rw [h2]; grind
        rw [this]
        have : cst b * (cst a * cst t) = (cst a * cst b) * cst t := by grind
        rw [this, h1]; grind
      have := cst_inj (num_iff.2 ⟨by omega, by omega⟩) (num_iff.2 ⟨by omega, by omega⟩) h3
      omega
    rw [verditerref08_inverse.l0, wrap_id (a := a * b) (by omega) (by omega), mod_eq, Option.bind_some, if_neg hne, wrap_id (a := b + 1) (by omega) (by omega)]
    exact ih (b + 1) k (by omega) (by omega) (by omega)
theorem rinv_eq (a : Int) (ha : num a = true) (h0 : a ≠ 0) (k : Nat) (hk : 251 ≤ k) : verditerref08_inverse.f k a = some (invI a) := by
  have hi := invI_pos ha h0
  have h2 := invI_mul ha h0
  rw [verditerref08_inverse.f]
  generalize invI a = t at *
  exact rinv_loop a t ha h2 hi (t - 1).toNat 1 k (by omega) (by omega) (by omega)

/-! ### The error of a curve -/
theorem rcurved_loop (c : List Int) (hl : c.length ≤ 1000) : ∀ (d i k : Nat), i + d = c.length → d < k → verditerref08_curved.l0 k c (i : Int) = some (if (c.drop i).all num = true then 0 else 1) := by
  intro d
  induction d with
  | zero =>
    intro i k hi hk
    obtain ⟨k, rfl⟩ : ∃ j, k = j + 1 := ⟨k - 1, by omega⟩
    rw [verditerref08_curved.l0, if_neg (by omega), List.drop_of_length_le (by omega)]; rfl
  | succ d ih =>
    intro i k hi hk
    obtain ⟨k, rfl⟩ : ∃ j, k = j + 1 := ⟨k - 1, by omega⟩
    have hic : i < c.length := by omega
    rw [verditerref08_curved.l0, if_pos (by omega), if_pos (by omega), rd_get c i hic, risNumber_eq, Option.bind_some, List.drop_eq_getElem_cons hic, List.all_cons]
    cases hn : num c[i] with
    | true => rw [if_pos rfl, wrap_succ i (by omega), ih (i + 1) k (by omega) (by omega)]; rfl
    | false => rfl
theorem rcurved_eq (c : List Int) (hl : c.length ≤ 1000) (k : Nat) (hk : c.length < k) : verditerref08_curved.f k c = some (curveErr c) := by
  rw [verditerref08_curved.f, rwithin_eq, Option.bind_some]
  unfold curveErr
  by_cases h : 1 ≤ c.length ∧ c.length ≤ 6
  · rw [if_pos h, decide_eq_true (show (1 : Int) ≤ (c.length : Int) by omega), decide_eq_true (show (c.length : Int) ≤ 6 by omega), if_pos (show (true && true) = true from rfl)]
    have := rcurved_loop c hl c.length 0 k (by omega) hk
    rw [List.drop_zero] at this
    exact this
  · rw [if_neg h, if_neg]
    intro e
    rw [Bool.and_eq_true, decide_eq_true_iff, decide_eq_true_iff] at e
    omega

/-! ### Equal lists -/
theorem sameInts_loop (c : List Int) (hl : c.length ≤ 1000) : ∀ (d i k : Nat), i + d = c.length → d < k → verditerref08_SameInts.l0 k c c (i : Int) = some true := by
  intro d
  induction d with
  | zero =>
    intro i k hi hk
    obtain ⟨k, rfl⟩ : ∃ j, k = j + 1 := ⟨k - 1, by omega⟩
    rw [verditerref08_SameInts.l0, if_neg (by omega)]
  | succ d ih =>
    intro i k hi hk
    obtain ⟨k, rfl⟩ : ∃ j, k = j + 1 := ⟨k - 1, by omega⟩
    rw [verditerref08_SameInts.l0, if_pos (by omega), if_pos (by omega), if_pos (by omega), if_pos rfl, wrap_succ i (by omega)]
    exact ih (i + 1) k (by omega) (by omega)
theorem sameInts_self (c : List Int) (hl : c.length ≤ 1000) (k : Nat) (hk : c.length < k) : verditerref08_SameInts.f k c c = some true := by
  rw [verditerref08_SameInts.f, if_pos rfl]
  exact sameInts_loop c hl c.length 0 k (by omega) hk
theorem same_loop (c : List S43) (hl : c.length ≤ 1000) : ∀ (d i k : Nat), i + d = c.length → d < k → verditerref08_Same.l0 k c c (i : Int) = some true := by
  intro d
  induction d with
  | zero =>
    intro i k hi hk
    obtain ⟨k, rfl⟩ : ∃ j, k = j + 1 := ⟨k - 1, by omega⟩
    rw [verditerref08_Same.l0, if_neg (by omega)]
  | succ d ih =>
    intro i k hi hk
    obtain ⟨k, rfl⟩ : ∃ j, k = j + 1 := ⟨k - 1, by omega⟩
    rw [verditerref08_Same.l0, if_pos (by omega), if_pos (by omega), if_pos (by omega), if_neg (by simp), wrap_succ i (by omega)]
    exact ih (i + 1) k (by omega) (by omega)
theorem same_self (c : List S43) (hl : c.length ≤ 1000) (k : Nat) (hk : c.length < k) : verditerref08_Same.f k c c = some true := by
  rw [verditerref08_Same.f, if_pos rfl]
  exact same_loop c hl c.length 0 k (by omega) hk
end Go.Proofs.Ythlbjdiicmojfaa.P
