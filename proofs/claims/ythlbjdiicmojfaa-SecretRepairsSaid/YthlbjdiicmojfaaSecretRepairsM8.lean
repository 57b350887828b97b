/- Parts of the proof of the law SecretRepairs: walks of functions that it reaches, and plain facts about numbers, lists and curves; without a condition. -/
import Derived.Test.YthlbjdiicmojfaaSecretRepairsM1
import Derived.Test.YthlbjdiicmojfaaSecretRepairsM3
import Derived.Test.YthlbjdiicmojfaaSecretRepairsM4
import Derived.Test.YthlbjdiicmojfaaSecretRepairsM6
import Derived.Test.YthlbjdiicmojfaaSecretRepairsM7
import Derived.Test.YthlbjdiicmojfaaVSized
import Derived.Deep.SlicePairs
import Derived.Test.YthlbjdiicmojfaaSecretRepairsM2
import Derived.Test.YthlbjdiicmojfaaSecretRepairsM5
/-! Part PF36. -/
-- Written for this claim by wip/print_more.py (a session's program that runs the kit's printer with hand-proved functions beside). Lean checks it.
namespace Go.Proofs.Ythlbjdiicmojfaa.P
open Go.RowKit Go.Proofs.YthlbjdiicmojfaaW.PrintWords Go.Proofs.YthlbjdiicmojfaaW.PrintLast Go.Proofs.YthlbjdiicmojfaaW.PrintMore
attribute [local go_sem] max2_int min2_int max_two min_two max_three min_three max_four min_four   -- for this text's walks alone
set_option linter.unusedVariables false
set_option linter.unusedSimpArgs false

/-! ### verditerlaw08_secretRepairs: function 36 -/
mutual
def verditerlaw08_secretRepairs.j0 : Nat → List (S43) → Int → List (S43) → List (S43) → Bool → Bool → Option (Bool)
  | 0, _, _, _, _, _, _ => none
  | k + 1, x0, x1, x5, x9, x10, x48 => if x48 = true then (some false) else (if x10 = true then ((secret_LieOn.f x9 x1).bind fun bt675 => (if bt675.2 = 0 then (if bt675.1 = true then (verditerlaw08_secretRepairs.j1 k x0 x5 x9) else (some false)) else (some false))) else (verditerlaw08_secretRepairs.j1 k x0 x5 x9))
def verditerlaw08_secretRepairs.j1 : Nat → List (S43) → List (S43) → List (S43) → Option (Bool)
  | 0, _, _, _ => none
  | k + 1, x0, x5, x9 => verditerlaw08_secretRepairs.l0 k x0 x5 x9 0
def verditerlaw08_secretRepairs.l0 : Nat → List (S43) → List (S43) → List (S43) → Int → Option (Bool)
  | 0, _, _, _, _ => none
  | k + 1, x0, x5, x9, x14 => if x14 < (x9.length : Int) then (if 0 ≤ x14 then (verditerlaw08_secretRepairs.l0 k x0 x5 (x9.set (x14 : Int).toNat (⟨(rd_T43 x9 x14).f0, (-1)⟩ : S43)) (wrap64 (x14 + 1))) else (none)) else ((verditerref08_Same.f k x5 x0).bind fun t678 => (if t678 = true then ((verditerlaw08_known.f k).bind fun t679 => (some t679)) else (some false)))
end
def verditerlaw08_secretRepairs.f (k : Nat) (l0 : List (S43)) (a1 : Int) : Option (Bool) := (verditerlaw08_Long.f l0).bind fun t656 => (if t656 = true then ((verditerlaw08_known.f k).bind fun t657 => (some t657)) else ((some (([] : List (S43)) : List (S43))).bind fun y658 => (if y658.length + l0.length < 8796093022208 then ((some (y658 ++ l0 : List (S43))).bind fun y661 => ((verditerref08_Repair.f k l0 a1).bind fun bt664 => ((secret_Repair.f k y661 a1).bind fun bt669 => (if (bt669.2.1 != bt664.2.1) = true then (verditerlaw08_secretRepairs.j0 k l0 a1 y661 bt669.1 bt669.2.1 true) else (if bt669.2.2 = bt664.2.2 then ((verditerref08_Same.f k bt669.1 bt664.1).bind fun t674 => (verditerlaw08_secretRepairs.j0 k l0 a1 y661 bt669.1 bt669.2.1 (!t674))) else (verditerlaw08_secretRepairs.j0 k l0 a1 y661 bt669.1 bt669.2.1 true)))))) else (none))))
theorem verditerlaw08_secretRepairs.mono_l : ∀ k, (∀ y0 y1 y2 y3 y4 y5, LeO (verditerlaw08_secretRepairs.j0 k y0 y1 y2 y3 y4 y5) (verditerlaw08_secretRepairs.j0 (k + 1) y0 y1 y2 y3 y4 y5)) ∧ (∀ y0 y1 y2, LeO (verditerlaw08_secretRepairs.j1 k y0 y1 y2) (verditerlaw08_secretRepairs.j1 (k + 1) y0 y1 y2)) ∧ (∀ y0 y1 y2 y3, LeO (verditerlaw08_secretRepairs.l0 k y0 y1 y2 y3) (verditerlaw08_secretRepairs.l0 (k + 1) y0 y1 y2 y3))
  | 0 => ⟨fun _ _ _ _ _ _ r h => by simp [verditerlaw08_secretRepairs.j0] at h, fun _ _ _ r h => by simp [verditerlaw08_secretRepairs.j1] at h, fun _ _ _ _ r h => by simp [verditerlaw08_secretRepairs.l0] at h⟩
  | k + 1 => by
    obtain ⟨ih0, ih1, ih2⟩ := verditerlaw08_secretRepairs.mono_l k
    refine ⟨?_, ?_, ?_⟩
    · intro y0 y1 y2 y3 y4 y5
      unfold verditerlaw08_secretRepairs.j0
      repeat' first
      | (with_reducible exact ih0 _ _ _ _ _ _)
      | (with_reducible exact ih1 _ _ _)
      | (with_reducible exact ih2 _ _ _ _)
      | (with_reducible exact secret_Repair.mono _ _ _)
      | (with_reducible exact verditerlaw08_known.mono _)
      | (with_reducible exact verditerref08_Repair.mono _ _ _)
      | (with_reducible exact verditerref08_Same.mono _ _ _)
      | (with_reducible exact LeO.refl _)
      | (with_reducible exact LeO.none _)
      | (with_reducible refine LeO.ite ?_ ?_)
      | (with_reducible refine LeO.bind ?_ (fun _ => ?_))
      | exact ih0 _ _ _ _ _ _
      | exact ih1 _ _ _
      | exact ih2 _ _ _ _
      | exact secret_Repair.mono _ _ _
      | exact verditerlaw08_known.mono _
      | exact verditerref08_Repair.mono _ _ _
      | exact verditerref08_Same.mono _ _ _
      | exact LeO.none _
      | refine LeO.ite ?_ ?_
      | refine LeO.bind ?_ (fun _ => ?_)
    · intro y0 y1 y2
      unfold verditerlaw08_secretRepairs.j1
      repeat' first
      | (with_reducible exact ih0 _ _ _ _ _ _)
      | (with_reducible exact ih1 _ _ _)
      | (with_reducible exact ih2 _ _ _ _)
      | (with_reducible exact secret_Repair.mono _ _ _)
      | (with_reducible exact verditerlaw08_known.mono _)
      | (with_reducible exact verditerref08_Repair.mono _ _ _)
      | (with_reducible exact verditerref08_Same.mono _ _ _)
      | (with_reducible exact LeO.refl _)
      | (with_reducible exact LeO.none _)
      | (with_reducible refine LeO.ite ?_ ?_)
      | (with_reducible refine LeO.bind ?_ (fun _ => ?_))
      | exact ih0 _ _ _ _ _ _
      | exact ih1 _ _ _
      | exact ih2 _ _ _ _
      | exact secret_Repair.mono _ _ _
      | exact verditerlaw08_known.mono _
      | exact verditerref08_Repair.mono _ _ _
      | exact verditerref08_Same.mono _ _ _
      | exact LeO.none _
      | refine LeO.ite ?_ ?_
      | refine LeO.bind ?_ (fun _ => ?_)
    · intro y0 y1 y2 y3
      unfold verditerlaw08_secretRepairs.l0
      repeat' first
      | (with_reducible exact ih0 _ _ _ _ _ _)
      | (with_reducible exact ih1 _ _ _)
      | (with_reducible exact ih2 _ _ _ _)
      | (with_reducible exact secret_Repair.mono _ _ _)
      | (with_reducible exact verditerlaw08_known.mono _)
      | (with_reducible exact verditerref08_Repair.mono _ _ _)
      | (with_reducible exact verditerref08_Same.mono _ _ _)
      | (with_reducible exact LeO.refl _)
      | (with_reducible exact LeO.none _)
      | (with_reducible refine LeO.ite ?_ ?_)
      | (with_reducible refine LeO.bind ?_ (fun _ => ?_))
      | exact ih0 _ _ _ _ _ _
      | exact ih1 _ _ _
      | exact ih2 _ _ _ _
      | exact secret_Repair.mono _ _ _
      | exact verditerlaw08_known.mono _
      | exact verditerref08_Repair.mono _ _ _
      | exact verditerref08_Same.mono _ _ _
      | exact LeO.none _
      | refine LeO.ite ?_ ?_
      | refine LeO.bind ?_ (fun _ => ?_)
theorem verditerlaw08_secretRepairs.mono : ∀ a0 a1 k, LeO (verditerlaw08_secretRepairs.f k a0 a1) (verditerlaw08_secretRepairs.f (k + 1) a0 a1) := by
  intro a0 a1 k
  obtain ⟨ih0, ih1, ih2⟩ := verditerlaw08_secretRepairs.mono_l k
  unfold verditerlaw08_secretRepairs.f
  repeat' first
      | (with_reducible exact ih0 _ _ _ _ _ _)
      | (with_reducible exact ih1 _ _ _)
      | (with_reducible exact ih2 _ _ _ _)
      | (with_reducible exact secret_Repair.mono _ _ _)
      | (with_reducible exact verditerlaw08_known.mono _)
      | (with_reducible exact verditerref08_Repair.mono _ _ _)
      | (with_reducible exact verditerref08_Same.mono _ _ _)
      | (with_reducible exact LeO.refl _)
      | (with_reducible exact LeO.none _)
      | (with_reducible refine LeO.ite ?_ ?_)
      | (with_reducible refine LeO.bind ?_ (fun _ => ?_))
      | exact ih0 _ _ _ _ _ _
      | exact ih1 _ _ _
      | exact ih2 _ _ _ _
      | exact secret_Repair.mono _ _ _
      | exact verditerlaw08_known.mono _
      | exact verditerref08_Repair.mono _ _ _
      | exact verditerref08_Same.mono _ _ _
      | exact LeO.none _
      | refine LeO.ite ?_ ?_
      | refine LeO.bind ?_ (fun _ => ?_)
set_option maxHeartbeats 8000000 in
set_option maxRecDepth 100000 in
theorem verditerlaw08_secretRepairs.calls (k : Nat) (A0 : Option Addr) (c0 : Nat) (l0 : List (S43)) (a1 : Int) (r : Bool) (w : World) (hr0 : Kd.C k43 w A0 l0.length l0) (hc0 : l0.length ≤ c0) (h : verditerlaw08_secretRepairs.f k l0 a1 = some r) :
    Calls Try.prog 36 #[.slice A0 l0.length c0, .int .i64 a1] w fun e w' => e = .returned (.bool r) ∧ Below w.heap.size w w' := by
  have HR0 := Aside0.mk hr0
  have HC0 := Aside0.mk hc0
  clear hr0 hc0
  have HB := Aside0.mk (Below.refl w.heap.size w)
  have H : ((verditerlaw08_Long.f l0).bind fun t656 => (if t656 = true then ((verditerlaw08_known.f k).bind fun t657 => (some t657)) else ((some (([] : List (S43)) : List (S43))).bind fun y658 => (if y658.length + l0.length < 8796093022208 then ((some (y658 ++ l0 : List (S43))).bind fun y661 => ((verditerref08_Repair.f k l0 a1).bind fun bt664 => ((secret_Repair.f k y661 a1).bind fun bt669 => (if (bt669.2.1 != bt664.2.1) = true then (verditerlaw08_secretRepairs.j0 k l0 a1 y661 bt669.1 bt669.2.1 true) else (if bt669.2.2 = bt664.2.2 then ((verditerref08_Same.f k bt669.1 bt664.1).bind fun t674 => (verditerlaw08_secretRepairs.j0 k l0 a1 y661 bt669.1 bt669.2.1 (!t674))) else (verditerlaw08_secretRepairs.j0 k l0 a1 y661 bt669.1 bt669.2.1 true)))))) else (none))))) = some r := h
  clear h
  replace H := Option.bind_eq_some_iff.mp H
  obtain ⟨t656, A30, H⟩ := H
  replace H : (if t656 = true then ((verditerlaw08_known.f k).bind fun t657 => (some t657)) else ((some (([] : List (S43)) : List (S43))).bind fun y658 => (if y658.length + l0.length < 8796093022208 then ((some (y658 ++ l0 : List (S43))).bind fun y661 => ((verditerref08_Repair.f k l0 a1).bind fun bt664 => ((secret_Repair.f k y661 a1).bind fun bt669 => (if (bt669.2.1 != bt664.2.1) = true then (verditerlaw08_secretRepairs.j0 k l0 a1 y661 bt669.1 bt669.2.1 true) else (if bt669.2.2 = bt664.2.2 then ((verditerref08_Same.f k bt669.1 bt664.1).bind fun t674 => (verditerlaw08_secretRepairs.j0 k l0 a1 y661 bt669.1 bt669.2.1 (!t674))) else (verditerlaw08_secretRepairs.j0 k l0 a1 y661 bt669.1 bt669.2.1 true)))))) else (none)))) = some r := H
  have A3 := Aside0.mk A30
  clear A30
  by_cases c4 : t656 = true
  · subst c4
    have H1 : ((verditerlaw08_known.f k).bind fun t657 => (some t657)) = some r := by rw [if_pos rfl] at H; exact H
    clear H
    have H := H1
    clear H1
    replace H := Option.bind_eq_some_iff.mp H
    obtain ⟨t657, A50, H⟩ := H
    replace H : (some t657) = some r := H
    have A5 := Aside0.mk A50
    clear A50
    obtain rfl := Option.some.inj H
    go_enter Try.func36, Try.ntmps36
    go_wp2_with (first | ((with_reducible refine gate_callee (f := 39) rfl ?_); refine goesL_ (some 16) rfl rfl Try.func39 (by kernel_rfl) rfl #[.slice A0 l0.length c0] rfl (by (try simp only [List.map_toArray, List.map_cons, List.map_nil]); first | done | rfl | (simp only [List.length_drop, List.length_take]; rfl)) ?_; (with_reducible refine (verditerlaw08_Long.calls _ _ l0 true _ ?side1 ?side2 A3.out).mono ?_); (case side1 => repeat (first | exact HR0.out | (with_reducible refine Kd.C_alloc ?_ _) | (with_reducible refine Kd.C_drewN ?_ _) | (with_reducible refine Kd.C_drew ?_))); (case side2 => exact HC0.out); rintro e w' ⟨rfl, ⟨nd, rfl⟩⟩; refine ⟨_, rfl, ?_⟩) | ((with_reducible refine gate_callee (f := 40) rfl ?_); refine goesL_ (some 17) rfl rfl Try.func40 (by kernel_rfl) rfl #[] rfl (by (try simp only [List.map_toArray, List.map_cons, List.map_nil]); first | done | rfl | (simp only [List.length_drop, List.length_take]; rfl)) ?_; (with_reducible refine (verditerlaw08_known.calls k  t657 _ A5.out).mono ?_); rintro e w6 ⟨rfl, hb⟩; refine ⟨_, rfl, ?_⟩; have n0_ := Aside0.mk (below_step (by repeat (first | (with_reducible first | exact HB.out | apply below_alloc | apply pw_below_drewN | apply below_drew1) | exact HB.out)) hb); clear HB; have HB := n0_; clear n0_; (try clear hb); (try clear hb2); (try clear hk); (try clear hi)))
    go_ret
    exact ⟨by first | rfl | (simp [errW_none, errW_some] <;> rfl) | (simp [*, errW_none, errW_some] <;> rfl), by repeat (first | (with_reducible first | exact HB.out | apply below_alloc | apply pw_below_drewN | apply below_drew1) | exact HB.out)⟩
  · replace c4 := Bool.eq_false_iff.mpr c4
    subst c4
    have H1 : ((some (([] : List (S43)) : List (S43))).bind fun y658 => (if y658.length + l0.length < 8796093022208 then ((some (y658 ++ l0 : List (S43))).bind fun y661 => ((verditerref08_Repair.f k l0 a1).bind fun bt664 => ((secret_Repair.f k y661 a1).bind fun bt669 => (if (bt669.2.1 != bt664.2.1) = true then (verditerlaw08_secretRepairs.j0 k l0 a1 y661 bt669.1 bt669.2.1 true) else (if bt669.2.2 = bt664.2.2 then ((verditerref08_Same.f k bt669.1 bt664.1).bind fun t674 => (verditerlaw08_secretRepairs.j0 k l0 a1 y661 bt669.1 bt669.2.1 (!t674))) else (verditerlaw08_secretRepairs.j0 k l0 a1 y661 bt669.1 bt669.2.1 true)))))) else (none))) = some r := by rw [if_neg (show ¬ (false = true) by decide)] at H; exact H
    clear H
    have H := H1
    clear H1
    obtain ⟨y658, hy658⟩ : ∃ y_ : List (S43), y_ = (([] : List (S43))) := ⟨_, rfl⟩
    replace H : (if y658.length + l0.length < 8796093022208 then ((some (y658 ++ l0 : List (S43))).bind fun y661 => ((verditerref08_Repair.f k l0 a1).bind fun bt664 => ((secret_Repair.f k y661 a1).bind fun bt669 => (if (bt669.2.1 != bt664.2.1) = true then (verditerlaw08_secretRepairs.j0 k l0 a1 y661 bt669.1 bt669.2.1 true) else (if bt669.2.2 = bt664.2.2 then ((verditerref08_Same.f k bt669.1 bt664.1).bind fun t674 => (verditerlaw08_secretRepairs.j0 k l0 a1 y661 bt669.1 bt669.2.1 (!t674))) else (verditerlaw08_secretRepairs.j0 k l0 a1 y661 bt669.1 bt669.2.1 true)))))) else (none)) = some r := by first | (rw [hy658]; with_reducible exact H) | (have H2_ := (Option.bind_some _ _).symm.trans H; rw [hy658]; with_reducible exact H2_) | (have H2_ := (Option.bind_some _ _).symm.trans H; with_reducible exact H2_) | with_reducible exact H | (rw [hy658]; exact H) | exact H
    have Ny658 := Aside0.mk hy658
    clear hy658
    by_cases c7 : y658.length + l0.length < 8796093022208
    · rw [if_pos c7] at H
      have LMc7 := Aside0.mk c7
      clear c7
      obtain ⟨y661, hy661⟩ : ∃ y_ : List (S43), y_ = (y658 ++ l0) := ⟨_, rfl⟩
      replace H : ((verditerref08_Repair.f k l0 a1).bind fun bt664 => ((secret_Repair.f k y661 a1).bind fun bt669 => (if (bt669.2.1 != bt664.2.1) = true then (verditerlaw08_secretRepairs.j0 k l0 a1 y661 bt669.1 bt669.2.1 true) else (if bt669.2.2 = bt664.2.2 then ((verditerref08_Same.f k bt669.1 bt664.1).bind fun t674 => (verditerlaw08_secretRepairs.j0 k l0 a1 y661 bt669.1 bt669.2.1 (!t674))) else (verditerlaw08_secretRepairs.j0 k l0 a1 y661 bt669.1 bt669.2.1 true))))) = some r := by first | (rw [hy661]; with_reducible exact H) | (have H2_ := (Option.bind_some _ _).symm.trans H; rw [hy661]; with_reducible exact H2_) | (have H2_ := (Option.bind_some _ _).symm.trans H; with_reducible exact H2_) | with_reducible exact H | (rw [hy661]; exact H) | exact H
      have Ny661 := Aside0.mk hy661
      clear hy661
      replace H := Option.bind_eq_some_iff.mp H
      obtain ⟨⟨t664, t665, t666⟩, A80, H⟩ := H
      replace H : ((secret_Repair.f k y661 a1).bind fun bt669 => (if (bt669.2.1 != t665) = true then (verditerlaw08_secretRepairs.j0 k l0 a1 y661 bt669.1 bt669.2.1 true) else (if bt669.2.2 = t666 then ((verditerref08_Same.f k bt669.1 t664).bind fun t674 => (verditerlaw08_secretRepairs.j0 k l0 a1 y661 bt669.1 bt669.2.1 (!t674))) else (verditerlaw08_secretRepairs.j0 k l0 a1 y661 bt669.1 bt669.2.1 true)))) = some r := H
      have A8 := Aside0.mk A80
      clear A80
      replace H := Option.bind_eq_some_iff.mp H
      obtain ⟨⟨t669, t670, t671⟩, A90, H⟩ := H
      replace H : (if (t670 != t665) = true then (verditerlaw08_secretRepairs.j0 k l0 a1 y661 t669 t670 true) else (if t671 = t666 then ((verditerref08_Same.f k t669 t664).bind fun t674 => (verditerlaw08_secretRepairs.j0 k l0 a1 y661 t669 t670 (!t674))) else (verditerlaw08_secretRepairs.j0 k l0 a1 y661 t669 t670 true))) = some r := H
      have A9 := Aside0.mk A90
      clear A90
      have HC10 := Aside0.mk H
      clear H
      go_enter Try.func36, Try.ntmps36
      go_upto_region 6 with (first | ((with_reducible refine gate_callee (f := 39) rfl ?_); refine goesL_ (some 16) rfl rfl Try.func39 (by kernel_rfl) rfl #[.slice A0 l0.length c0] rfl (by (try simp only [List.map_toArray, List.map_cons, List.map_nil]); first | done | rfl | (simp only [List.length_drop, List.length_take]; rfl)) ?_; (with_reducible refine (verditerlaw08_Long.calls _ _ l0 false _ ?side1 ?side2 A3.out).mono ?_); (case side1 => repeat (first | exact HR0.out | (with_reducible refine Kd.C_alloc ?_ _) | (with_reducible refine Kd.C_drewN ?_ _) | (with_reducible refine Kd.C_drew ?_))); (case side2 => exact HC0.out); rintro e w' ⟨rfl, ⟨nd, rfl⟩⟩; refine ⟨_, rfl, ?_⟩) | ((with_reducible refine gate_dst (N := 18) rfl ?_); refine Kd.R_lit k43 _ 43 ?hg (N := 18) ?hd (xs := ([] : List (S43))) (inner := []) (ok := fun _ => True) (okp := fun _ => True) ?hr ?hp (fun _ hk => hk) trivial (Below.refl _ _) (Nat.le_refl _) (by simp) ?_; (case hd => rfl); (case hg => rfl); (case hr => first | (go_simp; done) | (go_simp; rfl)); (case hp => exact (Reps.none _ _)); intro v659 w11 ho12 hb hg_ hnew_; clear hg_ hnew_; (first | rw [← Ny658.out] at ho12 | (simp only [Int.reduceToNat] at ho12; rw [← Ny658.out] at ho12)); have n0_ := Aside0.mk (Kd.R_lower ho12 (below_size (by repeat (first | (with_reducible first | exact HB.out | apply below_alloc | apply pw_below_drewN | apply below_drew1) | exact HB.out)))); have n1_ := Aside0.mk (below_step (by repeat (first | (with_reducible first | exact HB.out | apply below_alloc | apply pw_below_drewN | apply below_drew1) | exact HB.out)) hb); clear HB; have HO660 := n0_; have HB := n1_; clear n0_ n1_; clear hb ho12) | ((with_reducible refine gate_builtin (b := .append) (xs := #[.tmp 18, .tmp 19]) rfl ?_); at_builtin; refine Kd.R_append_rows k43 (w0 := w) w.heap.size rfl (.tmp 18) (.tmp 19) 22 43 (.agg #[(.int .i64 0), (.int .i64 0)]) 16 rfl Try.underlying22 info43 rfl (by decide) (by omega) v659 y658 l0 _ _ _ (fun _ => True) (fun _ => False) rfl rfl ?aO ?aR (fun _ _ h => h) (fun _ h => h.elim) ?aF ?aB ?aS ?aL ?_; (case aR => repeat (first | exact (Kd.C_below HR0.out HB.out) | (with_reducible refine Kd.C_alloc ?_ _) | (with_reducible refine Kd.C_drewN ?_ _) | (with_reducible refine Kd.C_drew ?_))); (case aB => exact (by repeat (first | (with_reducible first | exact HB.out | apply below_alloc | apply pw_below_drewN | apply below_drew1) | exact HB.out))); (case aF => exact (fun _ _ => trivial)); (case aO => exact (by (with_reducible repeat (first | apply Kd.R_alloc | apply Kd.R_drewN | apply Kd.R_drew)); exact HO660.out)); (case aS => exact (below_size (by repeat (first | (with_reducible first | exact HB.out | apply below_alloc | apply pw_below_drewN | apply below_drew1) | exact HB.out)))); (case aL => have := LMc7.out; omega); intro v662 w13 ho hb hg hat; rw [← Ny661.out] at ho; have n0_ := Aside0.mk (hb); have n1_ := Aside0.mk (ho); clear HB; clear HO660; have HB := n0_; have HO663 := n1_; clear n0_ n1_; clear ho hb hg hat) | ((with_reducible refine gate_callee (f := 71) rfl ?_); refine goesL_ (some 24) rfl rfl Try.func71 (by kernel_rfl) rfl #[.slice A0 l0.length c0, .int .i64 a1] rfl (by (try simp only [List.map_toArray, List.map_cons, List.map_nil]); first | done | rfl | (simp only [List.length_drop, List.length_take]; rfl)) ?_; (with_reducible refine (verditerref08_Repair.calls k _ _ l0 a1 t664 t665 t666 _ ?side1 ?side2 A8.out).mono ?_); (case side1 => repeat (first | exact (Kd.C_below HR0.out HB.out) | (with_reducible refine Kd.C_alloc ?_ _) | (with_reducible refine Kd.C_drewN ?_ _) | (with_reducible refine Kd.C_drew ?_))); (case side2 => exact HC0.out); rintro e w14 ⟨v667, rfl, ho0, hb⟩; refine ⟨_, rfl, ?_⟩; have n0_ := Aside0.mk (Kd.R_elder' (by (with_reducible repeat (first | apply Kd.R_alloc | apply Kd.R_drewN | apply Kd.R_drew)); exact HO663.out) (Kd.R_base ho0) hb); have n1_ := Aside0.mk (Kd.R_lower (Kd.R_new' ho0 (Kd.R_lt (by (with_reducible repeat (first | apply Kd.R_alloc | apply Kd.R_drewN | apply Kd.R_drew)); exact HO663.out))) (below_size (by repeat (first | (with_reducible first | exact HB.out | apply below_alloc | apply pw_below_drewN | apply below_drew1) | exact HB.out)))); have n2_ := Aside0.mk (below_step (by repeat (first | (with_reducible first | exact HB.out | apply below_alloc | apply pw_below_drewN | apply below_drew1) | exact HB.out)) hb); clear HO663; clear HB; have HO663 := n0_; have HO668 := n1_; have HB := n2_; clear n0_ n1_ n2_; (try clear hb); (try clear hb2); (try clear hk); (try clear hi); (try clear ho0); obtain ⟨Ao15, co15, eo15⟩ := Kd.R_slice HO663.out; subst eo15) | ((with_reducible refine gate_callee (f := 72) rfl ?_); refine goesL_ (some 31) rfl rfl Try.func72 (by kernel_rfl) rfl #[.slice Ao15 y661.length co15, .int .i64 a1] rfl (by (try simp only [List.map_toArray, List.map_cons, List.map_nil]); first | done | rfl | (simp only [List.length_drop, List.length_take]; rfl)) ?_; (with_reducible refine (secret_Repair.calls k _ _ y661 a1 t669 t670 t671 _ ?side1 ?side2 A9.out).mono ?_); (case side1 => repeat (first | exact (Kd.R_reads' HO663.out).2.2 | (with_reducible refine Kd.C_alloc ?_ _) | (with_reducible refine Kd.C_drewN ?_ _) | (with_reducible refine Kd.C_drew ?_))); (case side2 => exact (Kd.R_reads' HO663.out).2.1); rintro e w16 ⟨v672, rfl, ho0, hb⟩; refine ⟨_, rfl, ?_⟩; have n0_ := Aside0.mk (Kd.R_elder' (by (with_reducible repeat (first | apply Kd.R_alloc | apply Kd.R_drewN | apply Kd.R_drew)); exact HO663.out) (Kd.R_base ho0) hb); have n1_ := Aside0.mk (Kd.R_elder' (by (with_reducible repeat (first | apply Kd.R_alloc | apply Kd.R_drewN | apply Kd.R_drew)); exact HO668.out) (Kd.R_base ho0) hb); have n2_ := Aside0.mk (Kd.R_lower (Kd.R_new' (Kd.R_new' ho0 (Kd.R_lt (by (with_reducible repeat (first | apply Kd.R_alloc | apply Kd.R_drewN | apply Kd.R_drew)); exact HO663.out))) (Kd.R_lt (by (with_reducible repeat (first | apply Kd.R_alloc | apply Kd.R_drewN | apply Kd.R_drew)); exact HO668.out))) (below_size (by repeat (first | (with_reducible first | exact HB.out | apply below_alloc | apply pw_below_drewN | apply below_drew1) | exact HB.out)))); have n3_ := Aside0.mk (below_step (by repeat (first | (with_reducible first | exact HB.out | apply below_alloc | apply pw_below_drewN | apply below_drew1) | exact HB.out)) hb); clear HO663; clear HO668; clear HB; have HO663 := n0_; have HO668 := n1_; have HO673 := n2_; have HB := n3_; clear n0_ n1_ n2_ n3_; (try clear hb); (try clear hb2); (try clear hk); (try clear hi); (try clear ho0)))
      (try simp only [Act.put, List.setIfInBounds_toArray, List.set_cons_zero, List.set_cons_succ])
      go_cut [48] (fun v48 wc => ∃ (kq : Nat) (x48_9 : Bool), v48 = .bool x48_9 ∧ Aside0 (verditerlaw08_secretRepairs.j0 kq l0 a1 y661 t669 t670 x48_9 = some r) ∧ Aside0 (kq ≤ k) ∧ Aside0 (Kd.R k43 43 wc w.heap.size (fun k_ => some k_ ≠ (v672 : Value).ownBlock) (.slice Ao15 y661.length co15) y661) ∧ Aside0 (Kd.R k43 43 wc w.heap.size (fun k_ => some k_ ≠ ((.slice Ao15 y661.length co15) : Value).ownBlock) v672 t669) ∧ Aside0 (Below w.heap.size w wc))
      case first =>
        have H := HC10.out
        clear HC10
        by_cases c17 : (t670 != t665) = true
        · rw [if_pos c17] at H
          have c17b0 : (t670 != t665) = true := c17
          (try (have c17b1 : decide (t670 = t665) = false := by simpa using c17))
          (try (have c17b2 : (t670 == t665) = false := by simpa using c17))
          (try (have c17b3 : ¬ (t670 = t665) := by simpa using c17))
          clear c17
          (first | rw [c17b0] | (simp only [i64_w, i32_w]; rw [c17b0]) | skip)
          have H' := Aside0.mk H
          clear H
          go_wp2
          go_meet
          case rel => exact ⟨_, (true), (by first | rfl | (simp; done) | (simp [*]; done)), H', ⟨by first | omega | exact Nat.le_refl _⟩, ⟨by (with_reducible repeat (first | apply Kd.R_alloc | apply Kd.R_drewN | apply Kd.R_drew)); exact Kd.R_mono HO663.out (fun _ hk => hk.2)⟩, ⟨by (with_reducible repeat (first | apply Kd.R_alloc | apply Kd.R_drewN | apply Kd.R_drew)); exact Kd.R_mono HO673.out (fun _ hk => hk.1.2)⟩, ⟨by repeat (first | (with_reducible first | exact HB.out | apply below_alloc | apply pw_below_drewN | apply below_drew1) | exact HB.out)⟩⟩
        · rw [if_neg c17] at H
          have c17b0 : (t670 != t665) = false := by simpa using c17
          (try (have c17b1 : decide (t670 = t665) = true := by simpa using c17))
          (try (have c17b2 : (t670 == t665) = true := by simpa using c17))
          clear c17
          (first | rw [c17b0] | (simp only [i64_w, i32_w]; rw [c17b0]) | skip)
          by_cases c18 : t671 = t666
          · rw [if_pos c18] at H
            have c18b0 : (t671 == t666) = true := beq_iff_eq.mpr c18
            have c18b1 : (t671 != t666) = false := bne_eq_false_iff_eq.mpr c18
            clear c18
            replace H := Option.bind_eq_some_iff.mp H
            obtain ⟨t674, A190, H⟩ := H
            replace H : (verditerlaw08_secretRepairs.j0 k l0 a1 y661 t669 t670 (!t674)) = some r := H
            have A19 := Aside0.mk A190
            clear A190
            have H' := Aside0.mk H
            clear H
            obtain ⟨Ao20, co20, eo20⟩ := Kd.R_slice HO673.out
            subst eo20
            obtain ⟨Ao21, co21, eo21⟩ := Kd.R_slice HO668.out
            subst eo21
            go_wp2_with (first | (go_at_call 52; (with_reducible refine (verditerref08_Same.calls k _ _ t669 _ _ t664 t674 _ ?side1 ?side2 ?side3 ?side4 A19.out).mono ?_); (case side1 => repeat (first | exact (Kd.R_reads' HO673.out).2.2 | (with_reducible refine Kd.C_alloc ?_ _) | (with_reducible refine Kd.C_drewN ?_ _) | (with_reducible refine Kd.C_drew ?_))); (case side2 => exact (Kd.R_reads' HO673.out).2.1); (case side3 => repeat (first | exact (Kd.R_reads' HO668.out).2.2 | (with_reducible refine Kd.C_alloc ?_ _) | (with_reducible refine Kd.C_drewN ?_ _) | (with_reducible refine Kd.C_drew ?_))); (case side4 => exact (Kd.R_reads' HO668.out).2.1); rintro e w' ⟨rfl, ⟨nd, rfl⟩⟩))
            go_meet
            case rel => exact ⟨_, (!t674), (by first | rfl | (simp; done) | (simp [*]; done)), H', ⟨by first | omega | exact Nat.le_refl _⟩, ⟨by (with_reducible repeat (first | apply Kd.R_alloc | apply Kd.R_drewN | apply Kd.R_drew)); exact Kd.R_mono HO663.out (fun _ hk => hk.2)⟩, ⟨by (with_reducible repeat (first | apply Kd.R_alloc | apply Kd.R_drewN | apply Kd.R_drew)); exact Kd.R_mono HO673.out (fun _ hk => hk.1.2)⟩, ⟨by repeat (first | (with_reducible first | exact HB.out | apply below_alloc | apply pw_below_drewN | apply below_drew1) | exact HB.out)⟩⟩
          · rw [if_neg c18] at H
            have c18b0 : (t671 == t666) = false := beq_eq_false_iff_ne.mpr c18
            have c18b1 : (t671 != t666) = true := bne_iff_ne.mpr c18
            have H' := Aside0.mk H
            clear H
            go_wp2
            go_meet
            case rel => exact ⟨_, (true), (by first | rfl | (simp; done) | (simp [*]; done)), H', ⟨by first | omega | exact Nat.le_refl _⟩, ⟨by (with_reducible repeat (first | apply Kd.R_alloc | apply Kd.R_drewN | apply Kd.R_drew)); exact Kd.R_mono HO663.out (fun _ hk => hk.2)⟩, ⟨by (with_reducible repeat (first | apply Kd.R_alloc | apply Kd.R_drewN | apply Kd.R_drew)); exact Kd.R_mono HO673.out (fun _ hk => hk.1.2)⟩, ⟨by repeat (first | (with_reducible first | exact HB.out | apply below_alloc | apply pw_below_drewN | apply below_drew1) | exact HB.out)⟩⟩
      case rest =>
        clear HC10
        try clear c1
        try clear p2
        try clear c3
        try clear c4
        try clear c7
        try clear c17
        try clear c17b0
        try clear c17b1
        try clear c17b2
        try clear c18
        try clear c18b0
        try clear c18b1
        obtain ⟨kq, x48_9, rfl, HA, HJ9, HO_5, HO_9, HB⟩ := hcut
        cases kq with
        | zero => exact absurd HA.out (by simp [verditerlaw08_secretRepairs.j0])
        | succ kj9 =>
          have H := HA.out
          clear HA
          simp only [verditerlaw08_secretRepairs.j0] at H
          by_cases c22 : x48_9 = true
          · subst c22
            have H1 : (some false) = some r := by rw [if_pos rfl] at H; exact H
            clear H
            have H := H1
            clear H1
            obtain rfl := Option.some.inj H
            go_wp2
            go_ret
            exact ⟨by first | rfl | (simp [errW_none, errW_some] <;> rfl) | (simp [*, errW_none, errW_some] <;> rfl), by repeat (first | (with_reducible first | exact HB.out | apply below_alloc | apply pw_below_drewN | apply below_drew1) | exact HB.out)⟩
          · replace c22 := Bool.eq_false_iff.mpr c22
            subst c22
            have H1 : (if t670 = true then ((secret_LieOn.f t669 a1).bind fun bt675 => (if bt675.2 = 0 then (if bt675.1 = true then (verditerlaw08_secretRepairs.j1 kj9 l0 y661 t669) else (some false)) else (some false))) else (verditerlaw08_secretRepairs.j1 kj9 l0 y661 t669)) = some r := by rw [if_neg (show ¬ (false = true) by decide)] at H; exact H
            clear H
            have H := H1
            clear H1
            have HC23 := Aside0.mk H
            clear H
            go_upto_if 49 with (fail)
            go_cut [] (fun wc => ∃ (kq : Nat), Aside0 (verditerlaw08_secretRepairs.j1 kq l0 y661 t669 = some r) ∧ Aside0 (kq ≤ kj9) ∧ Aside0 (Kd.R k43 43 wc w.heap.size (fun k_ => some k_ ≠ (v672 : Value).ownBlock) (.slice Ao15 y661.length co15) y661) ∧ Aside0 (Kd.R k43 43 wc w.heap.size (fun k_ => some k_ ≠ ((.slice Ao15 y661.length co15) : Value).ownBlock) v672 t669) ∧ Aside0 (Below w.heap.size w wc))
            case first =>
              have H := HC23.out
              clear HC23
              by_cases c24 : t670 = true
              · subst c24
                have H1 : ((secret_LieOn.f t669 a1).bind fun bt675 => (if bt675.2 = 0 then (if bt675.1 = true then (verditerlaw08_secretRepairs.j1 kj9 l0 y661 t669) else (some false)) else (some false))) = some r := by rw [if_pos rfl] at H; exact H
                clear H
                have H := H1
                clear H1
                replace H := Option.bind_eq_some_iff.mp H
                obtain ⟨⟨t675, t676⟩, A250, H⟩ := H
                replace H : (if t676 = 0 then (if t675 = true then (verditerlaw08_secretRepairs.j1 kj9 l0 y661 t669) else (some false)) else (some false)) = some r := H
                have A25 := Aside0.mk A250
                clear A250
                by_cases c26 : t676 = 0
                · rw [if_pos c26] at H
                  have c26b0 : (t676 == 0) = true := beq_iff_eq.mpr c26
                  have c26b1 : (t676 != 0) = false := bne_eq_false_iff_eq.mpr c26
                  clear c26
                  (first | rw [c26b0] | (simp only [i64_w, i32_w]; rw [c26b0]) | skip)
                  by_cases c27 : t675 = true
                  · subst c27
                    have H1 : (verditerlaw08_secretRepairs.j1 kj9 l0 y661 t669) = some r := by rw [if_pos rfl] at H; exact H
                    clear H
                    have H := H1
                    clear H1
                    have H' := Aside0.mk H
                    clear H
                    obtain ⟨Ao28, co28, eo28⟩ := Kd.R_slice HO_9.out
                    subst eo28
                    go_wp2_with (first | ((with_reducible refine gate_callee (f := 53) rfl ?_); refine goesL_ (some 53) rfl rfl Try.func53 (by kernel_rfl) rfl #[.slice Ao28 t669.length co28, .int .i64 a1] rfl (by (try simp only [List.map_toArray, List.map_cons, List.map_nil]); first | done | rfl | (simp only [List.length_drop, List.length_take]; rfl)) ?_; (with_reducible refine (secret_LieOn.calls _ _ t669 a1 true t676 _ ?side1 ?side2 A25.out).mono ?_); (case side1 => repeat (first | exact (Kd.R_reads' HO_9.out).2.2 | (with_reducible refine Kd.C_alloc ?_ _) | (with_reducible refine Kd.C_drewN ?_ _) | (with_reducible refine Kd.C_drew ?_))); (case side2 => exact (Kd.R_reads' HO_9.out).2.1); rintro e w29 ⟨rfl, hb⟩; refine ⟨_, rfl, ?_⟩; have n0_ := Aside0.mk (Kd.R_below (by (with_reducible repeat (first | apply Kd.R_alloc | apply Kd.R_drewN | apply Kd.R_drew)); exact HO_5.out) hb); have n1_ := Aside0.mk (Kd.R_below (by (with_reducible repeat (first | apply Kd.R_alloc | apply Kd.R_drewN | apply Kd.R_drew)); exact HO_9.out) hb); have n2_ := Aside0.mk (below_step (by repeat (first | (with_reducible first | exact HB.out | apply below_alloc | apply pw_below_drewN | apply below_drew1) | exact HB.out)) hb); clear HO_5; clear HO_9; clear HB; have HO_5 := n0_; have HO_9 := n1_; have HB := n2_; clear n0_ n1_ n2_; (try clear hb); (try clear hb2); (try clear hk); (try clear hi)))
                    go_meet
                    case rel => exact ⟨_, H', ⟨by have := HJ9.out; first | omega | exact Nat.le_refl _⟩, ⟨by (with_reducible repeat (first | apply Kd.R_alloc | apply Kd.R_drewN | apply Kd.R_drew)); exact HO_5.out⟩, ⟨by (with_reducible repeat (first | apply Kd.R_alloc | apply Kd.R_drewN | apply Kd.R_drew)); exact HO_9.out⟩, ⟨by repeat (first | (with_reducible first | exact HB.out | apply below_alloc | apply pw_below_drewN | apply below_drew1) | exact HB.out)⟩⟩
                  · replace c27 := Bool.eq_false_iff.mpr c27
                    subst c27
                    have H1 : (some false) = some r := by rw [if_neg (show ¬ (false = true) by decide)] at H; exact H
                    clear H
                    have H := H1
                    clear H1
                    obtain rfl := Option.some.inj H
                    obtain ⟨Ao30, co30, eo30⟩ := Kd.R_slice HO_9.out
                    subst eo30
                    go_wp2_with (first | ((with_reducible refine gate_callee (f := 53) rfl ?_); refine goesL_ (some 53) rfl rfl Try.func53 (by kernel_rfl) rfl #[.slice Ao30 t669.length co30, .int .i64 a1] rfl (by (try simp only [List.map_toArray, List.map_cons, List.map_nil]); first | done | rfl | (simp only [List.length_drop, List.length_take]; rfl)) ?_; (with_reducible refine (secret_LieOn.calls _ _ t669 a1 false t676 _ ?side1 ?side2 A25.out).mono ?_); (case side1 => repeat (first | exact (Kd.R_reads' HO_9.out).2.2 | (with_reducible refine Kd.C_alloc ?_ _) | (with_reducible refine Kd.C_drewN ?_ _) | (with_reducible refine Kd.C_drew ?_))); (case side2 => exact (Kd.R_reads' HO_9.out).2.1); rintro e w31 ⟨rfl, hb⟩; refine ⟨_, rfl, ?_⟩; have n0_ := Aside0.mk (Kd.R_below (by (with_reducible repeat (first | apply Kd.R_alloc | apply Kd.R_drewN | apply Kd.R_drew)); exact HO_5.out) hb); have n1_ := Aside0.mk (Kd.R_below (by (with_reducible repeat (first | apply Kd.R_alloc | apply Kd.R_drewN | apply Kd.R_drew)); exact HO_9.out) hb); have n2_ := Aside0.mk (below_step (by repeat (first | (with_reducible first | exact HB.out | apply below_alloc | apply pw_below_drewN | apply below_drew1) | exact HB.out)) hb); clear HO_5; clear HO_9; clear HB; have HO_5 := n0_; have HO_9 := n1_; have HB := n2_; clear n0_ n1_ n2_; (try clear hb); (try clear hb2); (try clear hk); (try clear hi)))
                    go_ret
                    exact ⟨by first | rfl | (simp [errW_none, errW_some] <;> rfl) | (simp [*, errW_none, errW_some] <;> rfl), by repeat (first | (with_reducible first | exact HB.out | apply below_alloc | apply pw_below_drewN | apply below_drew1) | exact HB.out)⟩
                · rw [if_neg c26] at H
                  have c26b0 : (t676 == 0) = false := beq_eq_false_iff_ne.mpr c26
                  have c26b1 : (t676 != 0) = true := bne_iff_ne.mpr c26
                  (first | rw [c26b0] | (simp only [i64_w, i32_w]; rw [c26b0]) | skip)
                  obtain rfl := Option.some.inj H
                  obtain ⟨Ao32, co32, eo32⟩ := Kd.R_slice HO_9.out
                  subst eo32
                  go_wp2_with (first | ((with_reducible refine gate_callee (f := 53) rfl ?_); refine goesL_ (some 53) rfl rfl Try.func53 (by kernel_rfl) rfl #[.slice Ao32 t669.length co32, .int .i64 a1] rfl (by (try simp only [List.map_toArray, List.map_cons, List.map_nil]); first | done | rfl | (simp only [List.length_drop, List.length_take]; rfl)) ?_; (with_reducible refine (secret_LieOn.calls _ _ t669 a1 t675 t676 _ ?side1 ?side2 A25.out).mono ?_); (case side1 => repeat (first | exact (Kd.R_reads' HO_9.out).2.2 | (with_reducible refine Kd.C_alloc ?_ _) | (with_reducible refine Kd.C_drewN ?_ _) | (with_reducible refine Kd.C_drew ?_))); (case side2 => exact (Kd.R_reads' HO_9.out).2.1); rintro e w33 ⟨rfl, hb⟩; refine ⟨_, rfl, ?_⟩; have n0_ := Aside0.mk (Kd.R_below (by (with_reducible repeat (first | apply Kd.R_alloc | apply Kd.R_drewN | apply Kd.R_drew)); exact HO_5.out) hb); have n1_ := Aside0.mk (Kd.R_below (by (with_reducible repeat (first | apply Kd.R_alloc | apply Kd.R_drewN | apply Kd.R_drew)); exact HO_9.out) hb); have n2_ := Aside0.mk (below_step (by repeat (first | (with_reducible first | exact HB.out | apply below_alloc | apply pw_below_drewN | apply below_drew1) | exact HB.out)) hb); clear HO_5; clear HO_9; clear HB; have HO_5 := n0_; have HO_9 := n1_; have HB := n2_; clear n0_ n1_ n2_; (try clear hb); (try clear hb2); (try clear hk); (try clear hi)))
                  go_ret
                  exact ⟨by first | rfl | (simp [errW_none, errW_some] <;> rfl) | (simp [*, errW_none, errW_some] <;> rfl), by repeat (first | (with_reducible first | exact HB.out | apply below_alloc | apply pw_below_drewN | apply below_drew1) | exact HB.out)⟩
              · replace c24 := Bool.eq_false_iff.mpr c24
                subst c24
                have H1 : (verditerlaw08_secretRepairs.j1 kj9 l0 y661 t669) = some r := by rw [if_neg (show ¬ (false = true) by decide)] at H; exact H
                clear H
                have H := H1
                clear H1
                have H' := Aside0.mk H
                clear H
                go_wp2
                go_meet
                case rel => exact ⟨_, H', ⟨by have := HJ9.out; first | omega | exact Nat.le_refl _⟩, ⟨by (with_reducible repeat (first | apply Kd.R_alloc | apply Kd.R_drewN | apply Kd.R_drew)); exact HO_5.out⟩, ⟨by (with_reducible repeat (first | apply Kd.R_alloc | apply Kd.R_drewN | apply Kd.R_drew)); exact HO_9.out⟩, ⟨by repeat (first | (with_reducible first | exact HB.out | apply below_alloc | apply pw_below_drewN | apply below_drew1) | exact HB.out)⟩⟩
            case rest =>
              clear HC23
              try clear c1
              try clear c2
              try clear p2
              try clear c3
              try clear c4
              try clear c5
              try clear c7
              try clear c17
              try clear c17b0
              try clear c17b1
              try clear c17b2
              try clear c18
              try clear c18b0
              try clear c18b1
              try clear c22
              try clear c24
              try clear c26
              try clear c26b0
              try clear c26b1
              try clear c27
              try clear p2
              obtain ⟨kq, HA, HJ22, HO_5, HO_9, HB⟩ := hcut
              cases kq with
              | zero => exact absurd HA.out (by simp [verditerlaw08_secretRepairs.j1])
              | succ kj22 =>
                have H := HA.out
                clear HA
                simp only [verditerlaw08_secretRepairs.j1] at H
                have H' := Aside0.mk H
                clear H
                go_wp2
                go_loopg [14] kj22 (fun kq v14 w' => ∃ (x9_3 : List (S43)) (x14_3 : Int), v14 = .int .i64 x14_3 ∧ Aside0 (verditerlaw08_secretRepairs.l0 kq l0 y661 x9_3 x14_3 = some r) ∧ Aside0 (kq ≤ kj22) ∧ Aside0 (Kd.R k43 43 w' w.heap.size (fun k_ => some k_ ≠ (v672 : Value).ownBlock) (.slice Ao15 y661.length co15) y661) ∧ Aside0 (Kd.R k43 43 w' w.heap.size (fun k_ => some k_ ≠ ((.slice Ao15 y661.length co15) : Value).ownBlock) v672 x9_3) ∧ Aside0 (Below w.heap.size w w'))
                case atStart => exact ⟨(t669), (0), (by first | rfl | (simp; done) | (simp [*]; done)), H', ⟨Nat.le_refl _⟩, ⟨by (with_reducible repeat (first | apply Kd.R_alloc | apply Kd.R_drewN | apply Kd.R_drew)); exact HO_5.out⟩, ⟨by (with_reducible repeat (first | apply Kd.R_alloc | apply Kd.R_drewN | apply Kd.R_drew)); exact HO_9.out⟩, ⟨by repeat (first | (with_reducible first | exact HB.out | apply below_alloc | apply pw_below_drewN | apply below_drew1) | exact HB.out)⟩⟩
                case round =>
                  clear H'
                  try clear c1
                  try clear c2
                  try clear p2
                  try clear c3
                  try clear c4
                  try clear c5
                  try clear c7
                  try clear c17
                  try clear c17b0
                  try clear c17b1
                  try clear c17b2
                  try clear c18
                  try clear c18b0
                  try clear c18b1
                  try clear c22
                  try clear c24
                  try clear c26
                  try clear c26b0
                  try clear c26b1
                  try clear c27
                  try clear p2
                  obtain ⟨x9_3, x14_3, rfl, HA, HK3, HO_5, HO_9, HB⟩ := hrel
                  cases gk with
                  | zero => exact absurd HA.out (by simp [verditerlaw08_secretRepairs.l0])
                  | succ k3 =>
                    have H := HA.out
                    clear HA
                    simp only [verditerlaw08_secretRepairs.l0] at H
                    by_cases c34 : x14_3 < (x9_3.length : Int)
                    · rw [if_pos c34] at H
                      have c34b0 : decide (x14_3 < (x9_3.length : Int)) = true := decide_eq_true c34
                      clear c34
                      by_cases c35 : 0 ≤ x14_3
                      · rw [if_pos c35] at H
                        have c35b0 : decide (0 ≤ x14_3) = true := decide_eq_true c35
                        clear c35
                        obtain ⟨y677, hy677⟩ : ∃ y_ : List (S43), y_ = (x9_3.set (x14_3 : Int).toNat (⟨(rd_T43 x9_3 x14_3).f0, (-1)⟩ : S43)) := ⟨_, rfl⟩
                        replace H : (verditerlaw08_secretRepairs.l0 k3 l0 y661 y677 (wrap64 (x14_3 + 1))) = some r := by first | (rw [hy677]; with_reducible exact H) | (have H2_ := (Option.bind_some _ _).symm.trans H; rw [hy677]; with_reducible exact H2_) | (have H2_ := (Option.bind_some _ _).symm.trans H; with_reducible exact H2_) | with_reducible exact H | (rw [hy677]; exact H) | exact H
                        have Ny677 := Aside0.mk hy677
                        clear hy677
                        have H' := Aside0.mk H
                        clear H
                        obtain ⟨Ao37, co37, eo37⟩ := Kd.R_slice HO_9.out
                        subst eo37
                        have p36 : 0 ≤ (x14_3 : Int) := of_decide_eq_true (by first | (with_reducible assumption) | assumption)
                        have q36 : (x14_3 : Int) < ((x9_3.length : Int) : Int) := of_decide_eq_true (by first | (with_reducible assumption) | assumption)
                        obtain ⟨go36, co36, eo36, gb36, gl36, cl36, HG36⟩ := Kd.R_form HO_9.out (by omega)
                        (first | cases eo36 | (injection eo36 with ea_ en_ ec_; (first | subst ea_ | (injection ea_ with ea_; subst ea_)); subst ec_; clear en_))
                        have GB36 := Aside0.mk gb36
                        have GG36 := Aside0.mk HG36
                        clear gb36 gl36 HG36
                        obtain ⟨ce36, hcl36, hM36, hcc36, hfr36⟩ := Kd.R_elem HO_9.out z43 (x14_3 : Int) p36 q36
                        obtain rfl := k43_openM hM36
                        have hx36_0 : wr.cell? ⟨go36, (x14_3 : Int).toNat * 2, none⟩ = some (.int .i64 ((rd_T43 x9_3 x14_3).f0)) := hcc36 0 _ rfl
                        have hx36_1 : wr.cell? ⟨go36, (x14_3 : Int).toNat * 2 + 1, none⟩ = some (.int .i64 ((rd_T43 x9_3 x14_3).f1)) := hcc36 1 _ rfl
                        have hf36_0 : wr.frozen? ⟨go36, (x14_3 : Int).toNat * 2, none⟩ = false := hfr36 0
                        have hf36_1 : wr.frozen? ⟨go36, (x14_3 : Int).toNat * 2 + 1, none⟩ = false := hfr36 1
                        clear hcl36 hcc36 hfr36 hM36
                        replace p36 := eq_true p36
                        replace q36 := eq_true q36
                        have HX38 := Aside0.mk (show Kd.R k43 43 wr w.heap.size (fun k_ => some k_ ≠ (.slice Ao15 y661.length co15 : Value).ownBlock) (.slice (some ⟨go36, 0, none⟩) x9_3.length co37) x9_3 from (by (with_reducible repeat (first | apply Kd.R_alloc | apply Kd.R_drewN | apply Kd.R_drew)); exact HO_9.out))
                        obtain ⟨ce38, hcl38, hM38, hcc38, hfr38⟩ := Kd.R_elem HX38.out z43 (x14_3 : Int) (of_decide_eq_true (by first | (with_reducible assumption) | assumption)) (by have h_ : (x14_3 : Int) < ((x9_3.length : Int) : Int) := of_decide_eq_true (by first | (with_reducible assumption) | assumption); first | exact h_ | (have e_ := (Kd.R_reads' HO_9.out).1; omega) | simpa using h_)
                        obtain rfl := k43_openM hM38
                        have HP38 := Kd.R_seg HX38.out (x14_3 : Int) (of_decide_eq_true (by first | (with_reducible assumption) | assumption)) (by have h_ : (x14_3 : Int) < ((x9_3.length : Int) : Int) := of_decide_eq_true (by first | (with_reducible assumption) | assumption); first | exact h_ | (have e_ := (Kd.R_reads' HO_9.out).1; omega) | simpa using h_) (seg := [.int .i64 (-1)]) (j := 1) hcl38 hcc38 (show 2 ≤ 2 from by decide) (x' := (⟨(rd_T43 x9_3 x14_3).f0, (-1)⟩ : S43)) (k43_mkM _ _ _ (⟨(rd_T43 x9_3 x14_3).f0, (-1)⟩ : S43) ) (fun _ hk => hk)
                        have hx38_1 := hcc38 1 _ rfl
                        (try simp only [show (k43).sz = 2 from rfl, Nat.mul_one, Nat.add_zero] at hx38_1)
                        have hf38_1 := hfr38 1
                        (try simp only [show (k43).sz = 2 from rfl, Nat.mul_one, Nat.add_zero] at hf38_1)
                        clear hcl38 hcc38 hfr38 hM38
                        go_wp2_with (first | ((with_reducible refine gate_store (t := 3) (p := 71) rfl ?_); refine store_event (t := 3) (p := 71) (v := ?vo_w39) (w1 := (wr.setCell ⟨go36, (x14_3 : Int).toNat * 2 + 1, none⟩ (.int .i64 (-1)))) ?hg ?ho ?hn ?hr ?_; (case ho => rfl); (case hg => rfl); (case hn => rfl); (case hr => first | (go_simp; done) | (go_simp; rfl)); intro w39 hw; have hg : wr.grownBy w39 (some go36) := (by rw [hw]; exact HP38.2); have hp_ : Kd.R k43 43 w39 w.heap.size (fun k_ => some k_ ≠ (.slice Ao15 y661.length co15 : Value).ownBlock) (.slice (some ⟨go36, 0, none⟩) x9_3.length co37) y677 := (by rw [hw, Ny677.out]; exact HP38.1); clear HP38; have n0_ := Aside0.mk (Kd.R_after (v := (.slice (some ⟨go36, 0, none⟩) x9_3.length co37)) (v1 := (.slice (some ⟨go36, 0, none⟩) x9_3.length co37)) (ok := (fun _ => True)) (by (with_reducible repeat (first | apply Kd.R_alloc | apply Kd.R_drewN | apply Kd.R_drew)); exact Kd.R_mono HO_5.out (fun _ hk => ⟨trivial, hk⟩)) hg (.inl rfl)); have n1_ := Aside0.mk (hp_); have n2_ := Aside0.mk ((by rw [hw]; exact below_set (HB.out) GB36.out : Below w.heap.size w w39)); clear HO_5; clear HO_9; clear HB; have HO_5 := n0_; have HO_9 := n1_; have HB := n2_; clear n0_ n1_ n2_; clear hg hw hp_))
                        go_roundg k3
                        case measure => have := HJ9.out; have := HJ22.out; have := HK3.out; omega
                        case rel => exact ⟨(y677), (wrap64 (x14_3 + 1)), (by first | rfl | (simp; done) | (simp [*]; done)), H', ⟨by have := HJ9.out; have := HJ22.out; have := HK3.out; omega⟩, ⟨by (with_reducible repeat (first | apply Kd.R_alloc | apply Kd.R_drewN | apply Kd.R_drew)); exact Kd.R_mono HO_5.out (fun _ hk => hk.2)⟩, ⟨by (with_reducible repeat (first | apply Kd.R_alloc | apply Kd.R_drewN | apply Kd.R_drew)); exact HO_9.out⟩, ⟨by repeat (first | (with_reducible first | exact HB.out | apply below_alloc | apply pw_below_drewN | apply below_drew1) | exact HB.out)⟩⟩
                      · rw [if_neg c35] at H
                        exact absurd H (by simp)
                    · rw [if_neg c34] at H
                      have c34b0 : decide (x14_3 < (x9_3.length : Int)) = false := decide_eq_false c34
                      clear c34
                      replace H := Option.bind_eq_some_iff.mp H
                      obtain ⟨t678, A400, H⟩ := H
                      replace H : (if t678 = true then ((verditerlaw08_known.f k3).bind fun t679 => (some t679)) else (some false)) = some r := H
                      have A40 := Aside0.mk A400
                      clear A400
                      by_cases c41 : t678 = true
                      · subst c41
                        have H1 : ((verditerlaw08_known.f k3).bind fun t679 => (some t679)) = some r := by rw [if_pos rfl] at H; exact H
                        clear H
                        have H := H1
                        clear H1
                        replace H := Option.bind_eq_some_iff.mp H
                        obtain ⟨t679, A420, H⟩ := H
                        replace H : (some t679) = some r := H
                        have A42 := Aside0.mk A420
                        clear A420
                        obtain rfl := Option.some.inj H
                        obtain ⟨Ao43, co43, eo43⟩ := Kd.R_slice HO_9.out
                        subst eo43
                        go_wp2_with (first | ((with_reducible refine gate_callee (f := 52) rfl ?_); refine goesL_ (some 74) rfl rfl Try.func52 (by kernel_rfl) rfl #[.slice Ao15 y661.length co15, .slice A0 l0.length c0] rfl (by (try simp only [List.map_toArray, List.map_cons, List.map_nil]); first | done | rfl | (simp only [List.length_drop, List.length_take]; rfl)) ?_; (with_reducible refine (verditerref08_Same.calls k3 _ _ y661 _ _ l0 true _ ?side1 ?side2 ?side3 ?side4 A40.out).mono ?_); (case side1 => repeat (first | exact (Kd.R_reads' HO_5.out).2.2 | (with_reducible refine Kd.C_alloc ?_ _) | (with_reducible refine Kd.C_drewN ?_ _) | (with_reducible refine Kd.C_drew ?_))); (case side2 => exact (Kd.R_reads' HO_5.out).2.1); (case side3 => repeat (first | exact (Kd.C_below HR0.out HB.out) | (with_reducible refine Kd.C_alloc ?_ _) | (with_reducible refine Kd.C_drewN ?_ _) | (with_reducible refine Kd.C_drew ?_))); (case side4 => exact HC0.out); rintro e w' ⟨rfl, ⟨nd, rfl⟩⟩; refine ⟨_, rfl, ?_⟩) | (go_at_call 40; (with_reducible refine (verditerlaw08_known.calls k3  t679 _ A42.out).mono ?_); rintro e w44 ⟨rfl, hb⟩; have n0_ := Aside0.mk (Kd.R_below (by (with_reducible repeat (first | apply Kd.R_alloc | apply Kd.R_drewN | apply Kd.R_drew)); exact HO_5.out) hb); have n1_ := Aside0.mk (Kd.R_below (by (with_reducible repeat (first | apply Kd.R_alloc | apply Kd.R_drewN | apply Kd.R_drew)); exact HO_9.out) hb); have n2_ := Aside0.mk (below_step (by repeat (first | (with_reducible first | exact HB.out | apply below_alloc | apply pw_below_drewN | apply below_drew1) | exact HB.out)) hb); clear HO_5; clear HO_9; clear HB; have HO_5 := n0_; have HO_9 := n1_; have HB := n2_; clear n0_ n1_ n2_; (try clear hb); (try clear hb2); (try clear hk); (try clear hi)))
                        go_ret
                        exact ⟨by first | rfl | (simp [errW_none, errW_some] <;> rfl) | (simp [*, errW_none, errW_some] <;> rfl), by repeat (first | (with_reducible first | exact HB.out | apply below_alloc | apply pw_below_drewN | apply below_drew1) | exact HB.out)⟩
                      · replace c41 := Bool.eq_false_iff.mpr c41
                        subst c41
                        have H1 : (some false) = some r := by rw [if_neg (show ¬ (false = true) by decide)] at H; exact H
                        clear H
                        have H := H1
                        clear H1
                        obtain rfl := Option.some.inj H
                        obtain ⟨Ao45, co45, eo45⟩ := Kd.R_slice HO_9.out
                        subst eo45
                        go_wp2_with (first | ((with_reducible refine gate_callee (f := 52) rfl ?_); refine goesL_ (some 74) rfl rfl Try.func52 (by kernel_rfl) rfl #[.slice Ao15 y661.length co15, .slice A0 l0.length c0] rfl (by (try simp only [List.map_toArray, List.map_cons, List.map_nil]); first | done | rfl | (simp only [List.length_drop, List.length_take]; rfl)) ?_; (with_reducible refine (verditerref08_Same.calls k3 _ _ y661 _ _ l0 false _ ?side1 ?side2 ?side3 ?side4 A40.out).mono ?_); (case side1 => repeat (first | exact (Kd.R_reads' HO_5.out).2.2 | (with_reducible refine Kd.C_alloc ?_ _) | (with_reducible refine Kd.C_drewN ?_ _) | (with_reducible refine Kd.C_drew ?_))); (case side2 => exact (Kd.R_reads' HO_5.out).2.1); (case side3 => repeat (first | exact (Kd.C_below HR0.out HB.out) | (with_reducible refine Kd.C_alloc ?_ _) | (with_reducible refine Kd.C_drewN ?_ _) | (with_reducible refine Kd.C_drew ?_))); (case side4 => exact HC0.out); rintro e w' ⟨rfl, ⟨nd, rfl⟩⟩; refine ⟨_, rfl, ?_⟩))
                        go_ret
                        exact ⟨by first | rfl | (simp [errW_none, errW_some] <;> rfl) | (simp [*, errW_none, errW_some] <;> rfl), by repeat (first | (with_reducible first | exact HB.out | apply below_alloc | apply pw_below_drewN | apply below_drew1) | exact HB.out)⟩
    · rw [if_neg c7] at H
      exact absurd H (by simp)

end Go.Proofs.Ythlbjdiicmojfaa.P

/-! Part Out16. -/
namespace Go.Proofs.Ythlbjdiicmojfaa.P
open Go.RowKit Go.Proofs.YthlbjdiicmojfaaW.PrintWords Go.Proofs.YthlbjdiicmojfaaW.PrintLast Go.Proofs.YthlbjdiicmojfaaW.PrintMore
set_option linter.unusedVariables false

set_option maxHeartbeats 2000000 in
set_option maxRecDepth 100000 in
theorem out16 (k : Nat) (A0 : Option Addr) (n0 : Nat) (zs0 : List S43) (x1 : Int) (w : World) (hr0 : Kd.C k43 w A0 zs0.length zs0) (hn0 : n0 ≤ zs0.length) (hl0 : zs0.length * 16 ≤ 140737488351232)
    (h : verditerlaw08_secretRepairs.f k (zs0.take n0) x1 = some true) :
    Calls Try.prog 16 #[.slice A0 n0 zs0.length, .int .i64 x1] w fun e w' => e = .returned (.bool true) ∧ Below w.heap.size w w' := by
  have hu43 := Try.underlying43
  have HR0 := Aside0.mk hr0
  have hnl0 : (zs0.take n0).length = n0 := by rw [List.length_take]; omega
  have HI := Aside0.mk (fun (w1 : World) (hb : Below w.heap.size w w1) => verditerlaw08_secretRepairs.calls k A0 zs0.length (zs0.take n0) x1 true w1 (Kd.C_take (Kd.C_below hr0 hb) hn0) (by omega) h)
  rw [hnl0] at HI
  have HK0 := Aside0.mk (keepParts A0 n0 zs0 w hr0 hn0 hl0)
  have HN0 := Aside0.mk hn0
  have HB := Aside0.mk (Below.refl w.heap.size w)
  clear h hr0 hnl0 hn0 hl0
  go_enter Try.func16, Try.ntmps16
  go_wp2_with fail
  with_reducible refine HK0.out.mono ?_
  rintro e w1 ⟨v, rfl, hv, hb⟩
  obtain ⟨B0, c0, rfl, hcc0, hc⟩ := Kd.R_reads hv
  have HC0 := Aside0.mk hc
  clear HB; have HB := Aside0.mk hb
  clear hb hc hv
  go_wp2_with fail
  with_reducible refine (HI.out w1 HB.out).mono ?_
  rintro e wi ⟨rfl, hb⟩
  have hcx := Kd.C_below HC0.out hb; clear HC0; have HC0 := Aside0.mk hcx; clear hcx
  have hbx := below_step HB.out hb; clear HB; have HB := Aside0.mk hbx; have HBI := Aside0.mk hbx; clear hbx hb
  go_wp2_with fail
  with_reducible refine (keptParts B0 c0 A0 n0 zs0 _ HC0.out (Kd.C_below HR0.out HB.out) HN0.out).mono ?_
  rintro e wk0 ⟨rfl, ⟨m0, rfl⟩⟩
  have hbx := pw_below_drewN HB.out m0; clear HB; have HB := Aside0.mk hbx; clear hbx
  go_wp2_with fail
  go_ret
  exact ⟨rfl, pw_below_drewN HBI.out _⟩
end Go.Proofs.Ythlbjdiicmojfaa.P

/-! Part Open. -/
namespace Go.Proofs.Ythlbjdiicmojfaa.P
open Go.RowKit Go.Proofs.YthlbjdiicmojfaaW.PrintWords Go.Proofs.YthlbjdiicmojfaaW.PrintLast Go.Proofs.YthlbjdiicmojfaaW.PrintMore
open Go.ChangeShapes Go.WideShapes Go.Deep
set_option linter.unusedVariables false

theorem open_intlist {H : Type} {enc : TypeId × Value → H} {W : World} {base : Nat} {held : Bool} {a : Option Addr} {len cap : Nat} {d : DataW H} {ps : List MemPlace} {ts : List TypeId} {ds : List (DataW H)} {j : Nat}
    (hsz : (DataW.weightsEach Try.prog ts ds).all (· ≤ reachBytes) = true) (ht : ts[j]? = some 26) (hd : ds[j]? = some d)
    (h : DataW.Trod enc Try.prog W base (fun _ => true) held 26 (.slice a len cap) d ps) :
    ∃ zs : List Int, cap = zs.length ∧ len ≤ zs.length ∧ Kd.C (Kd.int .i64) W a zs.length zs ∧ zs.length * 8 ≤ 140737488351232 ∧ ∀ z ∈ zs, (Lit.int .i64 z).wf = true := by
  obtain ⟨fuel, hf⟩ := h
  rcases open_ints Try.underlying26 Try.underlying3 (by kernel_rfl) hf with ⟨hcs, _⟩ | ⟨x, l, c, zs, hcs, _, hl, hm, hz, hx, hcell, hwz⟩
  · simp [Value.cells] at hcs
    obtain ⟨rfl, rfl, rfl⟩ := hcs
    exact ⟨[], rfl, Nat.le_refl _, Kd.C_nil _ _, by simp, by simp⟩
  · simp [Value.cells] at hcs
    obtain ⟨rfl, rfl, rfl⟩ := hcs
    simp only [if_true] at hz
    obtain ⟨hx, _⟩ := Prod.mk.inj hx
    subst hx
    have z := sized_slice hsz ht hd Try.underlying26
    have h1 : (lits (H := H) .i64 (zs.take len)).length + (lits (H := H) .i64 (zs.drop len)).length = zs.length := by
      simp [lits]
      omega
    rw [h1, show Try.prog.bytesOf 3 = 8 by kernel_rfl] at z
    refine ⟨zs, hz.symm, by omega, Kd.C_of_reads (enc := Value.int .i64) (d := (0 : Int)) (h1 := fun _ => rfl) ⟨rfl, by rw [hz]; simp only [maxLen] at hm; omega, fun _ => ⟨x, rfl, fun j hj => ?_⟩⟩, z, hwz⟩
    exact hcell j hj

theorem open_partlist {H : Type} {enc : TypeId × Value → H} {W : World} {base : Nat} {held : Bool} {a : Option Addr} {len cap : Nat} {d : DataW H} {ps : List MemPlace} {ts : List TypeId} {ds : List (DataW H)} {j : Nat}
    (hsz : (DataW.weightsEach Try.prog ts ds).all (· ≤ reachBytes) = true) (ht : ts[j]? = some 22) (hd : ds[j]? = some d)
    (h : DataW.Trod enc Try.prog W base (fun _ => true) held 22 (.slice a len cap) d ps) :
    ∃ zs : List S43, cap = zs.length ∧ len ≤ zs.length ∧ Kd.C k43 W a zs.length zs ∧ zs.length * 16 ≤ 140737488351232 ∧ ∀ z ∈ zs, (Lit.int .i64 z.f0).wf = true ∧ (Lit.int .i64 z.f1).wf = true := by
  obtain ⟨fuel, hf⟩ := h
  rcases open_slice_pairs Try.underlying22 Try.underlying43 (by kernel_rfl) rfl rfl (by kernel_rfl) (by kernel_rfl) hf with ⟨hcs, _⟩ | ⟨x, l, c, m, n, V0, V1, D0, D1, P0, P1, hcs, _, hl, hm, hmm, hx, hi⟩
  · simp [Value.cells] at hcs
    obtain ⟨rfl, rfl, rfl⟩ := hcs
    exact ⟨[], rfl, Nat.le_refl _, Kd.C_nil _ _, by simp, by simp⟩
  · simp [Value.cells] at hcs
    obtain ⟨rfl, rfl, rfl⟩ := hcs
    simp only [if_true] at hmm
    subst hmm
    obtain ⟨hx, _⟩ := Prod.mk.inj hx
    subst hx
    have z := sized_slice hsz ht hd Try.underlying22
    rw [show Try.prog.bytesOf 43 = 16 by kernel_rfl] at z
    simp only [List.length_map, List.length_range] at z
    rw [show len + (m - len) = m by omega] at z
    have key : ∀ i, i < m → ∃ p : S43, (W.cell? (x.add (i * 2)) = some (.int .i64 p.f0) ∧ W.cell? (x.add (i * 2 + 1)) = some (.int .i64 p.f1)) ∧ (Lit.int .i64 p.f0).wf = true ∧ (Lit.int .i64 p.f1).wf = true := by
      intro i him
      obtain ⟨g0, g1, g2, g3⟩ := hi i him
      obtain ⟨a0, e0, _, w0⟩ := DataW.trod_int Try.underlying3 g2
      obtain ⟨a1, e1, _, w1⟩ := DataW.trod_int Try.underlying3 g3
      simp only [List.cons.injEq, and_true] at e0 e1
      exact ⟨⟨a0, a1⟩, ⟨by rw [g0, e0], by rw [g1, e1]⟩, w0, w1⟩
    haveI : Inhabited S43 := ⟨z43⟩
    obtain ⟨q, hq⟩ := choose_lt key
    have hlen : ((List.range m).map q).length = m := by simp
    refine ⟨(List.range m).map q, hlen.symm, by rw [hlen]; exact hl, ⟨rfl, by rw [hlen]; simp only [maxLen] at hm; omega, fun _ => ⟨x, rfl, fun i p hp => ?_⟩⟩, by rw [hlen]; exact z, ?_⟩
    · obtain ⟨him, hpe⟩ := List.getElem?_eq_some_iff.1 hp
      rw [hlen] at him
      simp only [List.getElem_map, List.getElem_range] at hpe
      subst hpe
      refine ⟨[.int .i64 (q i).f0, .int .i64 (q i).f1], rfl, k43_mk _ _, fun j u hu => ?_⟩
      match j, hu with
      | 0, hu => simp at hu; subst hu; exact (hq i him).1.1
      | 1, hu => simp at hu; subst hu; exact (hq i him).1.2
    · intro p hp
      obtain ⟨i, him, rfl⟩ := List.mem_map.1 hp
      exact (hq i (List.mem_range.1 him)).2
end Go.Proofs.Ythlbjdiicmojfaa.P

/-! Part Alg. -/
namespace Ply
theorem inv_ex : ∀ a : Fin 251, a ≠ 0 → ∃ b, a * b = 1 := by
  have h : ∀ a : Fin 251, a ≠ 0 → a * a^249 = 1 := by decide +kernel
  exact fun a ha => ⟨_, h a ha⟩
theorem nzd (a b : Fin 251) (h : a * b = 0) (ha : a ≠ 0) : b = 0 := by
  obtain ⟨c, hc⟩ := inv_ex a ha
  have : b = (a * c) * b := by rw [hc]; grind
  have h2 : a * c * b = c * (a * b) := by grind
  rw [this, h2, h]; grind
def ev : List (Fin 251) → Fin 251 → Fin 251
  | [], _ => 0
  | c :: q, x => c + x * ev q x
def dv (a : Fin 251) : List (Fin 251) → List (Fin 251)
  | [] => []
  | [_] => []
  | _ :: c :: q => ev (c :: q) a :: dv a (c :: q)
theorem ev_dv (a x : Fin 251) : ∀ p, ev p x = ev p a + (x - a) * ev (dv a p) x
  | [] => by simp only [ev, dv]; grind
  | [c] => by simp only [ev, dv]; grind
  | d :: c :: q => by
    have ih := ev_dv a x (c :: q)
    simp only [dv, ev] at ih ⊢
    generalize ev (dv a (c :: q)) x = t at *
    generalize ev q a = u at *
    generalize ev q x = v at *
    grind
theorem len_dv (a : Fin 251) : ∀ p, (dv a p).length = p.length - 1
  | [] => rfl
  | [_] => rfl
  | _ :: c :: q => by
    have ih := len_dv a (c :: q)
    simp only [dv, List.length_cons] at ih ⊢
    omega
theorem dv_zero (a : Fin 251) : ∀ p, (∀ c ∈ dv a p, c = 0) → ev p a = 0 → ∀ c ∈ p, c = 0
  | [], _, _ => by simp
  | [c], _, h => by
    simp only [ev] at h
    have h2 : c = 0 := by grind
    simp [h2]
  | d :: c :: q, hz, h => by
    simp only [dv, List.mem_cons, forall_eq_or_imp] at hz
    have h1 : d = 0 := by
      have h' : d + a * ev (c :: q) a = 0 := h
      rw [hz.1] at h'; grind
    have ih := dv_zero a (c :: q) hz.2 hz.1
    intro x hx
    rcases List.mem_cons.1 hx with rfl | hx
    · exact h1
    · exact ih x hx
theorem roots (n : Nat) : ∀ (p xs : List (Fin 251)), p.length = n → xs.Nodup → n ≤ xs.length → (∀ x ∈ xs, ev p x = 0) → ∀ c ∈ p, c = 0 := by
  induction n with
  | zero => intro p xs hp _ _ _; rw [List.length_eq_zero_iff.1 hp]; simp
  | succ n ih =>
    intro p xs hp hn hl hz
    cases xs with
    | nil => simp at hl
    | cons a xs =>
      have ha := hz a (by simp)
      refine dv_zero a p (ih (dv a p) xs (by rw [len_dv, hp]; rfl) (List.nodup_cons.1 hn).2 (by simp at hl; omega) ?_) ha
      intro x hx
      have h1 := ev_dv a x p
      rw [hz x (by simp [hx]), ha] at h1
      have hne : x - a ≠ 0 := by
        intro e
        have : x = a := by
          have : x = (x - a) + a := by grind
          rw [this, e]; grind
        rw [this] at hx; exact (List.nodup_cons.1 hn).1 hx
      refine nzd (x - a) _ ?_ hne
      generalize ev (dv a p) x = t at *
      grind
theorem ev_sub : ∀ (p q : List (Fin 251)) (x : Fin 251), p.length = q.length → ev (List.zipWith (fun a b => a - b) p q) x = ev p x - ev q x
  | [], [], x, _ => by simp [ev]
  | a :: p, b :: q, x, h => by
    have ih := ev_sub p q x (by simpa using h)
    simp only [List.zipWith_cons_cons, ev, ih]
    grind
theorem sub_zero_eq : ∀ (p q : List (Fin 251)), p.length = q.length → (∀ c ∈ List.zipWith (fun a b => a - b) p q, c = 0) → p = q
  | [], [], _, _ => rfl
  | a :: p, b :: q, h, hz => by
    simp only [List.zipWith_cons_cons, List.mem_cons, forall_eq_or_imp] at hz
    have hab : a = b := by
      have : a = (a - b) + b := by grind
      rw [this, hz.1]; grind
    rw [hab, sub_zero_eq p q (by simpa using h) hz.2]
theorem uniq (p q xs : List (Fin 251)) (hl : p.length = q.length) (hn : xs.Nodup) (hx : p.length ≤ xs.length) (h : ∀ x ∈ xs, ev p x = ev q x) : p = q := by
  refine sub_zero_eq p q hl (roots p.length _ xs (by simp [hl]) hn hx ?_)
  intro x hm
  rw [ev_sub p q x hl, h x hm]; grind
end Ply

/-! Part Lag. -/
namespace Go.Proofs.Ythlbjdiicmojfaa.P
open Go.RowKit Go.Proofs.YthlbjdiicmojfaaW.PrintWords Go.Proofs.YthlbjdiicmojfaaW.PrintLast Go.Proofs.YthlbjdiicmojfaaW.PrintMore
open Ply
set_option linter.unusedVariables false

theorem getD_get {α : Type} (l : List α) (d : α) {i : Nat} (h : i < l.length) : l.getD i d = l[i] := by
  simp [List.getD, List.getElem?_eq_getElem h]
/-! ### Numbers as classes -/
def cst (n : Int) : Fin 251 := ⟨(n % 251).toNat, by omega⟩
theorem cst_mod (a : Int) : cst (a % 251) = cst a := by
  unfold cst; congr 2; omega
theorem cst_add (a b : Int) : cst (a + b) = cst a + cst b := by
  apply Fin.ext
  simp only [cst, Fin.val_add]
  omega
theorem cst_zero : cst 0 = 0 := rfl
theorem cst_one : cst 1 = 1 := rfl
theorem cst_sub (a b : Int) : cst (a - b) = cst a - cst b := by
  have h := cst_add (a - b) b
  rw [show a - b + b = a by omega] at h
  rw [h]; grind
theorem cst_mul (a b : Int) : cst (a * b) = cst a * cst b := by
  apply Fin.ext
  simp only [cst, Fin.val_mul]
  have h1 : ((a % 251).toNat : Int) = a % 251 := by omega
  have h2 : ((b % 251).toNat : Int) = b % 251 := by omega
  have h3 : a * b % 251 = (a % 251) * (b % 251) % 251 := Int.mul_emod a b 251
  have h4 : ((((a % 251).toNat * (b % 251).toNat) % 251 : Nat) : Int) = (a % 251) * (b % 251) % 251 := by
    rw [Int.natCast_emod, Int.natCast_mul, h1, h2]; rfl
  have h5 : (((a * b % 251).toNat : Nat) : Int) = a * b % 251 := by omega
  omega
theorem cst_inj {a b : Int} (ha : num a = true) (hb : num b = true) (h : cst a = cst b) : a = b := by
  rw [num_iff] at ha hb
  have := congrArg Fin.val h
  simp only [cst] at this
  omega
theorem cst_ne {a b : Int} (ha : num a = true) (hb : num b = true) (h : a ≠ b) : cst a - cst b ≠ 0 := by
  intro e
  apply h
  apply cst_inj ha hb
  have : cst a = (cst a - cst b) + cst b := by grind
  rw [this, e]; grind

/-! ### A curve's value -/
theorem cst_atI : ∀ (c : List Int) (x : Int), cst (atI c x) = ev (c.map cst) (cst x)
  | [], x => rfl
  | n :: c, x => by
    have ih := cst_atI c x
    show cst ((atI c x * x + n) % 251) = cst n + cst x * ev (c.map cst) (cst x)
    rw [cst_mod, cst_add, cst_mul, ih]; grind
theorem atI_eq {c : List Int} {x r : Int} (hr : num r = true) (h : cst r = ev (c.map cst) (cst x)) : r = atI c x := cst_inj hr (num_atI c x) (by rw [h, cst_atI])

/-! ### Products and sums of curves -/
theorem ev_timesL : ∀ (c : List Int) (less m carry : Int) (x : Fin 251), ev ((timesL c less m carry).map cst) x = cst carry + (x - cst less) * cst m * ev (c.map cst) x
  | [], less, m, carry, x => by
    simp only [timesL, List.map_cons, List.map_nil, ev, cst_mod]; grind
  | n :: c, less, m, carry, x => by
    have ih := ev_timesL c less m (n * m) x
    simp only [timesL, List.map_cons, ev, cst_mod, ih, cst_sub, cst_mul]
    generalize ev (c.map cst) x = t
    grind
theorem ev_zip (f : Int → Int → Int) (u v : Fin 251) (hf : ∀ a b, cst (f a b) = u * cst a + v * cst b) : ∀ (c d : List Int) (x : Fin 251), c.length = d.length → ev ((List.zipWith f c d).map cst) x = u * ev (c.map cst) x + v * ev (d.map cst) x
  | [], [], x, _ => by simp only [List.zipWith_nil_left, List.map_nil, ev]; grind
  | a :: c, b :: d, x, h => by
    have ih := ev_zip f u v hf c d x (by simpa using h)
    simp only [List.zipWith_cons_cons, List.map_cons, ev, ih, hf]
    grind
theorem ev_plusL (c d : List Int) (x : Fin 251) (h : c.length = d.length) : ev ((plusL c d).map cst) x = ev (c.map cst) x + ev (d.map cst) x := by
  have := ev_zip (fun a b => (a + b) % 251) 1 1 (fun a b => by rw [cst_mod, cst_add]; grind) c d x h
  rw [show plusL c d = List.zipWith (fun a b => (a + b) % 251) c d from rfl, this]; grind
theorem ev_zeros (x : Fin 251) : ∀ n, ev ((List.replicate n (0 : Int)).map cst) x = 0
  | 0 => rfl
  | n + 1 => by
    rw [List.replicate_succ, List.map_cons, ev, ev_zeros x n, cst_zero]; grind

/-! ### The inverse -/
theorem cst_powIt (n : Int) : ∀ d x, cst (powIt n d x) = cst x * cst n ^ d
  | 0, x => by simp only [powIt]; grind
  | d + 1, x => by
    rw [powIt, cst_powIt n d, cst_mod, cst_mul]; grind
theorem inv_all : ∀ a : Fin 251, a ≠ 0 → a * a ^ 249 = 1 := by decide +kernel
theorem inv_mul (n : Int) (h : cst n ≠ 0) : cst (invI n) * cst n = 1 := by
  unfold invI
  rw [cst_powIt, cst_one]
  have := inv_all (cst n) h
  grind

/-! ### Lagrange's curves -/
theorem ev_basis_zero (xi : Int) (x : Fin 251) : ∀ (others c : List Int), (∃ xj ∈ others, cst xj = x) ∨ ev (c.map cst) x = 0 → ev ((basis xi others c).map cst) x = 0
  | [], c, h => by
    rcases h with ⟨_, h, _⟩ | h
    · simp at h
    · exact h
  | y :: others, c, h => by
    refine ev_basis_zero xi x others (timesL c y (invI ((xi - y) % 251)) 0) ?_
    rcases h with ⟨xj, hm, he⟩ | h
    · rcases List.mem_cons.1 hm with rfl | hm
      · right
        rw [ev_timesL, ← he, cst_zero]; grind
      · exact .inl ⟨xj, hm, he⟩
    · right
      rw [ev_timesL, h, cst_zero]; grind
theorem ev_basis_own (xi : Int) : ∀ (others c : List Int), (∀ xj ∈ others, cst xi - cst xj ≠ 0) → ev ((basis xi others c).map cst) (cst xi) = ev (c.map cst) (cst xi)
  | [], c, h => rfl
  | y :: others, c, h => by
    have ih := ev_basis_own xi others (timesL c y (invI ((xi - y) % 251)) 0) (fun xj hj => h xj (List.mem_cons_of_mem _ hj))
    rw [show basis xi (y :: others) c = basis xi others (timesL c y (invI ((xi - y) % 251)) 0) from rfl, ih, ev_timesL, cst_zero]
    have h1 := inv_mul ((xi - y) % 251) (by rw [cst_mod, cst_sub]; exact h y (by simp))
    rw [cst_mod, cst_sub] at h1
    generalize cst (invI ((xi - y) % 251)) = t at *
    generalize ev (c.map cst) (cst xi) = u at *
    grind

/-! ### The curve through points -/
/-- Points whose places are numbers, all different; their values are numbers. -/
def good (p : List (Int × Int)) : Prop := (∀ q ∈ p, num q.1 = true ∧ num q.2 = true) ∧ (p.map Prod.fst).Nodup
theorem good_getD {p : List (Int × Int)} (h : good p) {i : Nat} (hi : i < p.length) : num (p.getD i (0, 0)).1 = true ∧ num (p.getD i (0, 0)).2 = true := by
  rw [getD_get _ _ hi]
  exact h.1 _ (List.getElem_mem hi)
theorem ev_one_own {p : List (Int × Int)} (h : good p) {i : Nat} (hi : i < p.length) : ev ((oneL p i).map cst) (cst (p.getD i (0, 0)).1) = cst (p.getD i (0, 0)).2 := by
  unfold oneL
  rw [ev_basis_own]
  · simp only [List.map_cons, List.map_nil, ev]; grind
  · intro xj hm
    obtain ⟨j, hj, hne, rfl⟩ := List.mem_eraseIdx_iff_getElem.1 hm
    rw [List.length_map] at hj
    rw [getD_get _ _ hi]
    refine cst_ne (h.1 _ (List.getElem_mem hi)).1 (by rw [List.getElem_map]; exact (h.1 _ (List.getElem_mem hj)).1) fun e => hne ?_
    have h2 := h.2
    rw [List.Nodup, List.pairwise_iff_getElem] at h2
    rcases Nat.lt_trichotomy i j with hlt | heq | hgt
    · exact absurd (by rw [List.getElem_map, List.getElem_map]; simpa using e) (h2 i j (by simpa using hi) (by simpa using hj) hlt)
    · exact heq.symm
    · exact absurd (by rw [List.getElem_map, List.getElem_map]; simpa using e.symm) (h2 j i (by simpa using hj) (by simpa using hi) hgt)
theorem ev_one_other {p : List (Int × Int)} {i j : Nat} (hj : j < p.length) (hne : j ≠ i) : ev ((oneL p i).map cst) (cst (p.getD j (0, 0)).1) = 0 := by
  unfold oneL
  refine ev_basis_zero _ _ _ _ (.inl ⟨(p.getD j (0, 0)).1, ?_, rfl⟩)
  refine List.mem_eraseIdx_iff_getElem.2 ⟨j, by simpa using hj, hne, ?_⟩
  rw [List.getElem_map, getD_get _ _ hj]
theorem ev_interpTo {p : List (Int × Int)} (h : good p) {j : Nat} (hj : j < p.length) : ∀ m, m ≤ p.length → ev ((interpTo p m).map cst) (cst (p.getD j (0, 0)).1) = if j < m then cst (p.getD j (0, 0)).2 else 0
  | 0, _ => by
    rw [if_neg (by omega)]
    exact ev_zeros _ _
  | m + 1, hm => by
    rw [interpTo_succ, ev_plusL _ _ _ (by rw [interpTo_length p m (by omega), oneL_length p m (by omega)]), ev_interpTo h hj m (by omega)]
    by_cases e : j = m
    · subst e
      rw [if_neg (by omega), if_pos (by omega), ev_one_own h hj]; grind
    · rw [ev_one_other hj e]
      by_cases hlt : j < m
      · rw [if_pos hlt, if_pos (by omega)]; grind
      · rw [if_neg hlt, if_neg (by omega)]; grind
theorem interp_len (p : List (Int × Int)) : (interp p).length = p.length := interpTo_length p _ (Nat.le_refl _)
theorem interp_nums (p : List (Int × Int)) : ∀ n ∈ interp p, num n = true := interpTo_num p _
theorem interp_at {p : List (Int × Int)} (h : good p) {q : Int × Int} (hq : q ∈ p) : atI (interp p) q.1 = q.2 := by
  obtain ⟨j, hj, rfl⟩ := List.mem_iff_getElem.1 hq
  symm
  refine atI_eq (h.1 _ hq).2 ?_
  have := ev_interpTo h hj p.length (Nat.le_refl _)
  rw [if_pos hj, getD_get _ _ hj] at this
  exact this.symm

/-! ### One curve alone -/
theorem map_cst_inj : ∀ (c d : List Int), (∀ n ∈ c, num n = true) → (∀ n ∈ d, num n = true) → c.map cst = d.map cst → c = d
  | [], [], _, _, _ => rfl
  | [], _ :: _, _, _, h => by simp at h
  | _ :: _, [], _, _, h => by simp at h
  | a :: c, b :: d, hc, hd, h => by
    simp only [List.map_cons, List.cons.injEq] at h
    rw [cst_inj (hc a (by simp)) (hd b (by simp)) h.1, map_cst_inj c d (fun n hn => hc n (by simp [hn])) (fun n hn => hd n (by simp [hn])) h.2]
theorem nodup_cst : ∀ {xs : List Int}, (∀ x ∈ xs, num x = true) → xs.Nodup → (xs.map cst).Nodup
  | [], _, _ => by simp
  | a :: xs, hn, h => by
    rw [List.nodup_cons] at h
    rw [List.map_cons, List.nodup_cons]
    refine ⟨fun hm => ?_, nodup_cst (fun x hx => hn x (by simp [hx])) h.2⟩
    obtain ⟨b, hb, e⟩ := List.mem_map.1 hm
    rw [cst_inj (hn b (by simp [hb])) (hn a (by simp)) e] at hb
    exact h.1 hb
theorem curve_uniq {c d xs : List Int} (hl : c.length = d.length) (hc : ∀ n ∈ c, num n = true) (hd : ∀ n ∈ d, num n = true) (hx : ∀ x ∈ xs, num x = true) (hn : xs.Nodup) (hlen : c.length ≤ xs.length)
    (h : ∀ x ∈ xs, atI c x = atI d x) : c = d := by
  refine map_cst_inj c d hc hd (uniq _ _ (xs.map cst) (by simpa using hl) (nodup_cst hx hn) (by simpa using hlen) ?_)
  intro y hy
  obtain ⟨x, hm, rfl⟩ := List.mem_map.1 hy
  rw [← cst_atI, ← cst_atI, h x hm]
theorem interp_uniq {p : List (Int × Int)} {c : List Int} (h : good p) (hl : c.length = p.length) (hc : ∀ n ∈ c, num n = true) (ha : ∀ q ∈ p, atI c q.1 = q.2) : c = interp p := by
  refine curve_uniq (xs := p.map Prod.fst) (by rw [hl, interp_len]) hc (interp_nums p) ?_ h.2 (by rw [List.length_map]; omega) ?_
  · intro x hx
    obtain ⟨q, hq, rfl⟩ := List.mem_map.1 hx
    exact (h.1 q hq).1
  · intro x hx
    obtain ⟨q, hq, rfl⟩ := List.mem_map.1 hx
    rw [ha q hq, interp_at h hq]
theorem atI_zero {c : List Int} (hc : ∀ n ∈ c, num n = true) : atI c 0 = c.getD 0 0 := by
  cases c with
  | nil => rfl
  | cons n c =>
    have := num_iff.1 (hc n (by simp))
    show (atI c 0 * 0 + n) % 251 = n
    omega
theorem atI_more (c : List Int) (x : Int) : ∀ n, atI (c ++ List.replicate n 0) x = atI c x
  | 0 => by simp
  | n + 1 => by
    rw [List.replicate_succ', ← List.append_assoc]
    unfold atI
    rw [List.foldr_append]
    simp only [List.foldr_cons, List.foldr_nil]
    rw [show ((0 : Int) * x + 0) % 251 = 0 by rw [Int.zero_mul]; rfl]
    exact atI_more c x n
theorem good_pts {l : List S43} (h : valid l = 0) : good (pts l) := by
  obtain ⟨_, hok, hn⟩ := valid_iff.1 h
  refine ⟨fun q hq => ?_, ?_⟩
  · obtain ⟨p, hp, rfl⟩ := List.mem_map.1 hq
    have := okP_iff.1 (hok p hp)
    exact ⟨num_iff.2 (by simp only; omega), num_iff.2 (by simp only; omega)⟩
  · unfold pts
    rw [List.map_map]
    exact hn
theorem pts_length (l : List S43) : (pts l).length = l.length := by simp [pts]
theorem mem_pts {l : List S43} {p : S43} (h : p ∈ l) : (p.f0, p.f1) ∈ pts l := List.mem_map.2 ⟨p, h, rfl⟩
end Go.Proofs.Ythlbjdiicmojfaa.P

/-! Part PF81. -/
-- Written for this claim by wip/print_more.py (a session's program that runs the kit's printer with hand-proved functions beside). Lean checks it.
namespace Go.Proofs.Ythlbjdiicmojfaa.P
open Go.RowKit Go.Proofs.YthlbjdiicmojfaaW.PrintWords Go.Proofs.YthlbjdiicmojfaaW.PrintLast Go.Proofs.YthlbjdiicmojfaaW.PrintMore
attribute [local go_sem] max2_int min2_int max_two min_two max_three min_three max_four min_four   -- for this text's walks alone
set_option linter.unusedVariables false
set_option linter.unusedSimpArgs false

/-! ### verditerref08_curved: function 81 -/
def verditerref08_curved.l0 : Nat → List Int → Int → Option (Int)
  | 0, _, _ => none
  | k + 1, x0, x3 => if x3 < (x0.length : Int) then (if 0 ≤ x3 then ((verditerref08_isNumber.f (rd x0 x3)).bind fun t243 => (if t243 = true then (verditerref08_curved.l0 k x0 (wrap64 (x3 + 1))) else (some 1))) else (none)) else (some 0)
def verditerref08_curved.f (k : Nat) (l0 : List Int) : Option (Int) := (verditerref08_within.f (l0.length : Int) 1 6).bind fun t241 => (if t241 = true then (verditerref08_curved.l0 k l0 0) else (some 3))
theorem verditerref08_curved.mono_l : ∀ k, (∀ y0 y1, LeO (verditerref08_curved.l0 k y0 y1) (verditerref08_curved.l0 (k + 1) y0 y1))
  | 0 => fun _ _ r h => by simp [verditerref08_curved.l0] at h
  | k + 1 => by
    have ih0 := verditerref08_curved.mono_l k
    · intro y0 y1
      unfold verditerref08_curved.l0
      repeat' first
      | (with_reducible exact ih0 _ _)
      | (with_reducible exact LeO.refl _)
      | (with_reducible exact LeO.none _)
      | (with_reducible refine LeO.ite ?_ ?_)
      | (with_reducible refine LeO.bind ?_ (fun _ => ?_))
      | exact ih0 _ _
      | exact LeO.none _
      | refine LeO.ite ?_ ?_
      | refine LeO.bind ?_ (fun _ => ?_)
theorem verditerref08_curved.mono : ∀ a0 k, LeO (verditerref08_curved.f k a0) (verditerref08_curved.f (k + 1) a0) := by
  intro a0 k
  have ih0 := verditerref08_curved.mono_l k
  unfold verditerref08_curved.f
  repeat' first
      | (with_reducible exact ih0 _ _)
      | (with_reducible exact LeO.refl _)
      | (with_reducible exact LeO.none _)
      | (with_reducible refine LeO.ite ?_ ?_)
      | (with_reducible refine LeO.bind ?_ (fun _ => ?_))
      | exact ih0 _ _
      | exact LeO.none _
      | refine LeO.ite ?_ ?_
      | refine LeO.bind ?_ (fun _ => ?_)
set_option maxHeartbeats 8000000 in
set_option maxRecDepth 100000 in
theorem verditerref08_curved.calls (k : Nat) (A0 : Option Addr) (c0 : Nat) (l0 : List Int) (r : Int) (w : World) (hr0 : Kd.C (Kd.int .i64) w A0 l0.length l0) (hc0 : l0.length ≤ c0) (h : verditerref08_curved.f k l0 = some r) :
    Calls Try.prog 81 #[.slice A0 l0.length c0] w fun e w' => e = .returned (.int .i64 r) ∧ Drawn0 w w' := by
  have HR0 := Aside0.mk hr0
  have HC0 := Aside0.mk hc0
  clear hr0 hc0
  have H : ((verditerref08_within.f (l0.length : Int) 1 6).bind fun t241 => (if t241 = true then (verditerref08_curved.l0 k l0 0) else (some 3))) = some r := h
  clear h
  replace H := Option.bind_eq_some_iff.mp H
  obtain ⟨t241, A20, H⟩ := H
  replace H : (if t241 = true then (verditerref08_curved.l0 k l0 0) else (some 3)) = some r := H
  have A2 := Aside0.mk A20
  clear A20
  by_cases c3 : t241 = true
  · subst c3
    have H1 : (verditerref08_curved.l0 k l0 0) = some r := by rw [if_pos rfl] at H; exact H
    clear H
    have H := H1
    clear H1
    have H' := Aside0.mk H
    clear H
    go_enter Try.func81, Try.ntmps81
    go_wp2_with (first | ((with_reducible refine gate_callee (f := 83) rfl ?_); refine goesL_ (some 6) rfl rfl Try.func83 (by kernel_rfl) rfl #[.int .i64 (l0.length : Int), .int .i64 1, .int .i64 6] rfl (by (try simp only [List.map_toArray, List.map_cons, List.map_nil]); first | done | rfl | (simp only [List.length_drop, List.length_take]; rfl)) ?_; (with_reducible refine (verditerref08_within.calls (l0.length : Int) 1 6 true _ A2.out).mono ?_); rintro e w' ⟨rfl, ⟨nd, rfl⟩⟩; refine ⟨_, rfl, ?_⟩))
    go_loopg [3] k (fun kq v3 w' => ∃ (x3_1 : Int), v3 = .int .i64 x3_1 ∧ Aside0 (verditerref08_curved.l0 kq l0 x3_1 = some r) ∧ Aside0 (kq ≤ k) ∧ Drawn0 w w')
    case atStart => exact ⟨(0), (by first | rfl | (simp; done) | (simp [*]; done)), H', ⟨Nat.le_refl _⟩, by repeat (first | exact Drawn0.refl _ | apply Drawn0.step)⟩
    case round =>
      clear H'
      try clear p2
      try clear c3
      obtain ⟨x3_1, rfl, HA, HK1, ⟨m1, rfl⟩⟩ := hrel
      cases gk with
      | zero => exact absurd HA.out (by simp [verditerref08_curved.l0])
      | succ k1 =>
        have H := HA.out
        clear HA
        simp only [verditerref08_curved.l0] at H
        by_cases c4 : x3_1 < (l0.length : Int)
        · rw [if_pos c4] at H
          have c4b0 : decide (x3_1 < (l0.length : Int)) = true := decide_eq_true c4
          clear c4
          by_cases c5 : 0 ≤ x3_1
          · rw [if_pos c5] at H
            have c5b0 : decide (0 ≤ x3_1) = true := decide_eq_true c5
            clear c5
            replace H := Option.bind_eq_some_iff.mp H
            obtain ⟨t243, A60, H⟩ := H
            replace H : (if t243 = true then (verditerref08_curved.l0 k1 l0 (wrap64 (x3_1 + 1))) else (some 1)) = some r := H
            have A6 := Aside0.mk A60
            clear A60
            by_cases c7 : t243 = true
            · subst c7
              have H1 : (verditerref08_curved.l0 k1 l0 (wrap64 (x3_1 + 1))) = some r := by rw [if_pos rfl] at H; exact H
              clear H
              have H := H1
              clear H1
              have H' := Aside0.mk H
              clear H
              have p242 : 0 ≤ (x3_1 : Int) := of_decide_eq_true (by first | (with_reducible assumption) | assumption)
              have q242 : x3_1 < (l0.length : Int) := of_decide_eq_true (by first | (with_reducible assumption) | assumption)
              obtain ⟨ad242, e242, hx242_0⟩ := Kd.at_int HR0.out x3_1 p242 q242
              cases e242
              replace p242 := eq_true p242
              replace q242 := eq_true q242
              go_wp2_with (first | ((with_reducible refine gate_callee (f := 75) rfl ?_); refine goesL_ (some 18) rfl rfl Try.func75 (by kernel_rfl) rfl #[.int .i64 (rd l0 x3_1)] rfl (by (try simp only [List.map_toArray, List.map_cons, List.map_nil]); first | done | rfl | (simp only [List.length_drop, List.length_take]; rfl)) ?_; (with_reducible refine (verditerref08_isNumber.calls (rd l0 x3_1) true _ A6.out).mono ?_); rintro e w' ⟨rfl, ⟨nd, rfl⟩⟩; refine ⟨_, rfl, ?_⟩))
              go_roundg k1
              case measure => have := HK1.out; omega
              case rel => exact ⟨(wrap64 (x3_1 + 1)), (by first | rfl | (simp; done) | (simp [*]; done)), H', ⟨by have := HK1.out; omega⟩, by repeat (first | exact Drawn0.refl _ | apply Drawn0.step)⟩
            · replace c7 := Bool.eq_false_iff.mpr c7
              subst c7
              have H1 : (some 1) = some r := by rw [if_neg (show ¬ (false = true) by decide)] at H; exact H
              clear H
              have H := H1
              clear H1
              obtain rfl := Option.some.inj H
              have p242 : 0 ≤ (x3_1 : Int) := of_decide_eq_true (by first | (with_reducible assumption) | assumption)
              have q242 : x3_1 < (l0.length : Int) := of_decide_eq_true (by first | (with_reducible assumption) | assumption)
              obtain ⟨ad242, e242, hx242_0⟩ := Kd.at_int HR0.out x3_1 p242 q242
              cases e242
              replace p242 := eq_true p242
              replace q242 := eq_true q242
              go_wp2_with (first | ((with_reducible refine gate_callee (f := 75) rfl ?_); refine goesL_ (some 18) rfl rfl Try.func75 (by kernel_rfl) rfl #[.int .i64 (rd l0 x3_1)] rfl (by (try simp only [List.map_toArray, List.map_cons, List.map_nil]); first | done | rfl | (simp only [List.length_drop, List.length_take]; rfl)) ?_; (with_reducible refine (verditerref08_isNumber.calls (rd l0 x3_1) false _ A6.out).mono ?_); rintro e w' ⟨rfl, ⟨nd, rfl⟩⟩; refine ⟨_, rfl, ?_⟩))
              go_ret
              exact ⟨by first | rfl | (simp; done) | (simp [*]; done), by repeat (first | exact Drawn0.refl _ | apply Drawn0.step)⟩
          · rw [if_neg c5] at H
            exact absurd H (by simp)
        · rw [if_neg c4] at H
          have c4b0 : decide (x3_1 < (l0.length : Int)) = false := decide_eq_false c4
          clear c4
          obtain rfl := Option.some.inj H
          go_wp2
          go_ret
          exact ⟨by first | rfl | (simp; done) | (simp [*]; done), by repeat (first | exact Drawn0.refl _ | apply Drawn0.step)⟩
  · replace c3 := Bool.eq_false_iff.mpr c3
    subst c3
    have H1 : (some 3) = some r := by rw [if_neg (show ¬ (false = true) by decide)] at H; exact H
    clear H
    have H := H1
    clear H1
    obtain rfl := Option.some.inj H
    go_enter Try.func81, Try.ntmps81
    go_wp2_with (first | ((with_reducible refine gate_callee (f := 83) rfl ?_); refine goesL_ (some 6) rfl rfl Try.func83 (by kernel_rfl) rfl #[.int .i64 (l0.length : Int), .int .i64 1, .int .i64 6] rfl (by (try simp only [List.map_toArray, List.map_cons, List.map_nil]); first | done | rfl | (simp only [List.length_drop, List.length_take]; rfl)) ?_; (with_reducible refine (verditerref08_within.calls (l0.length : Int) 1 6 false _ A2.out).mono ?_); rintro e w' ⟨rfl, ⟨nd, rfl⟩⟩; refine ⟨_, rfl, ?_⟩))
    go_ret
    exact ⟨by first | rfl | (simp; done) | (simp [*]; done), by repeat (first | exact Drawn0.refl _ | apply Drawn0.step)⟩

end Go.Proofs.Ythlbjdiicmojfaa.P

/-! Part Ref. -/
namespace Go.Proofs.Ythlbjdiicmojfaa.P
open Go.RowKit Go.Proofs.YthlbjdiicmojfaaW.PrintWords Go.Proofs.YthlbjdiicmojfaaW.PrintLast Go.Proofs.YthlbjdiicmojfaaW.PrintMore
open Ply
set_option linter.unusedVariables false

theorem rwithin_eq (a lo hi : Int) : verditerref08_within.f a lo hi = some (decide (lo ≤ a) && decide (a ≤ hi)) := by
  unfold verditerref08_within.f
  split
  · rename_i h; rw [decide_eq_true (show lo ≤ a from h)]; rfl
  · rename_i h; rw [decide_eq_false (show ¬ lo ≤ a from h)]; rfl
theorem risNumber_eq (a : Int) : verditerref08_isNumber.f a = some (num a) := by
  unfold verditerref08_isNumber.f num
  rw [rwithin_eq]; rfl
theorem rd_get (l : List Int) (i : Nat) (h : i < l.length) : rd l (i : Int) = l[i] := by
  unfold rd; rw [Int.toNat_natCast]; exact getD_get l 0 h
theorem rdT_get (l : List S43) (i : Nat) (h : i < l.length) : rd_T43 l (i : Int) = l[i] := by
  unfold rd_T43; rw [Int.toNat_natCast]; exact getD_get l z43 h
theorem wrap_succ (i : Nat) (h : i ≤ 1000000) : wrap64 ((i : Int) + 1) = ((i + 1 : Nat) : Int) := by
  rw [wrap_id (a := (i : Int) + 1) (by omega) (by omega)]; omega

/-! ### A curve's value -/
theorem rat_loop (c : List Int) (x : Int) (hc : ∀ n ∈ c, num n = true) (hx : num x = true) (hl : c.length ≤ 1000) : ∀ (d : Nat) (i : Nat) (s p : Int) (k : Nat), i + d = c.length → num s = true → num p = true → d < k →
    ∃ r, verditerref08_at.l0 k c x s p (i : Int) = some r ∧ num r = true ∧ cst r = cst s + cst p * ev ((c.drop i).map cst) (cst x) := by
  intro d
  induction d with
  | zero =>
    intro i s p k hi hs hp hk
    obtain ⟨k, rfl⟩ : ∃ j, k = j + 1 := ⟨k - 1, by omega⟩
    refine ⟨s, ?_, hs, ?_⟩
    · rw [verditerref08_at.l0, if_neg (by omega)]
    · rw [List.drop_of_length_le (by omega)]
      simp only [List.map_nil, ev]; grind
  | succ d ih =>
    intro i s p k hi hs hp hk
    obtain ⟨k, rfl⟩ : ∃ j, k = j + 1 := ⟨k - 1, by omega⟩
    have hic : i < c.length := by omega
    have hn := num_iff.1 (hc c[i] (List.getElem_mem hic))
    have hs' := num_iff.1 hs
    have hp' := num_iff.1 hp
    have hx' := num_iff.1 hx
    have hm1 := mul_range hn.1 hn.2 hp'.1 hp'.2
    have hm2 := mul_range hp'.1 hp'.2 hx'.1 hx'.2
    obtain ⟨r, hr, hrn, hrc⟩ := ih (i + 1) ((s + c[i] * p) % 251) ((p * x) % 251) k (by omega) (num_mod _) (num_mod _) (by omega)
    refine ⟨r, ?_, hrn, ?_⟩
    · rw [verditerref08_at.l0, if_pos (by omega), if_pos (by omega), rd_get c i hic, wrap_id (a := c[i] * p) (by omega) (by omega), wrap_id (a := s + c[i] * p) (by omega) (by omega), mod_eq, Option.bind_some, wrap_id (a := p * x) (by omega) (by omega), mod_eq, Option.bind_some, wrap_succ i (by omega)]
      exact hr
    · rw [hrc, cst_mod, cst_mod, cst_add, cst_mul, cst_mul, List.drop_eq_getElem_cons hic, List.map_cons, ev]
      generalize ev ((c.drop (i + 1)).map cst) (cst x) = t
      grind
theorem rat_eq (c : List Int) (x : Int) (hc : ∀ n ∈ c, num n = true) (hx : num x = true) (hl : c.length ≤ 1000) (k : Nat) (hk : c.length < k) : verditerref08_at.f k c x = some (atI c x) := by
  obtain ⟨r, hr, hn, he⟩ := rat_loop c x hc hx hl c.length 0 0 1 k (by omega) rfl rfl hk
  rw [verditerref08_at.f]
  rw [show ((0 : Nat) : Int) = 0 from rfl] at hr
  rw [hr, atI_eq (c := c) (x := x) hn (by rw [he, List.drop_zero, cst_zero, cst_one]; grind)]

/-! ### The inverse -/
theorem invI_mul {a : Int} (ha : num a = true) (h0 : a ≠ 0) : cst a * cst (invI a) = 1 := by
  have h := inv_mul a (by
    have := cst_ne ha (show num 0 = true from rfl) h0
    rw [cst_zero] at this
    intro e; apply this; rw [e]; grind)
  generalize cst (invI a) = u at *
  generalize cst a = v at *
  grind
theorem mul_one_iff {a b : Int} : (a * b) % 251 = 1 ↔ cst a * cst b = 1 := by
  rw [← cst_mul]
  constructor
  · intro h; rw [← cst_mod, h]; rfl
  · intro h; exact cst_inj (num_mod _) rfl (by rw [cst_mod, h]; rfl)
theorem invI_pos {a : Int} (ha : num a = true) (h0 : a ≠ 0) : 1 ≤ invI a ∧ invI a ≤ 250 := by
  have h1 := num_iff.1 (num_invI a)
  refine ⟨?_, h1.2⟩
  rcases Int.lt_or_le 0 (invI a) with h | h
  · omega
  · have e : invI a = 0 := by omega
    have := invI_mul ha h0
    rw [e, cst_zero] at this
    have h2 : cst a * 0 = 0 := by grind
    rw [h2] at this
    exact absurd this (by decide)
theorem rinv_loop (a t : Int) (ha : num a = true) (h2 : cst a * cst t = 1) (hi : 1 ≤ t ∧ t ≤ 250) : ∀ (d : Nat) (b : Int) (k : Nat), 1 ≤ b → b + d = t → d < k → verditerref08_inverse.l0 k a b = some t := by
  have ha' := num_iff.1 ha
  intro d
  induction d with
  | zero =>
    intro b k hb he hk
    obtain ⟨k, rfl⟩ : ∃ j, k = j + 1 := ⟨k - 1, by omega⟩
    have e : b = t := by omega
    subst e
    have hm := mul_range ha'.1 ha'.2 (by omega) hi.2
    rw [verditerref08_inverse.l0, wrap_id (a := a * b) (by omega) (by omega), mod_eq, Option.bind_some, if_pos (mul_one_iff.2 h2)]
  | succ d ih =>
    intro b k hb he hk
    obtain ⟨k, rfl⟩ : ∃ j, k = j + 1 := ⟨k - 1, by omega⟩
    have hm := mul_range ha'.1 ha'.2 (show 0 ≤ b by omega) (show b ≤ 250 by omega)
    have hne : ¬ (a * b) % 251 = 1 := by
      intro h
      have h1 := mul_one_iff.1 h
      have h3 : cst b = cst t := by
        have : cst b = cst b * (cst a * cst t) := by rw [h2]; grind
        rw [this]
        have : cst b * (cst a * cst t) = (cst a * cst b) * cst t := by grind
        rw [this, h1]; grind
      have := cst_inj (num_iff.2 ⟨by omega, by omega⟩) (num_iff.2 ⟨by omega, by omega⟩) h3
      omega
    rw [verditerref08_inverse.l0, wrap_id (a := a * b) (by omega) (by omega), mod_eq, Option.bind_some, if_neg hne, wrap_id (a := b + 1) (by omega) (by omega)]
    exact ih (b + 1) k (by omega) (by omega) (by omega)
theorem rinv_eq (a : Int) (ha : num a = true) (h0 : a ≠ 0) (k : Nat) (hk : 251 ≤ k) : verditerref08_inverse.f k a = some (invI a) := by
  have hi := invI_pos ha h0
  have h2 := invI_mul ha h0
  rw [verditerref08_inverse.f]
  generalize invI a = t at *
  exact rinv_loop a t ha h2 hi (t - 1).toNat 1 k (by omega) (by omega) (by omega)

/-! ### The error of a curve -/
theorem rcurved_loop (c : List Int) (hl : c.length ≤ 1000) : ∀ (d i k : Nat), i + d = c.length → d < k → verditerref08_curved.l0 k c (i : Int) = some (if (c.drop i).all num = true then 0 else 1) := by
  intro d
  induction d with
  | zero =>
    intro i k hi hk
    obtain ⟨k, rfl⟩ : ∃ j, k = j + 1 := ⟨k - 1, by omega⟩
    rw [verditerref08_curved.l0, if_neg (by omega), List.drop_of_length_le (by omega)]; rfl
  | succ d ih =>
    intro i k hi hk
    obtain ⟨k, rfl⟩ : ∃ j, k = j + 1 := ⟨k - 1, by omega⟩
    have hic : i < c.length := by omega
    rw [verditerref08_curved.l0, if_pos (by omega), if_pos (by omega), rd_get c i hic, risNumber_eq, Option.bind_some, List.drop_eq_getElem_cons hic, List.all_cons]
    cases hn : num c[i] with
    | true => rw [if_pos rfl, wrap_succ i (by omega), ih (i + 1) k (by omega) (by omega)]; rfl
    | false => rfl
theorem rcurved_eq (c : List Int) (hl : c.length ≤ 1000) (k : Nat) (hk : c.length < k) : verditerref08_curved.f k c = some (curveErr c) := by
  rw [verditerref08_curved.f, rwithin_eq, Option.bind_some]
  unfold curveErr
  by_cases h : 1 ≤ c.length ∧ c.length ≤ 6
  · rw [if_pos h, decide_eq_true (show (1 : Int) ≤ (c.length : Int) by omega), decide_eq_true (show (c.length : Int) ≤ 6 by omega), if_pos (show (true && true) = true from rfl)]
    have := rcurved_loop c hl c.length 0 k (by omega) hk
    rw [List.drop_zero] at this
    exact this
  · rw [if_neg h, if_neg]
    intro e
    rw [Bool.and_eq_true, decide_eq_true_iff, decide_eq_true_iff] at e
    omega

/-! ### Equal lists -/
theorem sameInts_loop (c : List Int) (hl : c.length ≤ 1000) : ∀ (d i k : Nat), i + d = c.length → d < k → verditerref08_SameInts.l0 k c c (i : Int) = some true := by
  intro d
  induction d with
  | zero =>
    intro i k hi hk
    obtain ⟨k, rfl⟩ : ∃ j, k = j + 1 := ⟨k - 1, by omega⟩
    rw [verditerref08_SameInts.l0, if_neg (by omega)]
  | succ d ih =>
    intro i k hi hk
    obtain ⟨k, rfl⟩ : ∃ j, k = j + 1 := ⟨k - 1, by omega⟩
    rw [verditerref08_SameInts.l0, if_pos (by omega), if_pos (by omega), if_pos (by omega), if_pos rfl, wrap_succ i (by omega)]
    exact ih (i + 1) k (by omega) (by omega)
theorem sameInts_self (c : List Int) (hl : c.length ≤ 1000) (k : Nat) (hk : c.length < k) : verditerref08_SameInts.f k c c = some true := by
  rw [verditerref08_SameInts.f, if_pos rfl]
  exact sameInts_loop c hl c.length 0 k (by omega) hk
theorem same_loop (c : List S43) (hl : c.length ≤ 1000) : ∀ (d i k : Nat), i + d = c.length → d < k → verditerref08_Same.l0 k c c (i : Int) = some true := by
  intro d
  induction d with
  | zero =>
    intro i k hi hk
    obtain ⟨k, rfl⟩ : ∃ j, k = j + 1 := ⟨k - 1, by omega⟩
    rw [verditerref08_Same.l0, if_neg (by omega)]
  | succ d ih =>
    intro i k hi hk
    obtain ⟨k, rfl⟩ : ∃ j, k = j + 1 := ⟨k - 1, by omega⟩
    rw [verditerref08_Same.l0, if_pos (by omega), if_pos (by omega), if_pos (by omega), if_neg (by simp), wrap_succ i (by omega)]
    exact ih (i + 1) k (by omega) (by omega)
theorem same_self (c : List S43) (hl : c.length ≤ 1000) (k : Nat) (hk : c.length < k) : verditerref08_Same.f k c c = some true := by
  rw [verditerref08_Same.f, if_pos rfl]
  exact same_loop c hl c.length 0 k (by omega) hk
end Go.Proofs.Ythlbjdiicmojfaa.P

/-! Part Thr. -/
namespace Go.Proofs.Ythlbjdiicmojfaa.P
open Go.RowKit Go.Proofs.YthlbjdiicmojfaaW.PrintWords Go.Proofs.YthlbjdiicmojfaaW.PrintLast Go.Proofs.YthlbjdiicmojfaaW.PrintMore
open Ply
set_option linter.unusedVariables false

/-- From K rounds on the answer is R. -/
def From (K : Nat) {α : Type} (g : Nat → Option α) (R : α) : Prop := ∀ k, K ≤ k → g k = some R
theorem From.step {K : Nat} {α : Type} {g f : Nat → Option α} {R : α} (h : From K f R) (e : ∀ k, K ≤ k → g (k + 1) = f k) : From (K + 1) g R := by
  intro k hk
  obtain ⟨k, rfl⟩ : ∃ j, k = j + 1 := ⟨k - 1, by omega⟩
  rw [e k (by omega)]; exact h k (by omega)
theorem From.more {K K' : Nat} {α : Type} {g : Nat → Option α} {R : α} (h : From K g R) (hk : K ≤ K') : From K' g R := fun k h' => h k (by omega)

theorem set_next (P : List Int) (x y z : Int) (q : List Int) {i : Int} (h : i = P.length) : (P ++ x :: y :: q).set (i + 1).toNat z = P ++ x :: z :: q := by
  subst h
  rw [show ((P.length : Int) + 1).toNat = P.length + 1 by omega, List.set_append, if_neg (by omega), show P.length + 1 - P.length = 1 by omega]
  rfl
theorem rd_next (P : List Int) (x y : Int) (q : List Int) {i : Int} (h : i = P.length) : rd (P ++ x :: y :: q) (i + 1) = y := by
  subst h; unfold rd
  rw [show ((P.length : Int) + 1).toNat = P.length + 1 by omega]
  simp [List.getD]

theorem l2_eq (l : List S43) (out : List Int) (i j : Nat) (below : Int) (prod : List Int) (hi : i < l.length) (hj : j < l.length) (hl : l.length ≤ 100) (hp : prod.length ≤ 100)
    (hX : num l[j].f0 = true) (hXi : num l[i].f0 = true) (hb : num below = true) {K : Nat} {R : List Int} : ∀ (rest c1 P : List Int) (carry : Int), prod = c1 ++ rest → P.length = c1.length → (∀ n ∈ rest, num n = true) → num carry = true →
    From K (fun k => verditerref08_through.l1 k l out (i : Int) (P ++ timesL rest l[j].f0 1 carry) ((below * (l[i].f0 - l[j].f0)) % 251) ((j + 1 : Nat) : Int)) R →
    From (K + rest.length + 1) (fun k => verditerref08_through.l2 k l out (i : Int) prod below (j : Int) (P ++ (carry % 251) :: List.replicate rest.length 0) (c1.length : Int)) R := by
  intro rest
  have hX' := num_iff.1 hX
  have hXi' := num_iff.1 hXi
  have hb' := num_iff.1 hb
  induction rest with
  | nil =>
    intro c1 P carry hc hP hn hcy H
    refine From.step H fun k hk => ?_
    have h1 := mul_range hb'.1 hb'.2 hXi'.1 hXi'.2
    have h2 := mul_range hb'.1 hb'.2 hX'.1 hX'.2
    have h3 : below * (l[i].f0 - l[j].f0) = below * l[i].f0 - below * l[j].f0 := Int.mul_sub ..
    rw [verditerref08_through.l2, if_neg (by rw [hc]; simp), if_pos (by omega), if_pos (by omega), if_pos (by omega), if_pos (by omega), rdT_get l i hi, rdT_get l j hj,
      wrap_id (a := l[i].f0 - l[j].f0) (by omega) (by omega), wrap_id (a := below * (l[i].f0 - l[j].f0)) (by omega) (by omega), mod_eq, Option.bind_some, wrap_succ j (by omega)]
    rfl
  | cons n rest ih =>
    intro c1 P carry hc hP hn hcy H
    have hn' := num_iff.1 (hn n (by simp))
    have hcy' := num_iff.1 hcy
    have h1 := mul_range hn'.1 hn'.2 hX'.1 hX'.2
    have hlen : prod.length = c1.length + (rest.length + 1) := by rw [hc]; simp
    have ih' := ih (c1 ++ [n]) (P ++ [(carry - n * l[j].f0 * 1) % 251]) (n * 1) (by rw [hc]; simp) (by simp [hP]) (fun m hm => hn m (by simp [hm])) (by rw [Int.mul_one]; exact hn n (by simp)) (by
      have e : P ++ [(carry - n * l[j].f0 * 1) % 251] ++ timesL rest l[j].f0 1 (n * 1) = P ++ timesL (n :: rest) l[j].f0 1 carry := by simp [timesL]
      rw [e]; exact H)
    refine From.step (From.more ih' (show K + rest.length + 1 ≤ K + (n :: rest).length by simp; omega)) fun k hk => ?_
    have hr : rd prod (c1.length : Int) = n := by rw [hc]; exact rd_at c1 n rest rfl
    have hPl : (c1.length : Int) = (P.length : Int) := by rw [hP]
    rw [verditerref08_through.l2, if_pos (by omega), if_pos (by omega), if_pos (by simp; omega), if_pos (by omega), if_pos (by omega), hr, rdT_get l j hj, rd_at P (carry % 251) _ hPl,
      wrap_id (a := n * l[j].f0) (by omega) (by omega), wrap_id (a := carry % 251 - n * l[j].f0) (by omega) (by omega), mod_eq, Option.bind_some, set_at P _ _ _ hPl, Option.bind_some,
      wrap_id (a := (c1.length : Int) + 1) (by omega) (by omega), if_pos (by omega), if_pos (by simp; omega), List.length_cons, List.replicate_succ, rd_next P _ 0 _ hPl,
      wrap_id (a := 0 + n) (by omega) (by omega), mod_eq, Option.bind_some, set_next P _ 0 _ _ hPl]
    have e1 : (carry % 251 - n * l[j].f0) % 251 = (carry - n * l[j].f0 * 1) % 251 := by rw [Int.mul_one]; omega
    have e2 : (0 + n) % 251 = (n * 1) % 251 := by rw [Int.mul_one]; omega
    rw [e1, e2, show ((c1.length : Int) + 1) = (((c1 ++ [n]).length : Nat) : Int) by simp]
    simp

/-! ### One point's curve, as the reference makes it -/
def basisR (others c : List Int) : List Int := others.foldl (fun c xj => timesL c xj 1 0) c
def belowR (xi : Int) (others : List Int) (b : Int) : Int := others.foldl (fun b xj => (b * (xi - xj)) % 251) b
/-- The other places from the j-th on. -/
def oth (xs : List Int) (i j : Nat) : List Int := if j ≤ i then (xs.drop j).eraseIdx (i - j) else xs.drop j
theorem oth_here (xs : List Int) (i : Nat) (h : i < xs.length) : oth xs i i = oth xs i (i + 1) := by
  unfold oth
  rw [if_pos (Nat.le_refl _), if_neg (by omega), Nat.sub_self, List.drop_eq_getElem_cons h]; rfl
theorem oth_next (xs : List Int) (i j : Nat) (h : j < xs.length) (hne : j ≠ i) : oth xs i j = xs[j] :: oth xs i (j + 1) := by
  unfold oth
  by_cases hlt : j ≤ i
  · rw [if_pos hlt, if_pos (by omega), List.drop_eq_getElem_cons h, show i - j = (i - (j + 1)) + 1 by omega]; rfl
  · rw [if_neg hlt, if_neg (by omega), List.drop_eq_getElem_cons h]
theorem oth_end (xs : List Int) (i : Nat) (hi : i < xs.length) : oth xs i xs.length = [] := by
  unfold oth
  rw [if_neg (by omega), List.drop_of_length_le (Nat.le_refl _)]
theorem oth_zero (xs : List Int) (i : Nat) : oth xs i 0 = xs.eraseIdx i := by
  unfold oth
  rw [if_pos (by omega)]; rfl
theorem basisR_num : ∀ (others c : List Int), (∀ n ∈ c, num n = true) → ∀ n ∈ basisR others c, num n = true
  | [], c, h => h
  | x :: others, c, h => basisR_num others _ (timesL_num _ _ _ _)
theorem basisR_length : ∀ (others c : List Int), (basisR others c).length = c.length + others.length
  | [], c => rfl
  | x :: others, c => by
    show (basisR others (timesL c x 1 0)).length = _
    rw [basisR_length others, timesL_length]; simp; omega
theorem belowR_num (xi : Int) : ∀ (others : List Int) (b : Int), num b = true → num (belowR xi others b) = true
  | [], b, h => h
  | x :: others, b, h => belowR_num xi others _ (num_mod _)

theorem l1_eq (l : List S43) (out : List Int) (i : Nat) (hi : i < l.length) (hl : l.length ≤ 12) (hX : ∀ p ∈ l, num p.f0 = true ∧ num p.f1 = true) {K : Nat} (hK : 251 ≤ K) {R : List Int} :
    ∀ (d j : Nat) (prod : List Int) (below : Int), j + d = l.length → prod.length ≤ j + 1 → (∀ n ∈ prod, num n = true) → num below = true → belowR l[i].f0 (oth (l.map S43.f0) i j) below ≠ 0 →
    From K (fun k => verditerref08_through.l3 k l out (i : Int) (basisR (oth (l.map S43.f0) i j) prod) ((l[i].f1 * invI (belowR l[i].f0 (oth (l.map S43.f0) i j) below)) % 251) 0) R →
    From (K + 1 + 20 * d) (fun k => verditerref08_through.l1 k l out (i : Int) prod below (j : Int)) R := by
  intro d
  have hXi := hX l[i] (List.getElem_mem hi)
  have hmi : i < (l.map S43.f0).length := by simpa using hi
  induction d with
  | zero =>
    intro j prod below hj hp hn hb hne H
    have hjl : j = (l.map S43.f0).length := by simpa using hj
    subst hjl
    rw [oth_end _ _ hmi] at H hne
    refine From.step H fun k hk => ?_
    have hf := num_iff.1 hXi.2
    have hne' : below ≠ 0 := hne
    have hv := num_iff.1 (num_invI below)
    have hinv := rinv_eq below hb hne' k (by omega)
    show verditerref08_through.l1 (k + 1) l out (i : Int) prod below _ = verditerref08_through.l3 k l out (i : Int) prod ((l[i].f1 * invI below) % 251) 0
    generalize invI below = t at *
    have hm := mul_range hf.1 hf.2 hv.1 hv.2
    rw [verditerref08_through.l1, if_neg (by simp), if_pos (by omega), if_pos (by omega), hinv, Option.bind_some, rdT_get l i hi, wrap_id (a := l[i].f1 * t) (by omega) (by omega), mod_eq, Option.bind_some]
  | succ d ih =>
    intro j prod below hj hp hn hb hne H
    have hjl : j < l.length := by omega
    have hmj : j < (l.map S43.f0).length := by simpa using hjl
    by_cases e : j = i
    · subst e
      rw [oth_here _ _ hmj] at H hne
      refine From.more (From.step (ih (j + 1) prod below (by omega) (by omega) hn hb hne H) fun k hk => ?_) (show K + 1 + 20 * d + 1 ≤ K + 1 + 20 * (d + 1) by omega)
      rw [verditerref08_through.l1, if_pos (by omega), if_pos rfl, wrap_succ j (by omega)]
    · rw [oth_next _ _ _ hmj e] at H hne
      rw [List.getElem_map] at H hne
      have hXj := hX l[j] (List.getElem_mem hjl)
      have ih' := ih (j + 1) (timesL prod l[j].f0 1 0) ((below * (l[i].f0 - l[j].f0)) % 251) (by omega) (by rw [timesL_length]; omega) (timesL_num _ _ _ _) (num_mod _) hne H
      have h2 := l2_eq l out i j below prod hi hjl (by omega) (by omega) hXj.1 hXi.1 hb prod [] [] 0 rfl rfl hn rfl ih'
      refine From.more (From.step h2 fun k hk => ?_) (show K + 1 + 20 * d + prod.length + 1 + 1 ≤ K + 1 + 20 * (d + 1) by omega)
      rw [verditerref08_through.l1, if_pos (by omega), if_neg (by omega), wrap_id (a := (prod.length : Int) + 1) (by omega) (by omega), if_pos (by omega), if_pos (by omega), show ((prod.length : Int) + 1).toNat = prod.length + 1 by omega, List.replicate_succ]
      rfl

theorem l3_eq (l : List S43) (i : Nat) (prod : List Int) (fac : Int) (hl : l.length ≤ 12) (hi : i < l.length) (hf : num fac = true) (hpl : prod.length ≤ 100) {K : Nat} {R : List Int} : ∀ (ro rp D c1 : List Int), prod = c1 ++ rp → D.length = c1.length → ro.length = rp.length → (∀ n ∈ rp, num n = true) → (∀ n ∈ ro, num n = true) →
    From K (fun k => verditerref08_through.l0 k l (D ++ List.zipWith (fun a b => (a + fac * b) % 251) ro rp) ((i + 1 : Nat) : Int)) R →
    From (K + rp.length + 1) (fun k => verditerref08_through.l3 k l (D ++ ro) (i : Int) prod fac (c1.length : Int)) R := by
  intro ro rp
  have hf' := num_iff.1 hf
  induction rp generalizing ro with
  | nil =>
    intro D c1 hp hD hlen hn hm H
    have e : ro = [] := List.length_eq_zero_iff.1 (by simpa using hlen)
    subst e
    refine From.step H fun k hk => ?_
    rw [verditerref08_through.l3, if_neg (by rw [hp]; simp), wrap_succ i (by omega)]
    rfl
  | cons n rp ih =>
    intro D c1 hp hD hlen hn hm H
    obtain ⟨o, ro, rfl⟩ : ∃ o ro', ro = o :: ro' := by cases ro with
      | nil => simp at hlen
      | cons o ro' => exact ⟨o, ro', rfl⟩
    have hn' := num_iff.1 (hn n (by simp))
    have ho' := num_iff.1 (hm o (by simp))
    have h1 := mul_range hf'.1 hf'.2 hn'.1 hn'.2
    have hlenp : prod.length = c1.length + (rp.length + 1) := by rw [hp]; simp
    have ih' := ih ro (D ++ [(o + fac * n) % 251]) (c1 ++ [n]) (by rw [hp]; simp) (by simp [hD]) (by simpa using hlen) (fun m h => hn m (by simp [h])) (fun m h => hm m (by simp [h])) (by
      have e : D ++ [(o + fac * n) % 251] ++ List.zipWith (fun a b => (a + fac * b) % 251) ro rp = D ++ List.zipWith (fun a b => (a + fac * b) % 251) (o :: ro) (n :: rp) := by simp
      rw [e]; exact H)
    refine From.step (From.more ih' (show K + rp.length + 1 ≤ K + (n :: rp).length by simp; omega)) fun k hk => ?_
    have hr : rd prod (c1.length : Int) = n := by rw [hp]; exact rd_at c1 n rp rfl
    have hDl : (c1.length : Int) = (D.length : Int) := by rw [hD]
    rw [verditerref08_through.l3, if_pos (by omega), if_pos (by omega), if_pos (by simp; omega), hr, rd_at D o ro hDl, wrap_id (a := fac * n) (by omega) (by omega), wrap_id (a := o + fac * n) (by omega) (by omega), mod_eq, Option.bind_some, set_at D o _ ro hDl, wrap_id (a := (c1.length : Int) + 1) (by omega) (by omega)]
    rw [show ((c1.length : Int) + 1) = (((c1 ++ [n]).length : Nat) : Int) by simp]
    simp

/-! ### All points -/
def belI (p : List (Int × Int)) (i : Nat) : Int := belowR (p.getD i (0, 0)).1 ((p.map Prod.fst).eraseIdx i) 1
def proI (p : List (Int × Int)) (i : Nat) : List Int := basisR ((p.map Prod.fst).eraseIdx i) [1]
def facI (p : List (Int × Int)) (i : Nat) : Int := ((p.getD i (0, 0)).2 * invI (belI p i)) % 251
def thrTo (p : List (Int × Int)) : Nat → List Int
  | 0 => List.replicate p.length 0
  | m + 1 => List.zipWith (fun a b => (a + facI p m * b) % 251) (thrTo p m) (proI p m)
theorem proI_length (p : List (Int × Int)) {i : Nat} (hi : i < p.length) : (proI p i).length = p.length := by
  unfold proI
  rw [basisR_length, List.length_eraseIdx, List.length_map, if_pos hi]
  simp; omega
theorem proI_num (p : List (Int × Int)) (i : Nat) : ∀ n ∈ proI p i, num n = true := basisR_num _ _ (by intro n hn; simp at hn; subst hn; rfl)
theorem thrTo_length (p : List (Int × Int)) : ∀ m, m ≤ p.length → (thrTo p m).length = p.length
  | 0, _ => by simp [thrTo]
  | m + 1, h => by rw [thrTo, List.length_zipWith, thrTo_length p m (by omega), proI_length p (by omega)]; omega
theorem thrTo_num (p : List (Int × Int)) : ∀ m, ∀ n ∈ thrTo p m, num n = true
  | 0 => by
    intro n hn
    simp [thrTo] at hn
    rw [hn.2]; rfl
  | m + 1 => by
    intro n hn
    rw [thrTo, List.mem_iff_getElem] at hn
    obtain ⟨i, hi, rfl⟩ := hn
    rw [List.getElem_zipWith]
    exact num_mod _
theorem bel_ne (xi : Int) : ∀ (others : List Int) (b : Int), cst b ≠ 0 → (∀ xj ∈ others, cst xi - cst xj ≠ 0) → cst (belowR xi others b) ≠ 0
  | [], b, hb, _ => hb
  | x :: others, b, hb, h => by
    refine bel_ne xi others ((b * (xi - x)) % 251) ?_ (fun xj hj => h xj (List.mem_cons_of_mem _ hj))
    rw [cst_mod, cst_mul, cst_sub]
    intro e
    exact h x (by simp) (nzd _ _ e hb)
theorem good_ne {p : List (Int × Int)} (h : good p) {i : Nat} (hi : i < p.length) : ∀ xj ∈ (p.map Prod.fst).eraseIdx i, cst (p.getD i (0, 0)).1 - cst xj ≠ 0 := by
  intro xj hm
  obtain ⟨j, hj, hne, rfl⟩ := List.mem_eraseIdx_iff_getElem.1 hm
  rw [List.length_map] at hj
  rw [getD_get _ _ hi]
  refine cst_ne (h.1 _ (List.getElem_mem hi)).1 (by rw [List.getElem_map]; exact (h.1 _ (List.getElem_mem hj)).1) fun e => hne ?_
  have h2 := h.2
  rw [List.Nodup, List.pairwise_iff_getElem] at h2
  rcases Nat.lt_trichotomy i j with hlt | heq | hgt
  · exact absurd (by rw [List.getElem_map, List.getElem_map]; simpa using e) (h2 i j (by simpa using hi) (by simpa using hj) hlt)
  · exact heq.symm
  · exact absurd (by rw [List.getElem_map, List.getElem_map]; simpa using e.symm) (h2 j i (by simpa using hj) (by simpa using hi) hgt)
theorem ev_basisR_zero (x : Fin 251) : ∀ (others c : List Int), (∃ xj ∈ others, cst xj = x) ∨ ev (c.map cst) x = 0 → ev ((basisR others c).map cst) x = 0
  | [], c, h => by
    rcases h with ⟨_, h, _⟩ | h
    · simp at h
    · exact h
  | y :: others, c, h => by
    refine ev_basisR_zero x others (timesL c y 1 0) ?_
    rcases h with ⟨xj, hm, he⟩ | h
    · rcases List.mem_cons.1 hm with rfl | hm
      · right
        rw [ev_timesL, ← he, cst_zero]; grind
      · exact .inl ⟨xj, hm, he⟩
    · right
      rw [ev_timesL, h, cst_zero]; grind
theorem ev_basisR_own (xi : Int) (t : Fin 251) : ∀ (others c : List Int) (b : Int), ev (c.map cst) (cst xi) = t * cst b → ev ((basisR others c).map cst) (cst xi) = t * cst (belowR xi others b)
  | [], c, b, h => h
  | y :: others, c, b, h => by
    refine ev_basisR_own xi t others (timesL c y 1 0) ((b * (xi - y)) % 251) ?_
    rw [ev_timesL, cst_zero, cst_one, h, cst_mod, cst_mul, cst_sub]; grind
theorem ev_thrTo {p : List (Int × Int)} (h : good p) {j : Nat} (hj : j < p.length) : ∀ m, m ≤ p.length → ev ((thrTo p m).map cst) (cst (p.getD j (0, 0)).1) = if j < m then cst (p.getD j (0, 0)).2 else 0
  | 0, _ => by
    rw [if_neg (by omega)]
    exact ev_zeros _ _
  | m + 1, hm => by
    rw [thrTo, ev_zip _ 1 (cst (facI p m)) (fun a b => by rw [cst_mod, cst_add, cst_mul]; grind) _ _ _ (by rw [thrTo_length p m (by omega), proI_length p (by omega)]), ev_thrTo h hj m (by omega)]
    by_cases e : j = m
    · subst e
      rw [if_neg (by omega), if_pos (by omega)]
      have h1 := ev_basisR_own (p.getD j (0, 0)).1 1 ((p.map Prod.fst).eraseIdx j) [1] 1 (by simp only [List.map_cons, List.map_nil, ev, cst_one]; grind)
      have h2 : cst (belI p j) ≠ 0 := bel_ne _ _ 1 (by decide) (good_ne h hj)
      have h3 := inv_mul (belI p j) h2
      rw [show ev ((proI p j).map cst) (cst (p.getD j (0, 0)).1) = 1 * cst (belI p j) from h1]
      unfold facI
      rw [cst_mod, cst_mul]
      generalize cst (invI (belI p j)) = a at *
      generalize cst (belI p j) = b at *
      generalize cst (p.getD j (0, 0)).2 = y at *
      grind
    · have h1 : ev ((proI p m).map cst) (cst (p.getD j (0, 0)).1) = 0 := by
        refine ev_basisR_zero _ _ _ (.inl ⟨(p.getD j (0, 0)).1, ?_, rfl⟩)
        refine List.mem_eraseIdx_iff_getElem.2 ⟨j, by simpa using hj, e, ?_⟩
        rw [List.getElem_map, getD_get _ _ hj]
      rw [h1]
      by_cases hlt : j < m
      · rw [if_pos hlt, if_pos (by omega)]; grind
      · rw [if_neg hlt, if_neg (by omega)]; grind
theorem thr_interp {p : List (Int × Int)} (h : good p) : thrTo p p.length = interp p := by
  refine interp_uniq h (thrTo_length p _ (Nat.le_refl _)) (thrTo_num p _) fun q hq => ?_
  obtain ⟨j, hj, rfl⟩ := List.mem_iff_getElem.1 hq
  symm
  refine atI_eq (h.1 _ hq).2 ?_
  have := ev_thrTo h hj p.length (Nat.le_refl _)
  rw [if_pos hj, getD_get _ _ hj] at this
  exact this.symm

theorem l0_eq (l : List S43) (hl : l.length ≤ 12) (hg : good (pts l)) : ∀ (d m : Nat), m + d = l.length → From (251 + 1 + 500 * d) (fun k => verditerref08_through.l0 k l (thrTo (pts l) m) (m : Int)) (thrTo (pts l) l.length) := by
  have hX : ∀ p ∈ l, num p.f0 = true ∧ num p.f1 = true := fun p hp => hg.1 (p.f0, p.f1) (mem_pts hp)
  have hpm : (pts l).map Prod.fst = l.map S43.f0 := by unfold pts; rw [List.map_map]; rfl
  intro d
  induction d with
  | zero =>
    intro m hm k hk
    obtain ⟨k, rfl⟩ : ∃ j, k = j + 1 := ⟨k - 1, by omega⟩
    have e : m = l.length := by omega
    subst e
    show verditerref08_through.l0 (k + 1) l _ _ = _
    rw [verditerref08_through.l0, if_neg (by omega)]
  | succ d ih =>
    intro m hm
    have hml : m < l.length := by omega
    have hmp : m < (pts l).length := by rw [pts_length]; exact hml
    have hfst : ((pts l).getD m (0, 0)).1 = l[m].f0 := by rw [getD_get _ _ hmp]; simp [pts]
    have hsnd : ((pts l).getD m (0, 0)).2 = l[m].f1 := by rw [getD_get _ _ hmp]; simp [pts]
    have hbel : belowR l[m].f0 (oth (l.map S43.f0) m 0) 1 = belI (pts l) m := by unfold belI; rw [hfst, hpm, oth_zero]
    have hpro : basisR (oth (l.map S43.f0) m 0) [1] = proI (pts l) m := by unfold proI; rw [hpm, oth_zero]
    have hne : belI (pts l) m ≠ 0 := by
      intro e
      have h2 : cst (belI (pts l) m) ≠ 0 := bel_ne _ _ 1 (by decide) (good_ne hg hmp)
      rw [e] at h2
      exact h2 rfl
    have hpl := proI_length (pts l) hmp
    rw [pts_length] at hpl
    have htl := thrTo_length (pts l) m (by rw [pts_length]; omega)
    rw [pts_length] at htl
    have h3 := l3_eq l m (proI (pts l) m) (facI (pts l) m) hl hml (num_mod _) (by omega) (thrTo (pts l) m) (proI (pts l) m) [] [] rfl rfl (by omega) (proI_num _ _) (thrTo_num _ _) (ih (m + 1) (by omega))
    have h1 := l1_eq l (thrTo (pts l) m) m hml hl hX (show 251 ≤ 251 + 1 + 500 * d + (proI (pts l) m).length + 1 by omega) (R := thrTo (pts l) l.length) l.length 0 [1] 1 (by omega) (by simp) (by intro n hn; simp at hn; subst hn; rfl) rfl (by rw [hbel]; exact hne) (by
      rw [hbel, hpro]
      have e : facI (pts l) m = (l[m].f1 * invI (belI (pts l) m)) % 251 := by unfold facI; rw [hsnd]
      rw [← e]
      exact h3)
    refine From.more (From.step h1 fun k hk => ?_) (show 251 + 1 + 500 * d + (proI (pts l) m).length + 1 + 1 + 20 * l.length + 1 ≤ 251 + 1 + 500 * (d + 1) by omega)
    rw [verditerref08_through.l0, if_pos (by omega)]
    rfl
theorem through_eq (l : List S43) (hl : l.length ≤ 12) (hg : good (pts l)) (k : Nat) (hk : 7000 ≤ k) : verditerref08_through.f k l = some (interp (pts l)) := by
  rw [verditerref08_through.f, if_pos (by omega), if_pos (by omega), Int.toNat_natCast]
  have h := l0_eq l hl hg l.length 0 (by omega) k (by omega)
  have e := thr_interp hg
  rw [pts_length] at e
  rw [e] at h
  have e2 : thrTo (pts l) 0 = List.replicate l.length 0 := by rw [thrTo, pts_length]
  rw [← e2]
  exact h
end Go.Proofs.Ythlbjdiicmojfaa.P

/-! Part Rval. -/
namespace Go.Proofs.Ythlbjdiicmojfaa.P
open Go.RowKit Go.Proofs.YthlbjdiicmojfaaW.PrintWords Go.Proofs.YthlbjdiicmojfaaW.PrintLast Go.Proofs.YthlbjdiicmojfaaW.PrintMore
set_option linter.unusedVariables false

/-- Twice the same place: the reference tells 6, from i on, where a pair lies at or behind i. -/
theorem rval_l2 (l : List S43) (hl : l.length ≤ 12) (i : Nat) (hi : i < l.length) (R : Int) (K : Nat) (H : ∀ k, K ≤ k → verditerref08_Validate.l1 k l ((i + 1 : Nat) : Int) = some R) :
    ∀ (d j : Nat), j + d = i → ∀ k, K + d + 1 ≤ k → ((∃ m, ∃ h : m < l.length, j ≤ m ∧ m < i ∧ l[m].f0 = l[i].f0) → verditerref08_Validate.l2 k l (i : Int) (j : Int) = some 6) ∧ ((¬ ∃ m, ∃ h : m < l.length, j ≤ m ∧ m < i ∧ l[m].f0 = l[i].f0) → verditerref08_Validate.l2 k l (i : Int) (j : Int) = some R) := by
  intro d
  induction d with
  | zero =>
    intro j hj k hk
    obtain ⟨k, rfl⟩ : ∃ j, k = j + 1 := ⟨k - 1, by omega⟩
    refine ⟨fun ⟨m, _, h1, h2, _⟩ => by omega, fun _ => ?_⟩
    rw [verditerref08_Validate.l2, if_neg (by omega), wrap_succ i (by omega)]
    exact H k (by omega)
  | succ d ih =>
    intro j hj k hk
    obtain ⟨k, rfl⟩ : ∃ j, k = j + 1 := ⟨k - 1, by omega⟩
    have ih' := ih (j + 1) (by omega) k (by omega)
    rw [verditerref08_Validate.l2, if_pos (by omega), if_pos (by omega), if_pos (by omega), if_pos (by omega), if_pos (by omega), rdT_get l i hi, rdT_get l j (by omega)]
    by_cases e : l[i].f0 = l[j].f0
    · rw [if_pos e]
      exact ⟨fun _ => rfl, fun h => absurd ⟨j, by omega, Nat.le_refl _, by omega, e.symm⟩ h⟩
    · rw [if_neg e, wrap_succ j (by omega)]
      refine ⟨fun ⟨m, hm, h1, h2, h3⟩ => ih'.1 ⟨m, hm, ?_, h2, h3⟩, fun h => ih'.2 fun ⟨m, hm, h1, h2, h3⟩ => h ⟨m, hm, by omega, h2, h3⟩⟩
      rcases Nat.eq_or_lt_of_le h1 with rfl | h
      · exact absurd h3.symm e
      · omega
theorem rval_l1 (l : List S43) (hl : l.length ≤ 12) : ∀ (d i : Nat), i + d = l.length → ∀ k, 20 * d + 1 ≤ k →
    ((∃ n m, ∃ h : n < l.length, ∃ h' : m < l.length, i ≤ n ∧ m < n ∧ l[m].f0 = l[n].f0) → verditerref08_Validate.l1 k l (i : Int) = some 6) ∧
    ((¬ ∃ n m, ∃ h : n < l.length, ∃ h' : m < l.length, i ≤ n ∧ m < n ∧ l[m].f0 = l[n].f0) → verditerref08_Validate.l1 k l (i : Int) = some 0) := by
  intro d
  induction d with
  | zero =>
    intro i hi k hk
    obtain ⟨k, rfl⟩ : ∃ j, k = j + 1 := ⟨k - 1, by omega⟩
    refine ⟨fun ⟨n, m, h, _, h1, _⟩ => by omega, fun _ => ?_⟩
    rw [verditerref08_Validate.l1, if_neg (by omega)]
  | succ d ih =>
    intro i hi k hk
    obtain ⟨k, rfl⟩ : ∃ j, k = j + 1 := ⟨k - 1, by omega⟩
    have hil : i < l.length := by omega
    rw [verditerref08_Validate.l1, if_pos (by omega)]
    by_cases hex : ∃ n m, ∃ h : n < l.length, ∃ h' : m < l.length, i + 1 ≤ n ∧ m < n ∧ l[m].f0 = l[n].f0
    · have h2 := rval_l2 l hl i hil 6 (20 * d + 1) (fun k hk => (ih (i + 1) (by omega) k hk).1 hex) i 0 (by omega) k (by omega)
      refine ⟨fun _ => ?_, fun h => absurd (by obtain ⟨n, m, h, h', h1, h2⟩ := hex; exact ⟨n, m, h, h', by omega, h2⟩) h⟩
      by_cases hh : ∃ m, ∃ h : m < l.length, 0 ≤ m ∧ m < i ∧ l[m].f0 = l[i].f0
      · exact h2.1 hh
      · exact h2.2 hh
    · have h2 := rval_l2 l hl i hil 0 (20 * d + 1) (fun k hk => (ih (i + 1) (by omega) k hk).2 hex) i 0 (by omega) k (by omega)
      refine ⟨fun ⟨n, m, h, h', h1, h3, h4⟩ => ?_, fun h => ?_⟩
      · rcases Nat.eq_or_lt_of_le h1 with rfl | hlt
        · exact h2.1 ⟨m, h', Nat.zero_le _, h3, h4⟩
        · exact absurd ⟨n, m, h, h', by omega, h3, h4⟩ hex
      · exact h2.2 fun ⟨m, hm, _, h3, h4⟩ => h ⟨i, m, hil, hm, Nat.le_refl _, h3, h4⟩
theorem rval_l0 (l : List S43) (hl : l.length ≤ 12) (R : Int) (K : Nat) (H : ∀ k, K ≤ k → verditerref08_Validate.l1 k l 0 = some R) : ∀ (d i : Nat), i + d = l.length → ∀ k, K + d + 1 ≤ k →
    verditerref08_Validate.l0 k l (i : Int) = some (if (l.drop i).all okP = true then R else 1) := by
  intro d
  induction d with
  | zero =>
    intro i hi k hk
    obtain ⟨k, rfl⟩ : ∃ j, k = j + 1 := ⟨k - 1, by omega⟩
    rw [verditerref08_Validate.l0, if_neg (by omega), List.drop_of_length_le (by omega), H k (by omega)]; rfl
  | succ d ih =>
    intro i hi k hk
    obtain ⟨k, rfl⟩ : ∃ j, k = j + 1 := ⟨k - 1, by omega⟩
    have hil : i < l.length := by omega
    rw [verditerref08_Validate.l0, if_pos (by omega), if_pos (by omega), rdT_get l i hil, rwithin_eq, Option.bind_some, risNumber_eq, List.drop_eq_getElem_cons hil, List.all_cons]
    have he : okP l[i] = ((decide (1 ≤ l[i].f0) && decide (l[i].f0 ≤ 250)) && num l[i].f1) := rfl
    rw [he]
    cases h1 : (decide (1 ≤ l[i].f0) && decide (l[i].f0 ≤ 250)) with
    | false => rfl
    | true =>
      rw [if_pos rfl, Option.bind_some]
      cases h2 : num l[i].f1 with
      | false => rfl
      | true =>
        rw [if_pos rfl, wrap_succ i (by omega), ih (i + 1) (by omega) k (by omega)]; rfl
theorem rval_eq (l : List S43) (k : Nat) (hk : 300 ≤ k) : verditerref08_Validate.f k l = some (valid l) := by
  rw [verditerref08_Validate.f]
  unfold valid
  by_cases hl : 12 < l.length
  · rw [if_pos (by omega), if_pos hl]
  · rw [if_neg (by omega), if_neg hl]
    have hnd : (l.map S43.f0).Nodup ↔ ¬ ∃ n m, ∃ h : n < l.length, ∃ h' : m < l.length, 0 ≤ n ∧ m < n ∧ l[m].f0 = l[n].f0 := by
      rw [List.Nodup, List.pairwise_iff_getElem]
      constructor
      · intro h ⟨n, m, hn, hm, _, hlt, e⟩
        exact h m n (by simpa using hm) (by simpa using hn) hlt (by rw [List.getElem_map, List.getElem_map]; exact e)
      · intro h i j hi hj hlt e
        rw [List.getElem_map, List.getElem_map] at e
        exact h ⟨j, i, by simpa using hj, by simpa using hi, Nat.zero_le _, hlt, e⟩
    have h1 : ∀ k, 20 * l.length + 1 ≤ k → verditerref08_Validate.l1 k l 0 = some (if (l.map S43.f0).Nodup then 0 else 6) := by
      intro k hk
      have := rval_l1 l (by omega) l.length 0 (by omega) k hk
      by_cases hh : (l.map S43.f0).Nodup
      · rw [if_pos hh]; exact this.2 (hnd.1 hh)
      · rw [if_neg hh]
        refine this.1 ?_
        by_cases e : ∃ n m, ∃ h : n < l.length, ∃ h' : m < l.length, 0 ≤ n ∧ m < n ∧ l[m].f0 = l[n].f0
        · exact e
        · exact absurd (hnd.2 e) hh
    have h0 := rval_l0 l (by omega) _ _ h1 l.length 0 (by omega) k (by omega)
    rw [List.drop_zero] at h0
    exact h0
end Go.Proofs.Ythlbjdiicmojfaa.P

/-! Part Known. -/
namespace Go.Proofs.Ythlbjdiicmojfaa.P
open Go.RowKit Go.Proofs.YthlbjdiicmojfaaW.PrintWords Go.Proofs.YthlbjdiicmojfaaW.PrintLast Go.Proofs.YthlbjdiicmojfaaW.PrintMore
set_option linter.unusedVariables false
set_option maxRecDepth 100000
theorem known_ten : verditerlaw08_known.f 20 = some true := by decide +kernel
theorem known_eq (k : Nat) (hk : 20 ≤ k) : verditerlaw08_known.f k = some true := at_rounds (g := verditerlaw08_known.f) verditerlaw08_known.mono hk known_ten
end Go.Proofs.Ythlbjdiicmojfaa.P

/-! Part PF44. -/
-- Written for this claim by wip/print_more.py (a session's program that runs the kit's printer with hand-proved functions beside). Lean checks it.
namespace Go.Proofs.Ythlbjdiicmojfaa.P
open Go.RowKit Go.Proofs.YthlbjdiicmojfaaW.PrintWords Go.Proofs.YthlbjdiicmojfaaW.PrintLast Go.Proofs.YthlbjdiicmojfaaW.PrintMore
attribute [local go_sem] max2_int min2_int max_two min_two max_three min_three max_four min_four   -- for this text's walks alone
set_option linter.unusedVariables false
set_option linter.unusedSimpArgs false

/-! ### secret_At: function 44 -/
def secret_At.f (l0 : List Int) (a1 : Int) : Option (Int × Int) := (secret_isCurve.f l0).bind fun t220 => (if t220 = 0 then ((secret_isNumber.f a1).bind fun t221 => (if t221 = true then ((secret_curve_at.f l0 a1).bind fun t222 => (some (t222, 0))) else (some (0, 1)))) else (some (0, t220)))
set_option maxHeartbeats 8000000 in
set_option maxRecDepth 100000 in
theorem secret_At.calls (A0 : Option Addr) (c0 : Nat) (l0 : List Int) (a1 : Int) (r1 : Int) (r2 : Int) (w : World) (hr0 : Kd.C (Kd.int .i64) w A0 l0.length l0) (hc0 : l0.length ≤ c0) (h : secret_At.f l0 a1 = some (r1, r2)) :
    Calls Try.prog 44 #[.slice A0 l0.length c0, .int .i64 a1] w fun e w' => e = .returned (.tuple #[.int .i64 r1, .int .i64 r2]) ∧ Below w.heap.size w w' := by
  have HR0 := Aside0.mk hr0
  have HC0 := Aside0.mk hc0
  clear hr0 hc0
  have HB := Aside0.mk (Below.refl w.heap.size w)
  have H : ((secret_isCurve.f l0).bind fun t220 => (if t220 = 0 then ((secret_isNumber.f a1).bind fun t221 => (if t221 = true then ((secret_curve_at.f l0 a1).bind fun t222 => (some (t222, 0))) else (some (0, 1)))) else (some (0, t220)))) = some (r1, r2) := h
  clear h
  replace H := Option.bind_eq_some_iff.mp H
  obtain ⟨t220, A30, H⟩ := H
  replace H : (if t220 = 0 then ((secret_isNumber.f a1).bind fun t221 => (if t221 = true then ((secret_curve_at.f l0 a1).bind fun t222 => (some (t222, 0))) else (some (0, 1)))) else (some (0, t220))) = some (r1, r2) := H
  have A3 := Aside0.mk A30
  clear A30
  by_cases c4 : t220 = 0
  · rw [if_pos c4] at H
    have c4b0 : (t220 == 0) = true := beq_iff_eq.mpr c4
    have c4b1 : (t220 != 0) = false := bne_eq_false_iff_eq.mpr c4
    clear c4
    replace H := Option.bind_eq_some_iff.mp H
    obtain ⟨t221, A50, H⟩ := H
    replace H : (if t221 = true then ((secret_curve_at.f l0 a1).bind fun t222 => (some (t222, 0))) else (some (0, 1))) = some (r1, r2) := H
    have A5 := Aside0.mk A50
    clear A50
    by_cases c6 : t221 = true
    · subst c6
      have H1 : ((secret_curve_at.f l0 a1).bind fun t222 => (some (t222, 0))) = some (r1, r2) := by rw [if_pos rfl] at H; exact H
      clear H
      have H := H1
      clear H1
      replace H := Option.bind_eq_some_iff.mp H
      obtain ⟨t222, A70, H⟩ := H
      replace H : (some (t222, 0)) = some (r1, r2) := H
      have A7 := Aside0.mk A70
      clear A70
      simp only [Option.some.injEq, Prod.mk.injEq] at H
      obtain ⟨rfl, rfl⟩ := H
      go_enter Try.func44, Try.ntmps44
      go_wp2_with (first | ((with_reducible refine gate_callee (f := 79) rfl ?_); refine goesL_ (some 8) rfl rfl Try.func79 (by kernel_rfl) rfl #[.slice A0 l0.length c0] rfl (by (try simp only [List.map_toArray, List.map_cons, List.map_nil]); first | done | rfl | (simp only [List.length_drop, List.length_take]; rfl)) ?_; (with_reducible refine (secret_isCurve.calls _ _ l0 t220 _ ?side1 ?side2 A3.out).mono ?_); (case side1 => repeat (first | exact HR0.out | (with_reducible refine Kd.C_alloc ?_ _) | (with_reducible refine Kd.C_drewN ?_ _) | (with_reducible refine Kd.C_drew ?_))); (case side2 => exact HC0.out); rintro e w8 ⟨rfl, hb⟩; refine ⟨_, rfl, ?_⟩; have n0_ := Aside0.mk (below_step (by repeat (first | (with_reducible first | exact HB.out | apply below_alloc | apply pw_below_drewN | apply below_drew1) | exact HB.out)) hb); clear HB; have HB := n0_; clear n0_; (try clear hb); (try clear hb2); (try clear hk); (try clear hi)) | ((with_reducible refine gate_callee (f := 77) rfl ?_); refine goesL_ (some 13) rfl rfl Try.func77 (by kernel_rfl) rfl #[.int .i64 a1] rfl (by (try simp only [List.map_toArray, List.map_cons, List.map_nil]); first | done | rfl | (simp only [List.length_drop, List.length_take]; rfl)) ?_; (with_reducible refine (secret_isNumber.calls a1 true _ A5.out).mono ?_); rintro e w' ⟨rfl, ⟨nd, rfl⟩⟩; refine ⟨_, rfl, ?_⟩) | ((with_reducible refine gate_callee (f := 80) rfl ?_); refine goesL_ (some 17) rfl rfl Try.func80 (by kernel_rfl) rfl #[.slice A0 l0.length c0, .int .i64 a1] rfl (by (try simp only [List.map_toArray, List.map_cons, List.map_nil]); first | done | rfl | (simp only [List.length_drop, List.length_take]; rfl)) ?_; (with_reducible refine (secret_curve_at.calls _ _ l0 a1 t222 _ ?side1 ?side2 A7.out).mono ?_); (case side1 => repeat (first | exact (Kd.C_below HR0.out (by repeat (first | (with_reducible first | exact HB.out | apply below_alloc | apply pw_below_drewN | apply below_drew1) | exact HB.out))) | (with_reducible refine Kd.C_alloc ?_ _) | (with_reducible refine Kd.C_drewN ?_ _) | (with_reducible refine Kd.C_drew ?_))); (case side2 => exact HC0.out); rintro e w9 ⟨rfl, hb⟩; refine ⟨_, rfl, ?_⟩; have n0_ := Aside0.mk (below_step (by repeat (first | (with_reducible first | exact HB.out | apply below_alloc | apply pw_below_drewN | apply below_drew1) | exact HB.out)) hb); clear HB; have HB := n0_; clear n0_; (try clear hb); (try clear hb2); (try clear hk); (try clear hi)))
      go_ret2
      exact ⟨by first | rfl | (simp [errW_none, errW_some] <;> rfl) | (simp [*, errW_none, errW_some] <;> rfl), by repeat (first | (with_reducible first | exact HB.out | apply below_alloc | apply pw_below_drewN | apply below_drew1) | exact HB.out)⟩
    · replace c6 := Bool.eq_false_iff.mpr c6
      subst c6
      have H1 : (some (0, 1)) = some (r1, r2) := by rw [if_neg (show ¬ (false = true) by decide)] at H; exact H
      clear H
      have H := H1
      clear H1
      simp only [Option.some.injEq, Prod.mk.injEq] at H
      obtain ⟨rfl, rfl⟩ := H
      go_enter Try.func44, Try.ntmps44
      go_wp2_with (first | ((with_reducible refine gate_callee (f := 79) rfl ?_); refine goesL_ (some 8) rfl rfl Try.func79 (by kernel_rfl) rfl #[.slice A0 l0.length c0] rfl (by (try simp only [List.map_toArray, List.map_cons, List.map_nil]); first | done | rfl | (simp only [List.length_drop, List.length_take]; rfl)) ?_; (with_reducible refine (secret_isCurve.calls _ _ l0 t220 _ ?side1 ?side2 A3.out).mono ?_); (case side1 => repeat (first | exact HR0.out | (with_reducible refine Kd.C_alloc ?_ _) | (with_reducible refine Kd.C_drewN ?_ _) | (with_reducible refine Kd.C_drew ?_))); (case side2 => exact HC0.out); rintro e w10 ⟨rfl, hb⟩; refine ⟨_, rfl, ?_⟩; have n0_ := Aside0.mk (below_step (by repeat (first | (with_reducible first | exact HB.out | apply below_alloc | apply pw_below_drewN | apply below_drew1) | exact HB.out)) hb); clear HB; have HB := n0_; clear n0_; (try clear hb); (try clear hb2); (try clear hk); (try clear hi)) | ((with_reducible refine gate_callee (f := 77) rfl ?_); refine goesL_ (some 13) rfl rfl Try.func77 (by kernel_rfl) rfl #[.int .i64 a1] rfl (by (try simp only [List.map_toArray, List.map_cons, List.map_nil]); first | done | rfl | (simp only [List.length_drop, List.length_take]; rfl)) ?_; (with_reducible refine (secret_isNumber.calls a1 false _ A5.out).mono ?_); rintro e w' ⟨rfl, ⟨nd, rfl⟩⟩; refine ⟨_, rfl, ?_⟩))
      go_ret2
      exact ⟨by first | rfl | (simp [errW_none, errW_some] <;> rfl) | (simp [*, errW_none, errW_some] <;> rfl), by repeat (first | (with_reducible first | exact HB.out | apply below_alloc | apply pw_below_drewN | apply below_drew1) | exact HB.out)⟩
  · rw [if_neg c4] at H
    have c4b0 : (t220 == 0) = false := beq_eq_false_iff_ne.mpr c4
    have c4b1 : (t220 != 0) = true := bne_iff_ne.mpr c4
    simp only [Option.some.injEq, Prod.mk.injEq] at H
    obtain ⟨rfl, rfl⟩ := H
    go_enter Try.func44, Try.ntmps44
    go_wp2_with (first | ((with_reducible refine gate_callee (f := 79) rfl ?_); refine goesL_ (some 8) rfl rfl Try.func79 (by kernel_rfl) rfl #[.slice A0 l0.length c0] rfl (by (try simp only [List.map_toArray, List.map_cons, List.map_nil]); first | done | rfl | (simp only [List.length_drop, List.length_take]; rfl)) ?_; (with_reducible refine (secret_isCurve.calls _ _ l0 t220 _ ?side1 ?side2 A3.out).mono ?_); (case side1 => repeat (first | exact HR0.out | (with_reducible refine Kd.C_alloc ?_ _) | (with_reducible refine Kd.C_drewN ?_ _) | (with_reducible refine Kd.C_drew ?_))); (case side2 => exact HC0.out); rintro e w11 ⟨rfl, hb⟩; refine ⟨_, rfl, ?_⟩; have n0_ := Aside0.mk (below_step (by repeat (first | (with_reducible first | exact HB.out | apply below_alloc | apply pw_below_drewN | apply below_drew1) | exact HB.out)) hb); clear HB; have HB := n0_; clear n0_; (try clear hb); (try clear hb2); (try clear hk); (try clear hi)))
    go_ret2
    exact ⟨by first | rfl | (simp [errW_none, errW_some] <;> rfl) | (simp [*, errW_none, errW_some] <;> rfl), by repeat (first | (with_reducible first | exact HB.out | apply below_alloc | apply pw_below_drewN | apply below_drew1) | exact HB.out)⟩

end Go.Proofs.Ythlbjdiicmojfaa.P
