/- Parts of the proof of the law SecretReturns: walks of functions that it reaches, and plain facts about numbers, lists and curves; without a condition. -/
import Derived.Test.YthlbjdiicmojfaaSecretReturnsM1
import Derived.Test.YthlbjdiicmojfaaSecretReturnsM3
import Derived.Test.YthlbjdiicmojfaaVSized
import Derived.Deep.SlicePairs
import Derived.Test.YthlbjdiicmojfaaSecretReturnsM2
/-! Part PF29. -/
-- Written for this claim by wip/print_more.py (a session's program that runs the kit's printer with hand-proved functions beside). Lean checks it.
namespace Go.Proofs.Ythlbjdiicmojfaa.P
open Go.RowKit Go.Proofs.YthlbjdiicmojfaaW.PrintWords Go.Proofs.YthlbjdiicmojfaaW.PrintLast Go.Proofs.YthlbjdiicmojfaaW.PrintMore
attribute [local go_sem] max2_int min2_int max_two min_two max_three min_three max_four min_four   -- for this text's walks alone
set_option linter.unusedVariables false
set_option linter.unusedSimpArgs false

/-! ### verditerlaw08_secretReturns: function 29 -/
def verditerlaw08_secretReturns.f (k : Nat) (l0 : List Int) (a1 : Int) : Option (Bool) := if (l0.length : Int) > 100 then ((verditerlaw08_known.f k).bind fun t356 => (some t356)) else ((secret_Share.f k l0 12).bind fun bt357 => (if bt357.2 = 0 then (if (bt357.1.length : Int) = 12 then (if (IntKind.u64.wrap (wrap64 ((wrap64 (12 - (l0.length : Int))) + 1))) = 0 then (none) else ((some (([] : List (S43)) : List (S43))).bind fun y362 => (if 0 ≤ (wrap64 (Int.tmod (IntKind.u64.wrap (a1)) (IntKind.u64.wrap (wrap64 ((wrap64 (12 - (l0.length : Int))) + 1))))) then (if (wrap64 (Int.tmod (IntKind.u64.wrap (a1)) (IntKind.u64.wrap (wrap64 ((wrap64 (12 - (l0.length : Int))) + 1))))) ≤ (wrap64 ((wrap64 (Int.tmod (IntKind.u64.wrap (a1)) (IntKind.u64.wrap (wrap64 ((wrap64 (12 - (l0.length : Int))) + 1))))) + (l0.length : Int))) then (if (wrap64 ((wrap64 (Int.tmod (IntKind.u64.wrap (a1)) (IntKind.u64.wrap (wrap64 ((wrap64 (12 - (l0.length : Int))) + 1))))) + (l0.length : Int))) ≤ (bt357.1.length : Int) then ((some ((bt357.1.take ((wrap64 ((wrap64 (Int.tmod (IntKind.u64.wrap (a1)) (IntKind.u64.wrap (wrap64 ((wrap64 (12 - (l0.length : Int))) + 1))))) + (l0.length : Int))) : Int).toNat).drop ((wrap64 (Int.tmod (IntKind.u64.wrap (a1)) (IntKind.u64.wrap (wrap64 ((wrap64 (12 - (l0.length : Int))) + 1))))) : Int).toNat : List (S43))).bind fun y365 => (if y362.length + y365.length < 8796093022208 then ((secret_Curve.f (y362 ++ y365)).bind fun bt372 => ((some (([] : List (S43)) : List (S43))).bind fun y376 => ((some ((bt357.1.take ((wrap64 ((wrap64 (Int.tmod (IntKind.u64.wrap (a1)) (IntKind.u64.wrap (wrap64 ((wrap64 (12 - (l0.length : Int))) + 1))))) + (l0.length : Int))) : Int).toNat).drop ((wrap64 (Int.tmod (IntKind.u64.wrap (a1)) (IntKind.u64.wrap (wrap64 ((wrap64 (12 - (l0.length : Int))) + 1))))) : Int).toNat : List (S43))).bind fun y379 => (if y376.length + y379.length < 8796093022208 then ((secret_Secret.f (y376 ++ y379)).bind fun bt386 => (if bt372.2 = 0 then ((verditerref08_SameInts.f k bt372.1 l0).bind fun t388 => (if t388 = true then (if bt386.2 = 0 then (if 0 < (l0.length : Int) then (if bt386.1 = (rd l0 0) then ((verditerlaw08_known.f k).bind fun t390 => (some t390)) else (some false)) else (none)) else (some false)) else (some false))) else (some false))) else (none))))) else (none))) else (none)) else (none)) else (none)))) else (some false)) else ((verditerlaw08_known.f k).bind fun t361 => (some t361))))
theorem verditerlaw08_secretReturns.mono : ∀ a0 a1 k, LeO (verditerlaw08_secretReturns.f k a0 a1) (verditerlaw08_secretReturns.f (k + 1) a0 a1) := by
  intro a0 a1 k
  unfold verditerlaw08_secretReturns.f
  repeat' first
      | (with_reducible exact secret_Share.mono _ _ _)
      | (with_reducible exact verditerlaw08_known.mono _)
      | (with_reducible exact verditerref08_SameInts.mono _ _ _)
      | (with_reducible exact LeO.refl _)
      | (with_reducible exact LeO.none _)
      | (with_reducible refine LeO.ite ?_ ?_)
      | (with_reducible refine LeO.bind ?_ (fun _ => ?_))
      | exact secret_Share.mono _ _ _
      | exact verditerlaw08_known.mono _
      | exact verditerref08_SameInts.mono _ _ _
      | exact LeO.none _
      | refine LeO.ite ?_ ?_
      | refine LeO.bind ?_ (fun _ => ?_)
set_option maxHeartbeats 8000000 in
set_option maxRecDepth 100000 in
theorem verditerlaw08_secretReturns.calls (k : Nat) (A0 : Option Addr) (c0 : Nat) (l0 : List Int) (a1 : Int) (r : Bool) (w : World) (hr0 : Kd.C (Kd.int .i64) w A0 l0.length l0) (hc0 : l0.length ≤ c0) (h : verditerlaw08_secretReturns.f k l0 a1 = some r) (hrt : r = true) :
    Calls Try.prog 29 #[.slice A0 l0.length c0, .int .i64 a1] w fun e w' => e = .returned (.bool r) ∧ Below w.heap.size w w' := by
  have HR0 := Aside0.mk hr0
  have HC0 := Aside0.mk hc0
  clear hr0 hc0
  have HB := Aside0.mk (Below.refl w.heap.size w)
  have H : (if (l0.length : Int) > 100 then ((verditerlaw08_known.f k).bind fun t356 => (some t356)) else ((secret_Share.f k l0 12).bind fun bt357 => (if bt357.2 = 0 then (if (bt357.1.length : Int) = 12 then (if (IntKind.u64.wrap (wrap64 ((wrap64 (12 - (l0.length : Int))) + 1))) = 0 then (none) else ((some (([] : List (S43)) : List (S43))).bind fun y362 => (if 0 ≤ (wrap64 (Int.tmod (IntKind.u64.wrap (a1)) (IntKind.u64.wrap (wrap64 ((wrap64 (12 - (l0.length : Int))) + 1))))) then (if (wrap64 (Int.tmod (IntKind.u64.wrap (a1)) (IntKind.u64.wrap (wrap64 ((wrap64 (12 - (l0.length : Int))) + 1))))) ≤ (wrap64 ((wrap64 (Int.tmod (IntKind.u64.wrap (a1)) (IntKind.u64.wrap (wrap64 ((wrap64 (12 - (l0.length : Int))) + 1))))) + (l0.length : Int))) then (if (wrap64 ((wrap64 (Int.tmod (IntKind.u64.wrap (a1)) (IntKind.u64.wrap (wrap64 ((wrap64 (12 - (l0.length : Int))) + 1))))) + (l0.length : Int))) ≤ (bt357.1.length : Int) then ((some ((bt357.1.take ((wrap64 ((wrap64 (Int.tmod (IntKind.u64.wrap (a1)) (IntKind.u64.wrap (wrap64 ((wrap64 (12 - (l0.length : Int))) + 1))))) + (l0.length : Int))) : Int).toNat).drop ((wrap64 (Int.tmod (IntKind.u64.wrap (a1)) (IntKind.u64.wrap (wrap64 ((wrap64 (12 - (l0.length : Int))) + 1))))) : Int).toNat : List (S43))).bind fun y365 => (if y362.length + y365.length < 8796093022208 then ((secret_Curve.f (y362 ++ y365)).bind fun bt372 => ((some (([] : List (S43)) : List (S43))).bind fun y376 => ((some ((bt357.1.take ((wrap64 ((wrap64 (Int.tmod (IntKind.u64.wrap (a1)) (IntKind.u64.wrap (wrap64 ((wrap64 (12 - (l0.length : Int))) + 1))))) + (l0.length : Int))) : Int).toNat).drop ((wrap64 (Int.tmod (IntKind.u64.wrap (a1)) (IntKind.u64.wrap (wrap64 ((wrap64 (12 - (l0.length : Int))) + 1))))) : Int).toNat : List (S43))).bind fun y379 => (if y376.length + y379.length < 8796093022208 then ((secret_Secret.f (y376 ++ y379)).bind fun bt386 => (if bt372.2 = 0 then ((verditerref08_SameInts.f k bt372.1 l0).bind fun t388 => (if t388 = true then (if bt386.2 = 0 then (if 0 < (l0.length : Int) then (if bt386.1 = (rd l0 0) then ((verditerlaw08_known.f k).bind fun t390 => (some t390)) else (some false)) else (none)) else (some false)) else (some false))) else (some false))) else (none))))) else (none))) else (none)) else (none)) else (none)))) else (some false)) else ((verditerlaw08_known.f k).bind fun t361 => (some t361))))) = some r := h
  clear h
  by_cases c3 : (l0.length : Int) > 100
  · rw [if_pos c3] at H
    have c3b0 : decide (100 < (l0.length : Int)) = true := decide_eq_true c3
    have c3b1 : decide (100 < l0.length) = true := decide_eq_true (by omega)
    clear c3
    replace H := Option.bind_eq_some_iff.mp H
    obtain ⟨t356, A40, H⟩ := H
    replace H : (some t356) = some r := H
    have A4 := Aside0.mk A40
    clear A40
    obtain rfl := Option.some.inj H
    go_enter Try.func29, Try.ntmps29
    go_wp2_with (first | ((with_reducible refine gate_callee (f := 40) rfl ?_); refine goesL_ (some 15) rfl rfl Try.func40 (by kernel_rfl) rfl #[] rfl (by (try simp only [List.map_toArray, List.map_cons, List.map_nil]); first | done | rfl | (simp only [List.length_drop, List.length_take]; rfl)) ?_; (with_reducible refine (verditerlaw08_known.calls k  t356 _ A4.out).mono ?_); rintro e w5 ⟨rfl, hb⟩; refine ⟨_, rfl, ?_⟩; have n0_ := Aside0.mk (below_step (by repeat (first | (with_reducible first | exact HB.out | apply below_alloc | apply pw_below_drewN | apply below_drew1) | exact HB.out)) hb); clear HB; have HB := n0_; clear n0_; (try clear hb); (try clear hb2); (try clear hk); (try clear hi)))
    go_ret
    exact ⟨by first | rfl | (simp [errW_none, errW_some] <;> rfl) | (simp [*, errW_none, errW_some] <;> rfl), by repeat (first | (with_reducible first | exact HB.out | apply below_alloc | apply pw_below_drewN | apply below_drew1) | exact HB.out)⟩
  · rw [if_neg c3] at H
    have c3b0 : decide (100 < (l0.length : Int)) = false := decide_eq_false c3
    have c3b1 : decide (100 < l0.length) = false := decide_eq_false (by omega)
    clear c3
    replace H := Option.bind_eq_some_iff.mp H
    obtain ⟨⟨t357, t358⟩, A60, H⟩ := H
    replace H : (if t358 = 0 then (if (t357.length : Int) = 12 then (if (IntKind.u64.wrap (wrap64 ((wrap64 (12 - (l0.length : Int))) + 1))) = 0 then (none) else ((some (([] : List (S43)) : List (S43))).bind fun y362 => (if 0 ≤ (wrap64 (Int.tmod (IntKind.u64.wrap (a1)) (IntKind.u64.wrap (wrap64 ((wrap64 (12 - (l0.length : Int))) + 1))))) then (if (wrap64 (Int.tmod (IntKind.u64.wrap (a1)) (IntKind.u64.wrap (wrap64 ((wrap64 (12 - (l0.length : Int))) + 1))))) ≤ (wrap64 ((wrap64 (Int.tmod (IntKind.u64.wrap (a1)) (IntKind.u64.wrap (wrap64 ((wrap64 (12 - (l0.length : Int))) + 1))))) + (l0.length : Int))) then (if (wrap64 ((wrap64 (Int.tmod (IntKind.u64.wrap (a1)) (IntKind.u64.wrap (wrap64 ((wrap64 (12 - (l0.length : Int))) + 1))))) + (l0.length : Int))) ≤ (t357.length : Int) then ((some ((t357.take ((wrap64 ((wrap64 (Int.tmod (IntKind.u64.wrap (a1)) (IntKind.u64.wrap (wrap64 ((wrap64 (12 - (l0.length : Int))) + 1))))) + (l0.length : Int))) : Int).toNat).drop ((wrap64 (Int.tmod (IntKind.u64.wrap (a1)) (IntKind.u64.wrap (wrap64 ((wrap64 (12 - (l0.length : Int))) + 1))))) : Int).toNat : List (S43))).bind fun y365 => (if y362.length + y365.length < 8796093022208 then ((secret_Curve.f (y362 ++ y365)).bind fun bt372 => ((some (([] : List (S43)) : List (S43))).bind fun y376 => ((some ((t357.take ((wrap64 ((wrap64 (Int.tmod (IntKind.u64.wrap (a1)) (IntKind.u64.wrap (wrap64 ((wrap64 (12 - (l0.length : Int))) + 1))))) + (l0.length : Int))) : Int).toNat).drop ((wrap64 (Int.tmod (IntKind.u64.wrap (a1)) (IntKind.u64.wrap (wrap64 ((wrap64 (12 - (l0.length : Int))) + 1))))) : Int).toNat : List (S43))).bind fun y379 => (if y376.length + y379.length < 8796093022208 then ((secret_Secret.f (y376 ++ y379)).bind fun bt386 => (if bt372.2 = 0 then ((verditerref08_SameInts.f k bt372.1 l0).bind fun t388 => (if t388 = true then (if bt386.2 = 0 then (if 0 < (l0.length : Int) then (if bt386.1 = (rd l0 0) then ((verditerlaw08_known.f k).bind fun t390 => (some t390)) else (some false)) else (none)) else (some false)) else (some false))) else (some false))) else (none))))) else (none))) else (none)) else (none)) else (none)))) else (some false)) else ((verditerlaw08_known.f k).bind fun t361 => (some t361))) = some r := H
    have A6 := Aside0.mk A60
    clear A60
    by_cases c7 : t358 = 0
    · rw [if_pos c7] at H
      have c7b0 : (t358 == 0) = true := beq_iff_eq.mpr c7
      have c7b1 : (t358 != 0) = false := bne_eq_false_iff_eq.mpr c7
      clear c7
      by_cases c8 : (t357.length : Int) = 12
      · rw [if_pos c8] at H
        have c8b0 : ((t357.length : Int) == 12) = true := beq_iff_eq.mpr c8
        have c8b1 : ((t357.length : Int) != 12) = false := bne_eq_false_iff_eq.mpr c8
        clear c8
        by_cases c9 : (IntKind.u64.wrap (wrap64 ((wrap64 (12 - (l0.length : Int))) + 1))) = 0
        · rw [if_pos c9] at H
          exact absurd H (by simp)
        · rw [if_neg c9] at H
          have c9b0 : ((IntKind.u64.wrap (wrap64 ((wrap64 (12 - (l0.length : Int))) + 1))) == 0) = false := beq_eq_false_iff_ne.mpr c9
          have c9b1 : ((IntKind.u64.wrap (wrap64 ((wrap64 (12 - (l0.length : Int))) + 1))) != 0) = true := bne_iff_ne.mpr c9
          obtain ⟨y362, hy362⟩ : ∃ y_ : List (S43), y_ = (([] : List (S43))) := ⟨_, rfl⟩
          replace H : (if 0 ≤ (wrap64 (Int.tmod (IntKind.u64.wrap (a1)) (IntKind.u64.wrap (wrap64 ((wrap64 (12 - (l0.length : Int))) + 1))))) then (if (wrap64 (Int.tmod (IntKind.u64.wrap (a1)) (IntKind.u64.wrap (wrap64 ((wrap64 (12 - (l0.length : Int))) + 1))))) ≤ (wrap64 ((wrap64 (Int.tmod (IntKind.u64.wrap (a1)) (IntKind.u64.wrap (wrap64 ((wrap64 (12 - (l0.length : Int))) + 1))))) + (l0.length : Int))) then (if (wrap64 ((wrap64 (Int.tmod (IntKind.u64.wrap (a1)) (IntKind.u64.wrap (wrap64 ((wrap64 (12 - (l0.length : Int))) + 1))))) + (l0.length : Int))) ≤ (t357.length : Int) then ((some ((t357.take ((wrap64 ((wrap64 (Int.tmod (IntKind.u64.wrap (a1)) (IntKind.u64.wrap (wrap64 ((wrap64 (12 - (l0.length : Int))) + 1))))) + (l0.length : Int))) : Int).toNat).drop ((wrap64 (Int.tmod (IntKind.u64.wrap (a1)) (IntKind.u64.wrap (wrap64 ((wrap64 (12 - (l0.length : Int))) + 1))))) : Int).toNat : List (S43))).bind fun y365 => (if y362.length + y365.length < 8796093022208 then ((secret_Curve.f (y362 ++ y365)).bind fun bt372 => ((some (([] : List (S43)) : List (S43))).bind fun y376 => ((some ((t357.take ((wrap64 ((wrap64 (Int.tmod (IntKind.u64.wrap (a1)) (IntKind.u64.wrap (wrap64 ((wrap64 (12 - (l0.length : Int))) + 1))))) + (l0.length : Int))) : Int).toNat).drop ((wrap64 (Int.tmod (IntKind.u64.wrap (a1)) (IntKind.u64.wrap (wrap64 ((wrap64 (12 - (l0.length : Int))) + 1))))) : Int).toNat : List (S43))).bind fun y379 => (if y376.length + y379.length < 8796093022208 then ((secret_Secret.f (y376 ++ y379)).bind fun bt386 => (if bt372.2 = 0 then ((verditerref08_SameInts.f k bt372.1 l0).bind fun t388 => (if t388 = true then (if bt386.2 = 0 then (if 0 < (l0.length : Int) then (if bt386.1 = (rd l0 0) then ((verditerlaw08_known.f k).bind fun t390 => (some t390)) else (some false)) else (none)) else (some false)) else (some false))) else (some false))) else (none))))) else (none))) else (none)) else (none)) else (none)) = some r := by first | (rw [hy362]; with_reducible exact H) | (have H2_ := (Option.bind_some _ _).symm.trans H; rw [hy362]; with_reducible exact H2_) | (have H2_ := (Option.bind_some _ _).symm.trans H; with_reducible exact H2_) | with_reducible exact H | (rw [hy362]; exact H) | exact H
          have Ny362 := Aside0.mk hy362
          clear hy362
          obtain ⟨ji10, hji10⟩ : ∃ j_ : Int, (wrap64 (Int.tmod (IntKind.u64.wrap (a1)) (IntKind.u64.wrap (wrap64 ((wrap64 (12 - (l0.length : Int))) + 1))))) = j_ := ⟨_, rfl⟩
          replace H : (if 0 ≤ (ji10) then (if (ji10) ≤ (wrap64 ((ji10) + (l0.length : Int))) then (if (wrap64 ((ji10) + (l0.length : Int))) ≤ (t357.length : Int) then ((some ((t357.take ((wrap64 ((ji10) + (l0.length : Int))) : Int).toNat).drop ((ji10) : Int).toNat : List (S43))).bind fun y365 => (if y362.length + y365.length < 8796093022208 then ((secret_Curve.f (y362 ++ y365)).bind fun bt372 => ((some (([] : List (S43)) : List (S43))).bind fun y376 => ((some ((t357.take ((wrap64 ((ji10) + (l0.length : Int))) : Int).toNat).drop ((ji10) : Int).toNat : List (S43))).bind fun y379 => (if y376.length + y379.length < 8796093022208 then ((secret_Secret.f (y376 ++ y379)).bind fun bt386 => (if bt372.2 = 0 then ((verditerref08_SameInts.f k bt372.1 l0).bind fun t388 => (if t388 = true then (if bt386.2 = 0 then (if 0 < (l0.length : Int) then (if bt386.1 = (rd l0 0) then ((verditerlaw08_known.f k).bind fun t390 => (some t390)) else (some false)) else (none)) else (some false)) else (some false))) else (some false))) else (none))))) else (none))) else (none)) else (none)) else (none)) = some r := by first | (rw [hji10] at H; exact H) | (simp only [hji10] at H ⊢; exact H)
          (try rw [hji10] at A6)
          have hji10w : (IntKind.i64.wrap (Int.tmod (IntKind.u64.wrap (a1)) (IntKind.u64.wrap (wrap64 ((wrap64 (12 - (l0.length : Int))) + 1))))) = ji10 := (i64_w _).trans hji10
          by_cases c11 : 0 ≤ (ji10)
          · rw [if_pos c11] at H
            have c11b0 := eq_true c11
            have c11b1 : decide (0 ≤ (ji10)) = true := decide_eq_true c11
            clear c11
            by_cases c12 : (ji10) ≤ (wrap64 ((ji10) + (l0.length : Int)))
            · rw [if_pos c12] at H
              have c12b0 := eq_true c12
              have c12b1 : decide ((ji10) ≤ (wrap64 ((ji10) + (l0.length : Int)))) = true := decide_eq_true c12
              by_cases c13 : (wrap64 ((ji10) + (l0.length : Int))) ≤ (t357.length : Int)
              · rw [if_pos c13] at H
                have c13b0 := eq_true c13
                have c13b1 : decide ((wrap64 ((ji10) + (l0.length : Int))) ≤ (t357.length : Int)) = true := decide_eq_true c13
                obtain ⟨y365, hy365⟩ : ∃ y_ : List (S43), y_ = ((t357.take ((wrap64 ((ji10) + (l0.length : Int))) : Int).toNat).drop ((ji10) : Int).toNat) := ⟨_, rfl⟩
                replace H : (if y362.length + y365.length < 8796093022208 then ((secret_Curve.f (y362 ++ y365)).bind fun bt372 => ((some (([] : List (S43)) : List (S43))).bind fun y376 => ((some ((t357.take ((wrap64 ((ji10) + (l0.length : Int))) : Int).toNat).drop ((ji10) : Int).toNat : List (S43))).bind fun y379 => (if y376.length + y379.length < 8796093022208 then ((secret_Secret.f (y376 ++ y379)).bind fun bt386 => (if bt372.2 = 0 then ((verditerref08_SameInts.f k bt372.1 l0).bind fun t388 => (if t388 = true then (if bt386.2 = 0 then (if 0 < (l0.length : Int) then (if bt386.1 = (rd l0 0) then ((verditerlaw08_known.f k).bind fun t390 => (some t390)) else (some false)) else (none)) else (some false)) else (some false))) else (some false))) else (none))))) else (none)) = some r := by first | (rw [hy365]; with_reducible exact H) | (have H2_ := (Option.bind_some _ _).symm.trans H; rw [hy365]; with_reducible exact H2_) | (have H2_ := (Option.bind_some _ _).symm.trans H; with_reducible exact H2_) | with_reducible exact H | (rw [hy365]; exact H) | exact H
                have Ny365 := Aside0.mk hy365
                clear hy365
                by_cases c14 : y362.length + y365.length < 8796093022208
                · rw [if_pos c14] at H
                  have LMc14 := Aside0.mk c14
                  clear c14
                  obtain ⟨y369, hy369⟩ : ∃ y_ : List (S43), y_ = (y362 ++ y365) := ⟨_, rfl⟩
                  replace H : ((secret_Curve.f y369).bind fun bt372 => ((some (([] : List (S43)) : List (S43))).bind fun y376 => ((some ((t357.take ((wrap64 ((ji10) + (l0.length : Int))) : Int).toNat).drop ((ji10) : Int).toNat : List (S43))).bind fun y379 => (if y376.length + y379.length < 8796093022208 then ((secret_Secret.f (y376 ++ y379)).bind fun bt386 => (if bt372.2 = 0 then ((verditerref08_SameInts.f k bt372.1 l0).bind fun t388 => (if t388 = true then (if bt386.2 = 0 then (if 0 < (l0.length : Int) then (if bt386.1 = (rd l0 0) then ((verditerlaw08_known.f k).bind fun t390 => (some t390)) else (some false)) else (none)) else (some false)) else (some false))) else (some false))) else (none))))) = some r := by first | (rw [hy369]; with_reducible exact H) | (have H2_ := (Option.bind_some _ _).symm.trans H; rw [hy369]; with_reducible exact H2_) | (have H2_ := (Option.bind_some _ _).symm.trans H; with_reducible exact H2_) | with_reducible exact H | (rw [hy369]; exact H) | exact H
                  have Ny369 := Aside0.mk hy369
                  clear hy369
                  replace H := Option.bind_eq_some_iff.mp H
                  obtain ⟨⟨t372, t373⟩, A150, H⟩ := H
                  replace H : ((some (([] : List (S43)) : List (S43))).bind fun y376 => ((some ((t357.take ((wrap64 ((ji10) + (l0.length : Int))) : Int).toNat).drop ((ji10) : Int).toNat : List (S43))).bind fun y379 => (if y376.length + y379.length < 8796093022208 then ((secret_Secret.f (y376 ++ y379)).bind fun bt386 => (if t373 = 0 then ((verditerref08_SameInts.f k t372 l0).bind fun t388 => (if t388 = true then (if bt386.2 = 0 then (if 0 < (l0.length : Int) then (if bt386.1 = (rd l0 0) then ((verditerlaw08_known.f k).bind fun t390 => (some t390)) else (some false)) else (none)) else (some false)) else (some false))) else (some false))) else (none)))) = some r := H
                  have A15 := Aside0.mk A150
                  clear A150
                  obtain ⟨y376, hy376⟩ : ∃ y_ : List (S43), y_ = (([] : List (S43))) := ⟨_, rfl⟩
                  replace H : ((some ((t357.take ((wrap64 ((ji10) + (l0.length : Int))) : Int).toNat).drop ((ji10) : Int).toNat : List (S43))).bind fun y379 => (if y376.length + y379.length < 8796093022208 then ((secret_Secret.f (y376 ++ y379)).bind fun bt386 => (if t373 = 0 then ((verditerref08_SameInts.f k t372 l0).bind fun t388 => (if t388 = true then (if bt386.2 = 0 then (if 0 < (l0.length : Int) then (if bt386.1 = (rd l0 0) then ((verditerlaw08_known.f k).bind fun t390 => (some t390)) else (some false)) else (none)) else (some false)) else (some false))) else (some false))) else (none))) = some r := by first | (rw [hy376]; with_reducible exact H) | (have H2_ := (Option.bind_some _ _).symm.trans H; rw [hy376]; with_reducible exact H2_) | (have H2_ := (Option.bind_some _ _).symm.trans H; with_reducible exact H2_) | with_reducible exact H | (rw [hy376]; exact H) | exact H
                  have Ny376 := Aside0.mk hy376
                  clear hy376
                  have c16b0 := eq_true (of_decide_eq_true (by first | (with_reducible assumption) | assumption) : 0 ≤ (ji10))
                  have c17b0 := eq_true (of_decide_eq_true (by first | (with_reducible assumption) | assumption) : (ji10) ≤ (wrap64 ((ji10) + (l0.length : Int))))
                  have c18b0 := eq_true (of_decide_eq_true (by first | (with_reducible assumption) | assumption) : (wrap64 ((ji10) + (l0.length : Int))) ≤ (t357.length : Int))
                  obtain ⟨y379, hy379⟩ : ∃ y_ : List (S43), y_ = ((t357.take ((wrap64 ((ji10) + (l0.length : Int))) : Int).toNat).drop ((ji10) : Int).toNat) := ⟨_, rfl⟩
                  replace H : (if y376.length + y379.length < 8796093022208 then ((secret_Secret.f (y376 ++ y379)).bind fun bt386 => (if t373 = 0 then ((verditerref08_SameInts.f k t372 l0).bind fun t388 => (if t388 = true then (if bt386.2 = 0 then (if 0 < (l0.length : Int) then (if bt386.1 = (rd l0 0) then ((verditerlaw08_known.f k).bind fun t390 => (some t390)) else (some false)) else (none)) else (some false)) else (some false))) else (some false))) else (none)) = some r := by first | (rw [hy379]; with_reducible exact H) | (have H2_ := (Option.bind_some _ _).symm.trans H; rw [hy379]; with_reducible exact H2_) | (have H2_ := (Option.bind_some _ _).symm.trans H; with_reducible exact H2_) | with_reducible exact H | (rw [hy379]; exact H) | exact H
                  have Ny379 := Aside0.mk hy379
                  clear hy379
                  by_cases c19 : y376.length + y379.length < 8796093022208
                  · rw [if_pos c19] at H
                    have LMc19 := Aside0.mk c19
                    clear c19
                    obtain ⟨y383, hy383⟩ : ∃ y_ : List (S43), y_ = (y376 ++ y379) := ⟨_, rfl⟩
                    replace H : ((secret_Secret.f y383).bind fun bt386 => (if t373 = 0 then ((verditerref08_SameInts.f k t372 l0).bind fun t388 => (if t388 = true then (if bt386.2 = 0 then (if 0 < (l0.length : Int) then (if bt386.1 = (rd l0 0) then ((verditerlaw08_known.f k).bind fun t390 => (some t390)) else (some false)) else (none)) else (some false)) else (some false))) else (some false))) = some r := by first | (rw [hy383]; with_reducible exact H) | (have H2_ := (Option.bind_some _ _).symm.trans H; rw [hy383]; with_reducible exact H2_) | (have H2_ := (Option.bind_some _ _).symm.trans H; with_reducible exact H2_) | with_reducible exact H | (rw [hy383]; exact H) | exact H
                    have Ny383 := Aside0.mk hy383
                    clear hy383
                    replace H := Option.bind_eq_some_iff.mp H
                    obtain ⟨⟨t386, t387⟩, A200, H⟩ := H
                    replace H : (if t373 = 0 then ((verditerref08_SameInts.f k t372 l0).bind fun t388 => (if t388 = true then (if t387 = 0 then (if 0 < (l0.length : Int) then (if t386 = (rd l0 0) then ((verditerlaw08_known.f k).bind fun t390 => (some t390)) else (some false)) else (none)) else (some false)) else (some false))) else (some false)) = some r := H
                    have A20 := Aside0.mk A200
                    clear A200
                    by_cases c21 : t373 = 0
                    · rw [if_pos c21] at H
                      have c21b0 : (t373 == 0) = true := beq_iff_eq.mpr c21
                      have c21b1 : (t373 != 0) = false := bne_eq_false_iff_eq.mpr c21
                      clear c21
                      replace H := Option.bind_eq_some_iff.mp H
                      obtain ⟨t388, A220, H⟩ := H
                      replace H : (if t388 = true then (if t387 = 0 then (if 0 < (l0.length : Int) then (if t386 = (rd l0 0) then ((verditerlaw08_known.f k).bind fun t390 => (some t390)) else (some false)) else (none)) else (some false)) else (some false)) = some r := H
                      have A22 := Aside0.mk A220
                      clear A220
                      by_cases c23 : t388 = true
                      · subst c23
                        have H1 : (if t387 = 0 then (if 0 < (l0.length : Int) then (if t386 = (rd l0 0) then ((verditerlaw08_known.f k).bind fun t390 => (some t390)) else (some false)) else (none)) else (some false)) = some r := by rw [if_pos rfl] at H; exact H
                        clear H
                        have H := H1
                        clear H1
                        by_cases c24 : t387 = 0
                        · rw [if_pos c24] at H
                          have c24b0 : (t387 == 0) = true := beq_iff_eq.mpr c24
                          have c24b1 : (t387 != 0) = false := bne_eq_false_iff_eq.mpr c24
                          clear c24
                          by_cases c25 : 0 < (l0.length : Int)
                          · rw [if_pos c25] at H
                            have c25b0 : decide (0 < (l0.length : Int)) = true := decide_eq_true c25
                            have c25b1 : decide (0 < l0.length) = true := decide_eq_true (by omega)
                            clear c25
                            by_cases c26 : t386 = (rd l0 0)
                            · rw [if_pos c26] at H
                              have c26b0 : (t386 == (rd l0 0)) = true := beq_iff_eq.mpr c26
                              have c26b1 : (t386 != (rd l0 0)) = false := bne_eq_false_iff_eq.mpr c26
                              clear c26
                              replace H := Option.bind_eq_some_iff.mp H
                              obtain ⟨t390, A270, H⟩ := H
                              replace H : (some t390) = some r := H
                              have A27 := Aside0.mk A270
                              clear A270
                              obtain rfl := Option.some.inj H
                              go_enter Try.func29, Try.ntmps29
                              go_wp2_with (first | ((with_reducible refine gate_callee (f := 51) rfl ?_); refine goesL_ (some 18) rfl rfl Try.func51 (by kernel_rfl) rfl #[.slice A0 l0.length c0, .int .i64 12] rfl (by (try simp only [List.map_toArray, List.map_cons, List.map_nil]); first | done | rfl | (simp only [List.length_drop, List.length_take]; rfl)) ?_; (with_reducible refine (secret_Share.calls k _ _ l0 12 t357 t358 _ ?side1 ?side2 A6.out).mono ?_); (case side1 => repeat (first | exact HR0.out | (with_reducible refine Kd.C_alloc ?_ _) | (with_reducible refine Kd.C_drewN ?_ _) | (with_reducible refine Kd.C_drew ?_))); (case side2 => exact HC0.out); rintro e w28 ⟨v359, rfl, ho0, hb⟩; refine ⟨_, rfl, ?_⟩; have n0_ := Aside0.mk (Kd.R_lower ho0 (below_size (by repeat (first | (with_reducible first | exact HB.out | apply below_alloc | apply pw_below_drewN | apply below_drew1) | exact HB.out)))); have n1_ := Aside0.mk (below_step (by repeat (first | (with_reducible first | exact HB.out | apply below_alloc | apply pw_below_drewN | apply below_drew1) | exact HB.out)) hb); clear HB; have HO360 := n0_; have HB := n1_; clear n0_ n1_; (try clear hb); (try clear hb2); (try clear hk); (try clear hi); (try clear ho0); obtain ⟨Ao29, co29, eo29⟩ := Kd.R_slice HO360.out; subst eo29) | ((with_reducible refine gate_dst (N := 37) rfl ?_); refine Kd.R_lit k43 _ 43 ?hg (N := 37) ?hd (xs := ([] : List (S43))) (inner := []) (ok := fun _ => True) (okp := fun _ => True) ?hr ?hp (fun _ hk => hk) trivial (Below.refl _ _) (Nat.le_refl _) (by simp) ?_; (case hd => rfl); (case hg => rfl); (case hr => first | (go_simp; done) | (go_simp; rfl)); (case hp => exact (Reps.none _ _)); intro v363 w30 ho31 hb hg_ hnew_; clear hg_ hnew_; (first | rw [← Ny362.out] at ho31 | (simp only [Int.reduceToNat] at ho31; rw [← Ny362.out] at ho31)); have n0_ := Aside0.mk (Kd.R_elder' (by (with_reducible repeat (first | apply Kd.R_alloc | apply Kd.R_drewN | apply Kd.R_drew)); exact HO360.out) (Kd.R_base ho31) hb); have n1_ := Aside0.mk (Kd.R_lower (Kd.R_new' ho31 (Kd.R_lt (by (with_reducible repeat (first | apply Kd.R_alloc | apply Kd.R_drewN | apply Kd.R_drew)); exact HO360.out))) (below_size (by repeat (first | (with_reducible first | exact HB.out | apply below_alloc | apply pw_below_drewN | apply below_drew1) | exact HB.out)))); have n2_ := Aside0.mk (below_step (by repeat (first | (with_reducible first | exact HB.out | apply below_alloc | apply pw_below_drewN | apply below_drew1) | exact HB.out)) hb); clear HO360; clear HB; have HO360 := n0_; have HO364 := n1_; have HB := n2_; clear n0_ n1_ n2_; clear hb ho31; have q32 : ((wrap64 ((ji10) + (l0.length : Int))) : Int) ≤ ((t357.length : Int) : Int) := of_decide_eq_true (by first | (with_reducible assumption) | assumption); obtain ⟨i032, hi032, _, hsz32, _⟩ := info_parts info43; have hroom32 : t357.length ≤ co29 := (Kd.R_reads' HO360.out).2.1; have hC32 : Kd.C k43 _ Ao29 t357.length t357 := (Kd.R_reads' HO360.out).2.2; have ql32 : ((ji10) : Int) ≤ ((wrap64 ((ji10) + (l0.length : Int))) : Int) := of_decide_eq_true (by first | (with_reducible assumption) | assumption); have q032 : (0 : Int) ≤ ((ji10) : Int) := of_decide_eq_true (by first | (with_reducible assumption) | assumption); have hcut32 := cut_mid (P := Try.prog) 22 43 .i64 .i64 Try.underlying22 hi032 2 hsz32 Ao29 t357.length co29 (ji10) (wrap64 ((ji10) + (l0.length : Int))) q032 ql32 q32 hroom32; have hr32 := Kd.C_mid (lo := ((ji10) : Int).toNat) (hi := ((wrap64 ((ji10) + (l0.length : Int))) : Int).toNat) (c := co29) hC32 (by omega) (by omega) hroom32; obtain ⟨A32, hA32⟩ : ∃ A1, A1 = (if co29 = ((ji10) : Int).toNat then Ao29 else (Ao29 : Option Addr).map (·.add (((ji10) : Int).toNat * 2))) := ⟨_, rfl⟩; obtain ⟨c32, hc32⟩ : ∃ c1, c1 = co29 - ((ji10) : Int).toNat := ⟨_, rfl⟩; have hy32 : y365.length = ((wrap64 ((ji10) + (l0.length : Int))) : Int).toNat - ((ji10) : Int).toNat := (by rw [Ny365.out, List.length_drop, List.length_take] <;> omega); rw [show ((t357).take ((wrap64 ((ji10) + (l0.length : Int))) : Int).toNat).drop ((ji10) : Int).toNat = y365 from Ny365.out.symm] at hr32; replace hr32 : Kd.C k43 _ A32 y365.length y365 := (by rw [hA32]; exact hr32); rw [← hy32, ← hA32, ← hc32] at hcut32; have HR368 := Aside0.mk hr32; have HC368 := Aside0.mk (show y365.length ≤ c32 from by rw [hy32, hc32]; exact Nat.sub_le_sub_right (Nat.le_trans (by omega) hroom32) _); clear hr32 hC32 hroom32 hi032 hsz32 hc32; have KY32 := Aside0.mk hy32; have KA32 := Aside0.mk hA32; clear hy32 hA32; have KL32 := Aside0.mk (show ((wrap64 ((ji10) + (l0.length : Int))) : Int).toNat ≤ t357.length from by omega); have KM32 := Aside0.mk (show ((ji10) : Int).toNat ≤ ((wrap64 ((ji10) + (l0.length : Int))) : Int).toNat from by omega); replace q32 := eq_true q32) | ((with_reducible refine gate_builtin (b := .append) (xs := #[.tmp 37, .tmp 44]) rfl ?_); at_builtin; refine Kd.R_append_rows k43 (w0 := w) w.heap.size rfl (.tmp 37) (.tmp 44) 22 43 (.agg #[(.int .i64 0), (.int .i64 0)]) 16 rfl Try.underlying22 info43 rfl (by decide) (by omega) v363 y362 y365 _ _ _ (fun k_ => some k_ ≠ (.slice Ao29 t357.length co29 : Value).ownBlock) (fun _ => False) rfl rfl ?aO ?aR (fun _ _ h => h) (fun _ h => h.elim) ?aF ?aB ?aS ?aL ?_; (case aR => repeat (first | exact (by repeat (first | (with_reducible exact HR368.out) | (with_reducible refine Kd.C_alloc ?_ _) | (with_reducible refine Kd.C_drewN ?_ _) | (with_reducible refine Kd.C_drew ?_) | exact HR368.out)) | (with_reducible refine Kd.C_alloc ?_ _) | (with_reducible refine Kd.C_drewN ?_ _) | (with_reducible refine Kd.C_drew ?_))); (case aB => exact (by repeat (first | (with_reducible first | exact HB.out | apply below_alloc | apply pw_below_drewN | apply below_drew1) | exact HB.out))); (case aF => exact (fun k_ hk => Kd.fresh' (Kd.R_lt (by (with_reducible repeat (first | apply Kd.R_alloc | apply Kd.R_drewN | apply Kd.R_drew)); exact HO360.out)) k_ hk)); (case aO => exact (by (with_reducible repeat (first | apply Kd.R_alloc | apply Kd.R_drewN | apply Kd.R_drew)); exact Kd.R_mono HO364.out (fun _ hk => hk.2))); (case aS => exact (below_size (by repeat (first | (with_reducible first | exact HB.out | apply below_alloc | apply pw_below_drewN | apply below_drew1) | exact HB.out)))); (case aL => have := LMc14.out; omega); intro v370 w33 ho hb hg hat; rw [← Ny369.out] at ho; have n0_ := Aside0.mk (Kd.R_after (ok := (fun _ => True)) (by (with_reducible repeat (first | apply Kd.R_alloc | apply Kd.R_drewN | apply Kd.R_drew)); exact HO360.out) hg hat); have n1_ := Aside0.mk (hb); have n2_ := Aside0.mk ((show Kd.C k43 w33 A32 y365.length y365 from by rw [Ny365.out, KA32.out]; exact Kd.C_mid (lo := ((ji10) : Int).toNat) (hi := ((wrap64 ((ji10) + (l0.length : Int))) : Int).toNat) (c := co29) ((Kd.R_reads' (Kd.R_after (ok := (fun _ => True)) (by (with_reducible repeat (first | apply Kd.R_alloc | apply Kd.R_drewN | apply Kd.R_drew)); exact HO360.out) hg hat)).2.2) KM32.out KL32.out ((Kd.R_reads' (Kd.R_after (ok := (fun _ => True)) (by (with_reducible repeat (first | apply Kd.R_alloc | apply Kd.R_drewN | apply Kd.R_drew)); exact HO360.out) hg hat)).2.1))); have n3_ := Aside0.mk (ho); clear HO360; clear HB; clear HR368; clear HO364; have HO360 := n0_; have HB := n1_; have HR368 := n2_; have HO371 := n3_; clear n0_ n1_ n2_ n3_; clear ho hb hg hat; obtain ⟨Ao34, co34, eo34⟩ := Kd.R_slice HO371.out; subst eo34) | ((with_reducible refine gate_callee (f := 55) rfl ?_); refine goesL_ (some 46) rfl rfl Try.func55 (by kernel_rfl) rfl #[.slice Ao34 y369.length co34] rfl (by (try simp only [List.map_toArray, List.map_cons, List.map_nil]); first | done | rfl | (simp only [List.length_drop, List.length_take]; rfl)) ?_; (with_reducible refine (secret_Curve.calls _ _ y369 t372 t373 _ ?side1 ?side2 A15.out).mono ?_); (case side1 => repeat (first | exact (Kd.R_reads' HO371.out).2.2 | (with_reducible refine Kd.C_alloc ?_ _) | (with_reducible refine Kd.C_drewN ?_ _) | (with_reducible refine Kd.C_drew ?_))); (case side2 => exact (Kd.R_reads' HO371.out).2.1); rintro e w35 ⟨v374, rfl, ho0, hb⟩; refine ⟨_, rfl, ?_⟩; have n0_ := Aside0.mk (Kd.R_below (by (with_reducible repeat (first | apply Kd.R_alloc | apply Kd.R_drewN | apply Kd.R_drew)); exact HO360.out) hb); have n1_ := Aside0.mk (Kd.R_below (by (with_reducible repeat (first | apply Kd.R_alloc | apply Kd.R_drewN | apply Kd.R_drew)); exact HO371.out) hb); have n2_ := Aside0.mk (Kd.R_lower ho0 (below_size (by repeat (first | (with_reducible first | exact HB.out | apply below_alloc | apply pw_below_drewN | apply below_drew1) | exact HB.out)))); have n3_ := Aside0.mk (Kd.C_below (by repeat (first | (with_reducible exact HR368.out) | (with_reducible refine Kd.C_alloc ?_ _) | (with_reducible refine Kd.C_drewN ?_ _) | (with_reducible refine Kd.C_drew ?_) | exact HR368.out)) hb); have n4_ := Aside0.mk (below_step (by repeat (first | (with_reducible first | exact HB.out | apply below_alloc | apply pw_below_drewN | apply below_drew1) | exact HB.out)) hb); clear HO360; clear HO371; clear HR368; clear HB; have HO360 := n0_; have HO371 := n1_; have HO375 := n2_; have HR368 := n3_; have HB := n4_; clear n0_ n1_ n2_ n3_ n4_; (try clear hb); (try clear hb2); (try clear hk); (try clear hi); (try clear ho0)) | ((with_reducible refine gate_dst (N := 50) rfl ?_); refine Kd.R_lit k43 _ 43 ?hg (N := 50) ?hd (xs := ([] : List (S43))) (inner := []) (ok := fun _ => True) (okp := fun _ => True) ?hr ?hp (fun _ hk => hk) trivial (Below.refl _ _) (Nat.le_refl _) (by simp) ?_; (case hd => rfl); (case hg => rfl); (case hr => first | (go_simp; done) | (go_simp; rfl)); (case hp => exact (Reps.none _ _)); intro v377 w36 ho37 hb hg_ hnew_; clear hg_ hnew_; (first | rw [← Ny376.out] at ho37 | (simp only [Int.reduceToNat] at ho37; rw [← Ny376.out] at ho37)); have n0_ := Aside0.mk (Kd.R_elder' (by (with_reducible repeat (first | apply Kd.R_alloc | apply Kd.R_drewN | apply Kd.R_drew)); exact HO360.out) (Kd.R_base ho37) hb); have n1_ := Aside0.mk (Kd.R_elder' (by (with_reducible repeat (first | apply Kd.R_alloc | apply Kd.R_drewN | apply Kd.R_drew)); exact HO371.out) (Kd.R_base ho37) hb); have n2_ := Aside0.mk (Kd.R_below (by (with_reducible repeat (first | apply Kd.R_alloc | apply Kd.R_drewN | apply Kd.R_drew)); exact HO375.out) hb); have n3_ := Aside0.mk (Kd.R_lower (Kd.R_new' (Kd.R_new' ho37 (Kd.R_lt (by (with_reducible repeat (first | apply Kd.R_alloc | apply Kd.R_drewN | apply Kd.R_drew)); exact HO360.out))) (Kd.R_lt (by (with_reducible repeat (first | apply Kd.R_alloc | apply Kd.R_drewN | apply Kd.R_drew)); exact HO371.out))) (below_size (by repeat (first | (with_reducible first | exact HB.out | apply below_alloc | apply pw_below_drewN | apply below_drew1) | exact HB.out)))); have n4_ := Aside0.mk (Kd.C_below (by repeat (first | (with_reducible exact HR368.out) | (with_reducible refine Kd.C_alloc ?_ _) | (with_reducible refine Kd.C_drewN ?_ _) | (with_reducible refine Kd.C_drew ?_) | exact HR368.out)) hb); have n5_ := Aside0.mk (below_step (by repeat (first | (with_reducible first | exact HB.out | apply below_alloc | apply pw_below_drewN | apply below_drew1) | exact HB.out)) hb); clear HO360; clear HO371; clear HO375; clear HR368; clear HB; have HO360 := n0_; have HO371 := n1_; have HO375 := n2_; have HO378 := n3_; have HR368 := n4_; have HB := n5_; clear n0_ n1_ n2_ n3_ n4_ n5_; clear hb ho37; (try clear hcut32); have q38 : ((wrap64 ((ji10) + (l0.length : Int))) : Int) ≤ ((t357.length : Int) : Int) := of_decide_eq_true (by first | (with_reducible assumption) | assumption); obtain ⟨i038, hi038, _, hsz38, _⟩ := info_parts info43; have hroom38 : t357.length ≤ co29 := (Kd.R_reads' HO360.out).2.1; have hC38 : Kd.C k43 _ Ao29 t357.length t357 := (Kd.R_reads' HO360.out).2.2; have ql38 : ((ji10) : Int) ≤ ((wrap64 ((ji10) + (l0.length : Int))) : Int) := of_decide_eq_true (by first | (with_reducible assumption) | assumption); have q038 : (0 : Int) ≤ ((ji10) : Int) := of_decide_eq_true (by first | (with_reducible assumption) | assumption); have hcut38 := cut_mid (P := Try.prog) 22 43 .i64 .i64 Try.underlying22 hi038 2 hsz38 Ao29 t357.length co29 (ji10) (wrap64 ((ji10) + (l0.length : Int))) q038 ql38 q38 hroom38; have hr38 := Kd.C_mid (lo := ((ji10) : Int).toNat) (hi := ((wrap64 ((ji10) + (l0.length : Int))) : Int).toNat) (c := co29) hC38 (by omega) (by omega) hroom38; obtain ⟨A38, hA38⟩ : ∃ A1, A1 = (if co29 = ((ji10) : Int).toNat then Ao29 else (Ao29 : Option Addr).map (·.add (((ji10) : Int).toNat * 2))) := ⟨_, rfl⟩; obtain ⟨c38, hc38⟩ : ∃ c1, c1 = co29 - ((ji10) : Int).toNat := ⟨_, rfl⟩; have hy38 : y379.length = ((wrap64 ((ji10) + (l0.length : Int))) : Int).toNat - ((ji10) : Int).toNat := (by rw [Ny379.out, List.length_drop, List.length_take] <;> omega); rw [show ((t357).take ((wrap64 ((ji10) + (l0.length : Int))) : Int).toNat).drop ((ji10) : Int).toNat = y379 from Ny379.out.symm] at hr38; replace hr38 : Kd.C k43 _ A38 y379.length y379 := (by rw [hA38]; exact hr38); rw [← hy38, ← hA38, ← hc38] at hcut38; have HR382 := Aside0.mk hr38; have HC382 := Aside0.mk (show y379.length ≤ c38 from by rw [hy38, hc38]; exact Nat.sub_le_sub_right (Nat.le_trans (by omega) hroom38) _); clear hr38 hC38 hroom38 hi038 hsz38 hc38; have KY38 := Aside0.mk hy38; have KA38 := Aside0.mk hA38; clear hy38 hA38; have KL38 := Aside0.mk (show ((wrap64 ((ji10) + (l0.length : Int))) : Int).toNat ≤ t357.length from by omega); have KM38 := Aside0.mk (show ((ji10) : Int).toNat ≤ ((wrap64 ((ji10) + (l0.length : Int))) : Int).toNat from by omega); replace q38 := eq_true q38) | ((with_reducible refine gate_builtin (b := .append) (xs := #[.tmp 50, .tmp 57]) rfl ?_); at_builtin; refine Kd.R_append_rows k43 (w0 := w) w.heap.size rfl (.tmp 50) (.tmp 57) 22 43 (.agg #[(.int .i64 0), (.int .i64 0)]) 16 rfl Try.underlying22 info43 rfl (by decide) (by omega) v377 y376 y379 _ _ _ (fun k_ => some k_ ≠ (.slice Ao29 t357.length co29 : Value).ownBlock ∧ some k_ ≠ (.slice Ao34 y369.length co34 : Value).ownBlock) (fun _ => False) rfl rfl ?aO ?aR (fun _ _ h => h) (fun _ h => h.elim) ?aF ?aB ?aS ?aL ?_; (case aR => repeat (first | exact (by repeat (first | (with_reducible exact HR382.out) | (with_reducible refine Kd.C_alloc ?_ _) | (with_reducible refine Kd.C_drewN ?_ _) | (with_reducible refine Kd.C_drew ?_) | exact HR382.out)) | (with_reducible refine Kd.C_alloc ?_ _) | (with_reducible refine Kd.C_drewN ?_ _) | (with_reducible refine Kd.C_drew ?_))); (case aB => exact (by repeat (first | (with_reducible first | exact HB.out | apply below_alloc | apply pw_below_drewN | apply below_drew1) | exact HB.out))); (case aF => exact (fun k_ hk => ⟨Kd.fresh' (Kd.R_lt (by (with_reducible repeat (first | apply Kd.R_alloc | apply Kd.R_drewN | apply Kd.R_drew)); exact HO360.out)) k_ hk, Kd.fresh' (Kd.R_lt (by (with_reducible repeat (first | apply Kd.R_alloc | apply Kd.R_drewN | apply Kd.R_drew)); exact HO371.out)) k_ hk⟩)); (case aO => exact (by (with_reducible repeat (first | apply Kd.R_alloc | apply Kd.R_drewN | apply Kd.R_drew)); exact Kd.R_mono HO378.out (fun _ hk => ⟨hk.1.2, hk.2⟩))); (case aS => exact (below_size (by repeat (first | (with_reducible first | exact HB.out | apply below_alloc | apply pw_below_drewN | apply below_drew1) | exact HB.out)))); (case aL => have := LMc19.out; omega); intro v384 w39 ho hb hg hat; rw [← Ny383.out] at ho; have n0_ := Aside0.mk (Kd.R_after (ok := (fun k_ => some k_ ≠ (.slice Ao34 y369.length co34 : Value).ownBlock)) (by (with_reducible repeat (first | apply Kd.R_alloc | apply Kd.R_drewN | apply Kd.R_drew)); exact Kd.R_mono HO360.out (fun _ hk => ⟨hk.1.2, hk.2⟩)) hg hat); have n1_ := Aside0.mk (Kd.R_after (ok := (fun k_ => some k_ ≠ (.slice Ao29 t357.length co29 : Value).ownBlock)) (by (with_reducible repeat (first | apply Kd.R_alloc | apply Kd.R_drewN | apply Kd.R_drew)); exact HO371.out) hg hat); have n2_ := Aside0.mk (Kd.R_over' (by (with_reducible repeat (first | apply Kd.R_alloc | apply Kd.R_drewN | apply Kd.R_drew)); exact HO375.out) (Kd.R_typed (by (with_reducible repeat (first | apply Kd.R_alloc | apply Kd.R_drewN | apply Kd.R_drew)); exact HO378.out)) (by decide) hg); have n3_ := Aside0.mk (hb); have n4_ := Aside0.mk ((show Kd.C k43 w39 A32 y365.length y365 from by rw [Ny365.out, KA32.out]; exact Kd.C_mid (lo := ((ji10) : Int).toNat) (hi := ((wrap64 ((ji10) + (l0.length : Int))) : Int).toNat) (c := co29) ((Kd.R_reads' (Kd.R_after (ok := (fun k_ => some k_ ≠ (.slice Ao34 y369.length co34 : Value).ownBlock)) (by (with_reducible repeat (first | apply Kd.R_alloc | apply Kd.R_drewN | apply Kd.R_drew)); exact Kd.R_mono HO360.out (fun _ hk => ⟨hk.1.2, hk.2⟩)) hg hat)).2.2) KM32.out KL32.out ((Kd.R_reads' (Kd.R_after (ok := (fun k_ => some k_ ≠ (.slice Ao34 y369.length co34 : Value).ownBlock)) (by (with_reducible repeat (first | apply Kd.R_alloc | apply Kd.R_drewN | apply Kd.R_drew)); exact Kd.R_mono HO360.out (fun _ hk => ⟨hk.1.2, hk.2⟩)) hg hat)).2.1))); have n5_ := Aside0.mk ((show Kd.C k43 w39 A38 y379.length y379 from by rw [Ny379.out, KA38.out]; exact Kd.C_mid (lo := ((ji10) : Int).toNat) (hi := ((wrap64 ((ji10) + (l0.length : Int))) : Int).toNat) (c := co29) ((Kd.R_reads' (Kd.R_after (ok := (fun k_ => some k_ ≠ (.slice Ao34 y369.length co34 : Value).ownBlock)) (by (with_reducible repeat (first | apply Kd.R_alloc | apply Kd.R_drewN | apply Kd.R_drew)); exact Kd.R_mono HO360.out (fun _ hk => ⟨hk.1.2, hk.2⟩)) hg hat)).2.2) KM38.out KL38.out ((Kd.R_reads' (Kd.R_after (ok := (fun k_ => some k_ ≠ (.slice Ao34 y369.length co34 : Value).ownBlock)) (by (with_reducible repeat (first | apply Kd.R_alloc | apply Kd.R_drewN | apply Kd.R_drew)); exact Kd.R_mono HO360.out (fun _ hk => ⟨hk.1.2, hk.2⟩)) hg hat)).2.1))); have n6_ := Aside0.mk (ho); clear HO360; clear HO371; clear HO375; clear HB; clear HR368; clear HR382; clear HO378; have HO360 := n0_; have HO371 := n1_; have HO375 := n2_; have HB := n3_; have HR368 := n4_; have HR382 := n5_; have HO385 := n6_; clear n0_ n1_ n2_ n3_ n4_ n5_ n6_; clear ho hb hg hat; obtain ⟨Ao40, co40, eo40⟩ := Kd.R_slice HO385.out; subst eo40) | ((with_reducible refine gate_callee (f := 58) rfl ?_); refine goesL_ (some 59) rfl rfl Try.func58 (by kernel_rfl) rfl #[.slice Ao40 y383.length co40] rfl (by (try simp only [List.map_toArray, List.map_cons, List.map_nil]); first | done | rfl | (simp only [List.length_drop, List.length_take]; rfl)) ?_; (with_reducible refine (secret_Secret.calls _ _ y383 t386 t387 _ ?side1 ?side2 A20.out).mono ?_); (case side1 => repeat (first | exact (Kd.R_reads' HO385.out).2.2 | (with_reducible refine Kd.C_alloc ?_ _) | (with_reducible refine Kd.C_drewN ?_ _) | (with_reducible refine Kd.C_drew ?_))); (case side2 => exact (Kd.R_reads' HO385.out).2.1); rintro e w41 ⟨rfl, hb⟩; refine ⟨_, rfl, ?_⟩; have n0_ := Aside0.mk (Kd.R_below (by (with_reducible repeat (first | apply Kd.R_alloc | apply Kd.R_drewN | apply Kd.R_drew)); exact HO360.out) hb); have n1_ := Aside0.mk (Kd.R_below (by (with_reducible repeat (first | apply Kd.R_alloc | apply Kd.R_drewN | apply Kd.R_drew)); exact HO371.out) hb); have n2_ := Aside0.mk (Kd.R_below (by (with_reducible repeat (first | apply Kd.R_alloc | apply Kd.R_drewN | apply Kd.R_drew)); exact HO375.out) hb); have n3_ := Aside0.mk (Kd.R_below (by (with_reducible repeat (first | apply Kd.R_alloc | apply Kd.R_drewN | apply Kd.R_drew)); exact HO385.out) hb); have n4_ := Aside0.mk (Kd.C_below (by repeat (first | (with_reducible exact HR368.out) | (with_reducible refine Kd.C_alloc ?_ _) | (with_reducible refine Kd.C_drewN ?_ _) | (with_reducible refine Kd.C_drew ?_) | exact HR368.out)) hb); have n5_ := Aside0.mk (Kd.C_below (by repeat (first | (with_reducible exact HR382.out) | (with_reducible refine Kd.C_alloc ?_ _) | (with_reducible refine Kd.C_drewN ?_ _) | (with_reducible refine Kd.C_drew ?_) | exact HR382.out)) hb); have n6_ := Aside0.mk (below_step (by repeat (first | (with_reducible first | exact HB.out | apply below_alloc | apply pw_below_drewN | apply below_drew1) | exact HB.out)) hb); clear HO360; clear HO371; clear HO375; clear HO385; clear HR368; clear HR382; clear HB; have HO360 := n0_; have HO371 := n1_; have HO375 := n2_; have HO385 := n3_; have HR368 := n4_; have HR382 := n5_; have HB := n6_; clear n0_ n1_ n2_ n3_ n4_ n5_ n6_; (try clear hb); (try clear hb2); (try clear hk); (try clear hi); obtain ⟨Ao42, co42, eo42⟩ := Kd.R_slice HO375.out; subst eo42) | (go_at_call 43; (with_reducible refine (verditerref08_SameInts.calls k _ _ t372 _ _ l0 true _ ?side1 ?side2 ?side3 ?side4 A22.out).mono ?_); (case side1 => repeat (first | exact (Kd.R_reads' HO375.out).2.2 | (with_reducible refine Kd.C_alloc ?_ _) | (with_reducible refine Kd.C_drewN ?_ _) | (with_reducible refine Kd.C_drew ?_))); (case side2 => exact (Kd.R_reads' HO375.out).2.1); (case side3 => repeat (first | exact (Kd.C_below HR0.out HB.out) | (with_reducible refine Kd.C_alloc ?_ _) | (with_reducible refine Kd.C_drewN ?_ _) | (with_reducible refine Kd.C_drew ?_))); (case side4 => exact HC0.out); rintro e w' ⟨rfl, ⟨nd, rfl⟩⟩; have p389 : 0 ≤ (0 : Int) := (by omega); have q389 : 0 < (l0.length : Int) := of_decide_eq_true (by first | (with_reducible assumption) | assumption); obtain ⟨ad389, e389, hx389_0⟩ := Kd.at_int HR0.out 0 p389 q389; cases e389; have qi389 : (0 < l0.length) = True := eq_true (by omega); (try rw [show ((0 : Int)).toNat = 0 from rfl] at hx389_0); (try rw [Addr.add_zero'] at hx389_0); replace hx389_0 := (HB.out.cell (World.block_lt_of_cell? w _ hx389_0)).trans hx389_0; replace p389 := eq_true p389; replace q389 := eq_true q389) | (go_at_call 40; (with_reducible refine (verditerlaw08_known.calls k  t390 _ A27.out).mono ?_); rintro e w43 ⟨rfl, hb⟩; have n0_ := Aside0.mk (Kd.R_below (by (with_reducible repeat (first | apply Kd.R_alloc | apply Kd.R_drewN | apply Kd.R_drew)); exact HO360.out) hb); have n1_ := Aside0.mk (Kd.R_below (by (with_reducible repeat (first | apply Kd.R_alloc | apply Kd.R_drewN | apply Kd.R_drew)); exact HO371.out) hb); have n2_ := Aside0.mk (Kd.R_below (by (with_reducible repeat (first | apply Kd.R_alloc | apply Kd.R_drewN | apply Kd.R_drew)); exact HO375.out) hb); have n3_ := Aside0.mk (Kd.R_below (by (with_reducible repeat (first | apply Kd.R_alloc | apply Kd.R_drewN | apply Kd.R_drew)); exact HO385.out) hb); have n4_ := Aside0.mk (Kd.C_below (by repeat (first | (with_reducible exact HR368.out) | (with_reducible refine Kd.C_alloc ?_ _) | (with_reducible refine Kd.C_drewN ?_ _) | (with_reducible refine Kd.C_drew ?_) | exact HR368.out)) hb); have n5_ := Aside0.mk (Kd.C_below (by repeat (first | (with_reducible exact HR382.out) | (with_reducible refine Kd.C_alloc ?_ _) | (with_reducible refine Kd.C_drewN ?_ _) | (with_reducible refine Kd.C_drew ?_) | exact HR382.out)) hb); have n6_ := Aside0.mk (below_step (by repeat (first | (with_reducible first | exact HB.out | apply below_alloc | apply pw_below_drewN | apply below_drew1) | exact HB.out)) hb); clear HO360; clear HO371; clear HO375; clear HO385; clear HR368; clear HR382; clear HB; have HO360 := n0_; have HO371 := n1_; have HO375 := n2_; have HO385 := n3_; have HR368 := n4_; have HR382 := n5_; have HB := n6_; clear n0_ n1_ n2_ n3_ n4_ n5_ n6_; (try clear hb); (try clear hb2); (try clear hk); (try clear hi)))
                              go_ret
                              exact ⟨by first | rfl | (simp [errW_none, errW_some] <;> rfl) | (simp only [← hji10]; first | rfl | (simp [errW_none, errW_some] <;> rfl)) | (simp [*, errW_none, errW_some] <;> rfl), by repeat (first | (with_reducible first | exact HB.out | apply below_alloc | apply pw_below_drewN | apply below_drew1) | exact HB.out)⟩
                            · rw [if_neg c26] at H
                              have c26b0 : (t386 == (rd l0 0)) = false := beq_eq_false_iff_ne.mpr c26
                              have c26b1 : (t386 != (rd l0 0)) = true := bne_iff_ne.mpr c26
                              exact absurd (Option.some.inj H) (by rw [hrt]; decide)
                          · rw [if_neg c25] at H
                            exact absurd H (by simp)
                        · rw [if_neg c24] at H
                          have c24b0 : (t387 == 0) = false := beq_eq_false_iff_ne.mpr c24
                          have c24b1 : (t387 != 0) = true := bne_iff_ne.mpr c24
                          exact absurd (Option.some.inj H) (by rw [hrt]; decide)
                      · replace c23 := Bool.eq_false_iff.mpr c23
                        subst c23
                        have H1 : (some false) = some r := by rw [if_neg (show ¬ (false = true) by decide)] at H; exact H
                        clear H
                        have H := H1
                        clear H1
                        exact absurd (Option.some.inj H) (by rw [hrt]; decide)
                    · rw [if_neg c21] at H
                      have c21b0 : (t373 == 0) = false := beq_eq_false_iff_ne.mpr c21
                      have c21b1 : (t373 != 0) = true := bne_iff_ne.mpr c21
                      exact absurd (Option.some.inj H) (by rw [hrt]; decide)
                  · rw [if_neg c19] at H
                    exact absurd H (by simp)
                · rw [if_neg c14] at H
                  exact absurd H (by simp)
              · rw [if_neg c13] at H
                exact absurd H (by simp)
            · rw [if_neg c12] at H
              exact absurd H (by simp)
          · rw [if_neg c11] at H
            exact absurd H (by simp)
      · rw [if_neg c8] at H
        have c8b0 : ((t357.length : Int) == 12) = false := beq_eq_false_iff_ne.mpr c8
        have c8b1 : ((t357.length : Int) != 12) = true := bne_iff_ne.mpr c8
        exact absurd (Option.some.inj H) (by rw [hrt]; decide)
    · rw [if_neg c7] at H
      have c7b0 : (t358 == 0) = false := beq_eq_false_iff_ne.mpr c7
      have c7b1 : (t358 != 0) = true := bne_iff_ne.mpr c7
      replace H := Option.bind_eq_some_iff.mp H
      obtain ⟨t361, A1050, H⟩ := H
      replace H : (some t361) = some r := H
      have A105 := Aside0.mk A1050
      clear A1050
      obtain rfl := Option.some.inj H
      go_enter Try.func29, Try.ntmps29
      go_wp2_with (first | ((with_reducible refine gate_callee (f := 51) rfl ?_); refine goesL_ (some 18) rfl rfl Try.func51 (by kernel_rfl) rfl #[.slice A0 l0.length c0, .int .i64 12] rfl (by (try simp only [List.map_toArray, List.map_cons, List.map_nil]); first | done | rfl | (simp only [List.length_drop, List.length_take]; rfl)) ?_; (with_reducible refine (secret_Share.calls k _ _ l0 12 t357 t358 _ ?side1 ?side2 A6.out).mono ?_); (case side1 => repeat (first | exact HR0.out | (with_reducible refine Kd.C_alloc ?_ _) | (with_reducible refine Kd.C_drewN ?_ _) | (with_reducible refine Kd.C_drew ?_))); (case side2 => exact HC0.out); rintro e w106 ⟨v359, rfl, ho0, hb⟩; refine ⟨_, rfl, ?_⟩; have n0_ := Aside0.mk (Kd.R_lower ho0 (below_size (by repeat (first | (with_reducible first | exact HB.out | apply below_alloc | apply pw_below_drewN | apply below_drew1) | exact HB.out)))); have n1_ := Aside0.mk (below_step (by repeat (first | (with_reducible first | exact HB.out | apply below_alloc | apply pw_below_drewN | apply below_drew1) | exact HB.out)) hb); clear HB; have HO360 := n0_; have HB := n1_; clear n0_ n1_; (try clear hb); (try clear hb2); (try clear hk); (try clear hi); (try clear ho0)) | ((with_reducible refine gate_callee (f := 40) rfl ?_); refine goesL_ (some 23) rfl rfl Try.func40 (by kernel_rfl) rfl #[] rfl (by (try simp only [List.map_toArray, List.map_cons, List.map_nil]); first | done | rfl | (simp only [List.length_drop, List.length_take]; rfl)) ?_; (with_reducible refine (verditerlaw08_known.calls k  t361 _ A105.out).mono ?_); rintro e w107 ⟨rfl, hb⟩; refine ⟨_, rfl, ?_⟩; have n0_ := Aside0.mk (Kd.R_below (by (with_reducible repeat (first | apply Kd.R_alloc | apply Kd.R_drewN | apply Kd.R_drew)); exact HO360.out) hb); have n1_ := Aside0.mk (below_step (by repeat (first | (with_reducible first | exact HB.out | apply below_alloc | apply pw_below_drewN | apply below_drew1) | exact HB.out)) hb); clear HO360; clear HB; have HO360 := n0_; have HB := n1_; clear n0_ n1_; (try clear hb); (try clear hb2); (try clear hk); (try clear hi)))
      go_ret
      exact ⟨by first | rfl | (simp [errW_none, errW_some] <;> rfl) | (simp [*, errW_none, errW_some] <;> rfl), by repeat (first | (with_reducible first | exact HB.out | apply below_alloc | apply pw_below_drewN | apply below_drew1) | exact HB.out)⟩

end Go.Proofs.Ythlbjdiicmojfaa.P

/-! Part Out9. -/
namespace Go.Proofs.Ythlbjdiicmojfaa.P
open Go.RowKit Go.Proofs.YthlbjdiicmojfaaW.PrintWords Go.Proofs.YthlbjdiicmojfaaW.PrintLast Go.Proofs.YthlbjdiicmojfaaW.PrintMore
set_option linter.unusedVariables false

set_option maxHeartbeats 2000000 in
set_option maxRecDepth 100000 in
theorem out9 (k : Nat) (A0 : Option Addr) (n0 : Nat) (zs0 : List Int) (x1 : Int) (w : World) (hr0 : Kd.C (Kd.int .i64) w A0 zs0.length zs0) (hn0 : n0 ≤ zs0.length) (hl0 : zs0.length * 8 ≤ 140737488351232)
    (h : verditerlaw08_secretReturns.f k (zs0.take n0) x1 = some true) :
    Calls Try.prog 9 #[.slice A0 n0 zs0.length, .int .i64 x1] w fun e w' => e = .returned (.bool true) ∧ Below w.heap.size w w' := by
  have HR0 := Aside0.mk hr0
  have hnl0 : (zs0.take n0).length = n0 := by rw [List.length_take]; omega
  have HI := Aside0.mk (fun (w1 : World) (hb : Below w.heap.size w w1) => verditerlaw08_secretReturns.calls k A0 zs0.length (zs0.take n0) x1 true w1 (Kd.C_take (Kd.C_below hr0 hb) hn0) (by omega) h rfl)
  rw [hnl0] at HI
  have HK0 := Aside0.mk (keepInts A0 n0 zs0 w hr0 hn0 hl0)
  have HN0 := Aside0.mk hn0
  have HB := Aside0.mk (Below.refl w.heap.size w)
  clear h hr0 hnl0 hn0 hl0
  go_enter Try.func9, Try.ntmps9
  go_wp2_with fail
  with_reducible refine HK0.out.mono ?_
  rintro e w1 ⟨v, rfl, hv, hb⟩
  obtain ⟨B0, c0, rfl, hcc0, hc⟩ := Kd.R_reads hv
  have HC0 := Aside0.mk hc
  clear HB; have HB := Aside0.mk hb
  clear hb hc hv
  go_wp2_with fail
  with_reducible refine (HI.out w1 HB.out).mono ?_
  rintro e wi ⟨rfl, hb⟩
  have hcx := Kd.C_below HC0.out hb; clear HC0; have HC0 := Aside0.mk hcx; clear hcx
  have hbx := below_step HB.out hb; clear HB; have HB := Aside0.mk hbx; have HBI := Aside0.mk hbx; clear hbx hb
  go_wp2_with fail
  with_reducible refine (keptInts B0 c0 A0 n0 zs0 _ HC0.out (Kd.C_below HR0.out HB.out) HN0.out).mono ?_
  rintro e wk0 ⟨rfl, ⟨m0, rfl⟩⟩
  have hbx := pw_below_drewN HB.out m0; clear HB; have HB := Aside0.mk hbx; clear hbx
  go_wp2_with fail
  go_ret
  exact ⟨rfl, pw_below_drewN HBI.out _⟩
end Go.Proofs.Ythlbjdiicmojfaa.P

/-! Part Open. -/
namespace Go.Proofs.Ythlbjdiicmojfaa.P
open Go.RowKit Go.Proofs.YthlbjdiicmojfaaW.PrintWords Go.Proofs.YthlbjdiicmojfaaW.PrintLast Go.Proofs.YthlbjdiicmojfaaW.PrintMore
open Go.ChangeShapes Go.WideShapes Go.Deep
set_option linter.unusedVariables false

theorem open_intlist {H : Type} {enc : TypeId × Value → H} {W : World} {base : Nat} {held : Bool} {a : Option Addr} {len cap : Nat} {d : DataW H} {ps : List MemPlace} {ts : List TypeId} {ds : List (DataW H)} {j : Nat}
    (hsz : (DataW.weightsEach Try.prog ts ds).all (· ≤ reachBytes) = true) (ht : ts[j]? = some 26) (hd : ds[j]? = some d)
    (h : DataW.Trod enc Try.prog W base (fun _ => true) held 26 (.slice a len cap) d ps) :
    ∃ zs : List Int, cap = zs.length ∧ len ≤ zs.length ∧ Kd.C (Kd.int .i64) W a zs.length zs ∧ zs.length * 8 ≤ 140737488351232 ∧ ∀ z ∈ zs, (Lit.int .i64 z).wf = true := by
  obtain ⟨fuel, hf⟩ := h
  rcases open_ints Try.underlying26 Try.underlying3 (by kernel_rfl) hf with ⟨hcs, _⟩ | ⟨x, l, c, zs, hcs, _, hl, hm, hz, hx, hcell, hwz⟩
  · simp [Value.cells] at hcs
    obtain ⟨rfl, rfl, rfl⟩ := hcs
    exact ⟨[], rfl, Nat.le_refl _, Kd.C_nil _ _, by simp, by simp⟩
  · simp [Value.cells] at hcs
    obtain ⟨rfl, rfl, rfl⟩ := hcs
    simp only [if_true] at hz
    obtain ⟨hx, _⟩ := Prod.mk.inj hx
    subst hx
    have z := sized_slice hsz ht hd Try.underlying26
    have h1 : (lits (H := H) .i64 (zs.take len)).length + (lits (H := H) .i64 (zs.drop len)).length = zs.length := by
      simp [lits]
      omega
    rw [h1, show Try.prog.bytesOf 3 = 8 by kernel_rfl] at z
    refine ⟨zs, hz.symm, by omega, Kd.C_of_reads (enc := Value.int .i64) (d := (0 : Int)) (h1 := fun _ => rfl) ⟨rfl, by rw [hz]; simp only [maxLen] at hm; omega, fun _ => ⟨x, rfl, fun j hj => ?_⟩⟩, z, hwz⟩
    exact hcell j hj

theorem open_partlist {H : Type} {enc : TypeId × Value → H} {W : World} {base : Nat} {held : Bool} {a : Option Addr} {len cap : Nat} {d : DataW H} {ps : List MemPlace} {ts : List TypeId} {ds : List (DataW H)} {j : Nat}
    (hsz : (DataW.weightsEach Try.prog ts ds).all (· ≤ reachBytes) = true) (ht : ts[j]? = some 22) (hd : ds[j]? = some d)
    (h : DataW.Trod enc Try.prog W base (fun _ => true) held 22 (.slice a len cap) d ps) :
    ∃ zs : List S43, cap = zs.length ∧ len ≤ zs.length ∧ Kd.C k43 W a zs.length zs ∧ zs.length * 16 ≤ 140737488351232 ∧ ∀ z ∈ zs, (Lit.int .i64 z.f0).wf = true ∧ (Lit.int .i64 z.f1).wf = true := by
  obtain ⟨fuel, hf⟩ := h
  rcases open_slice_pairs Try.underlying22 Try.underlying43 (by kernel_rfl) rfl rfl (by kernel_rfl) (by kernel_rfl) hf with ⟨hcs, _⟩ | ⟨x, l, c, m, n, V0, V1, D0, D1, P0, P1, hcs, _, hl, hm, hmm, hx, hi⟩
  · simp [Value.cells] at hcs
    obtain ⟨rfl, rfl, rfl⟩ := hcs
    exact ⟨[], rfl, Nat.le_refl _, Kd.C_nil _ _, by simp, by simp⟩
  · simp [Value.cells] at hcs
    obtain ⟨rfl, rfl, rfl⟩ := hcs
    simp only [if_true] at hmm
    subst hmm
    obtain ⟨hx, _⟩ := Prod.mk.inj hx
    subst hx
    have z := sized_slice hsz ht hd Try.underlying22
    rw [show Try.prog.bytesOf 43 = 16 by kernel_rfl] at z
    simp only [List.length_map, List.length_range] at z
    rw [show len + (m - len) = m by omega] at z
    have key : ∀ i, i < m → ∃ p : S43, (W.cell? (x.add (i * 2)) = some (.int .i64 p.f0) ∧ W.cell? (x.add (i * 2 + 1)) = some (.int .i64 p.f1)) ∧ (Lit.int .i64 p.f0).wf = true ∧ (Lit.int .i64 p.f1).wf = true := by
      intro i him
      obtain ⟨g0, g1, g2, g3⟩ := hi i him
      obtain ⟨a0, e0, _, w0⟩ := DataW.trod_int Try.underlying3 g2
      obtain ⟨a1, e1, _, w1⟩ := DataW.trod_int Try.underlying3 g3
      simp only [List.cons.injEq, and_true] at e0 e1
      exact ⟨⟨a0, a1⟩, ⟨by rw [g0, e0], by rw [g1, e1]⟩, w0, w1⟩
    haveI : Inhabited S43 := ⟨z43⟩
    obtain ⟨q, hq⟩ := choose_lt key
    have hlen : ((List.range m).map q).length = m := by simp
    refine ⟨(List.range m).map q, hlen.symm, by rw [hlen]; exact hl, ⟨rfl, by rw [hlen]; simp only [maxLen] at hm; omega, fun _ => ⟨x, rfl, fun i p hp => ?_⟩⟩, by rw [hlen]; exact z, ?_⟩
    · obtain ⟨him, hpe⟩ := List.getElem?_eq_some_iff.1 hp
      rw [hlen] at him
      simp only [List.getElem_map, List.getElem_range] at hpe
      subst hpe
      refine ⟨[.int .i64 (q i).f0, .int .i64 (q i).f1], rfl, k43_mk _ _, fun j u hu => ?_⟩
      match j, hu with
      | 0, hu => simp at hu; subst hu; exact (hq i him).1.1
      | 1, hu => simp at hu; subst hu; exact (hq i him).1.2
    · intro p hp
      obtain ⟨i, him, rfl⟩ := List.mem_map.1 hp
      exact (hq i (List.mem_range.1 him)).2
end Go.Proofs.Ythlbjdiicmojfaa.P

/-! Part Alg. -/
namespace Ply
theorem inv_ex : ∀ a : Fin 251, a ≠ 0 → ∃ b, a * b = 1 := by
  have h : ∀ a : Fin 251, a ≠ 0 → a * a^249 = 1 := by decide +kernel
  exact fun a ha => ⟨_, h a ha⟩
theorem nzd (a b : Fin 251) (h : a * b = 0) (ha : a ≠ 0) : b = 0 := by
  obtain ⟨c, hc⟩ := inv_ex a ha
  have : b = (a * c) * b := by rw [hc]; grind
  have h2 : a * c * b = c * (a * b) := by grind
  rw [this, h2, h]; grind
def ev : List (Fin 251) → Fin 251 → Fin 251
  | [], _ => 0
  | c :: q, x => c + x * ev q x
def dv (a : Fin 251) : List (Fin 251) → List (Fin 251)
  | [] => []
  | [_] => []
  | _ :: c :: q => ev (c :: q) a :: dv a (c :: q)
theorem ev_dv (a x : Fin 251) : ∀ p, ev p x = ev p a + (x - a) * ev (dv a p) x
  | [] => by simp only [ev, dv]; grind
  | [c] => by simp only [ev, dv]; grind
  | d :: c :: q => by
    have ih := ev_dv a x (c :: q)
    simp only [dv, ev] at ih ⊢
    generalize ev (dv a (c :: q)) x = t at *
    generalize ev q a = u at *
    generalize ev q x = v at *
    grind
theorem len_dv (a : Fin 251) : ∀ p, (dv a p).length = p.length - 1
  | [] => rfl
  | [_] => rfl
  | _ :: c :: q => by
    have ih := len_dv a (c :: q)
    simp only [dv, List.length_cons] at ih ⊢
    omega
theorem dv_zero (a : Fin 251) : ∀ p, (∀ c ∈ dv a p, c = 0) → ev p a = 0 → ∀ c ∈ p, c = 0
  | [], _, _ => by simp
  | [c], _, h => by
    simp only [ev] at h
    have h2 : c = 0 := by grind
    simp [h2]
  | d :: c :: q, hz, h => by
    simp only [dv, List.mem_cons, forall_eq_or_imp] at hz
    have h1 : d = 0 := by
      have h' : d + a * ev (c :: q) a = 0 := h
      rw [hz.1] at h'; grind
    have ih := dv_zero a (c :: q) hz.2 hz.1
    intro x hx
    rcases List.mem_cons.1 hx with rfl | hx
    · exact h1
    · exact ih x hx
theorem roots (n : Nat) : ∀ (p xs : List (Fin 251)), p.length = n → xs.Nodup → n ≤ xs.length → (∀ x ∈ xs, ev p x = 0) → ∀ c ∈ p, c = 0 := by
  induction n with
  | zero => intro p xs hp _ _ _; rw [List.length_eq_zero_iff.1 hp]; simp
  | succ n ih =>
    intro p xs hp hn hl hz
    cases xs with
    | nil => simp at hl
    | cons a xs =>
      have ha := hz a (by simp)
      refine dv_zero a p (ih (dv a p) xs (by rw [len_dv, hp]; rfl) (List.nodup_cons.1 hn).2 (by simp at hl; omega) ?_) ha
      intro x hx
      have h1 := ev_dv a x p
      rw [hz x (by simp [hx]), ha] at h1
      have hne : x - a ≠ 0 := by
        intro e
        have : x = a := by
          have : x = (x - a) + a := by grind
          rw [this, e]; grind
        rw [this] at hx; exact (List.nodup_cons.1 hn).1 hx
      refine nzd (x - a) _ ?_ hne
      generalize ev (dv a p) x = t at *
      grind
theorem ev_sub : ∀ (p q : List (Fin 251)) (x : Fin 251), p.length = q.length → ev (List.zipWith (fun a b => a - b) p q) x = ev p x - ev q x
  | [], [], x, _ => by simp [ev]
  | a :: p, b :: q, x, h => by
    have ih := ev_sub p q x (by simpa using h)
    simp only [List.zipWith_cons_cons, ev, ih]
    grind
theorem sub_zero_eq : ∀ (p q : List (Fin 251)), p.length = q.length → (∀ c ∈ List.zipWith (fun a b => a - b) p q, c = 0) → p = q
  | [], [], _, _ => rfl
  | a :: p, b :: q, h, hz => by
    simp only [List.zipWith_cons_cons, List.mem_cons, forall_eq_or_imp] at hz
    have hab : a = b := by
      have : a = (a - b) + b := by grind
      rw [this, hz.1]; grind
    rw [hab, sub_zero_eq p q (by simpa using h) hz.2]
theorem uniq (p q xs : List (Fin 251)) (hl : p.length = q.length) (hn : xs.Nodup) (hx : p.length ≤ xs.length) (h : ∀ x ∈ xs, ev p x = ev q x) : p = q := by
  refine sub_zero_eq p q hl (roots p.length _ xs (by simp [hl]) hn hx ?_)
  intro x hm
  rw [ev_sub p q x hl, h x hm]; grind
end Ply

/-! Part Lag. -/
namespace Go.Proofs.Ythlbjdiicmojfaa.P
open Go.RowKit Go.Proofs.YthlbjdiicmojfaaW.PrintWords Go.Proofs.YthlbjdiicmojfaaW.PrintLast Go.Proofs.YthlbjdiicmojfaaW.PrintMore
open Ply
set_option linter.unusedVariables false

theorem getD_get {α : Type} (l : List α) (d : α) {i : Nat} (h : i < l.length) : l.getD i d = l[i] := by
  simp [List.getD, List.getElem?_eq_getElem h]
/-! ### Numbers as classes -/
def cst (n : Int) : Fin 251 := ⟨(n % 251).toNat, by omega⟩
theorem cst_mod (a : Int) : cst (a % 251) = cst a := by
  unfold cst; congr 2; omega
theorem cst_add (a b : Int) : cst (a + b) = cst a + cst b := by
  apply Fin.ext
  simp only [cst, Fin.val_add]
  omega
theorem cst_zero : cst 0 = 0 := rfl
theorem cst_one : cst 1 = 1 := rfl
theorem cst_sub (a b : Int) : cst (a - b) = cst a - cst b := by
  have h := cst_add (a - b) b
  rw [show a - b + b = a by omega] at h
  rw [h]; grind
theorem cst_mul (a b : Int) : cst (a * b) = cst a * cst b := by
  apply Fin.ext
  simp only [cst, Fin.val_mul]
  have h1 : ((a % 251).toNat : Int) = a % 251 := by omega
  have h2 : ((b % 251).toNat : Int) = b % 251 := by omega
  have h3 : a * b % 251 = (a % 251) * (b % 251) % 251 := Int.mul_emod a b 251
  have h4 : ((((a % 251).toNat * (b % 251).toNat) % 251 : Nat) : Int) = (a % 251) * (b % 251) % 251 := by
    rw [Int.natCast_emod, Int.natCast_mul, h1, h2]; rfl
  have h5 : (((a * b % 251).toNat : Nat) : Int) = a * b % 251 := by omega
  omega
theorem cst_inj {a b : Int} (ha : num a = true) (hb : num b = true) (h : cst a = cst b) : a = b := by
  rw [num_iff] at ha hb
  have := congrArg Fin.val h
  simp only [cst] at this
  omega
theorem cst_ne {a b : Int} (ha : num a = true) (hb : num b = true) (h : a ≠ b) : cst a - cst b ≠ 0 := by
  intro e
  apply h
  apply cst_inj ha hb
  have : cst a = (cst a - cst b) + cst b := by grind
  rw [this, e]; grind

/-! ### A curve's value -/
theorem cst_atI : ∀ (c : List Int) (x : Int), cst (atI c x) = ev (c.map cst) (cst x)
  | [], x => rfl
  | n :: c, x => by
    have ih := cst_atI c x
    show cst ((atI c x * x + n) % 251) = cst n + cst x * ev (c.map cst) (cst x)
    rw [cst_mod, cst_add, cst_mul, ih]; grind
theorem atI_eq {c : List Int} {x r : Int} (hr : num r = true) (h : cst r = ev (c.map cst) (cst x)) : r = atI c x := cst_inj hr (num_atI c x) (by rw [h, cst_atI])

/-! ### Products and sums of curves -/
theorem ev_timesL : ∀ (c : List Int) (less m carry : Int) (x : Fin 251), ev ((timesL c less m carry).map cst) x = cst carry + (x - cst less) * cst m * ev (c.map cst) x
  | [], less, m, carry, x => by
    simp only [timesL, List.map_cons, List.map_nil, ev, cst_mod]; grind
  | n :: c, less, m, carry, x => by
    have ih := ev_timesL c less m (n * m) x
    simp only [timesL, List.map_cons, ev, cst_mod, ih, cst_sub, cst_mul]
    generalize ev (c.map cst) x = t
    grind
theorem ev_zip (f : Int → Int → Int) (u v : Fin 251) (hf : ∀ a b, cst (f a b) = u * cst a + v * cst b) : ∀ (c d : List Int) (x : Fin 251), c.length = d.length → ev ((List.zipWith f c d).map cst) x = u * ev (c.map cst) x + v * ev (d.map cst) x
  | [], [], x, _ => by simp only [List.zipWith_nil_left, List.map_nil, ev]; grind
  | a :: c, b :: d, x, h => by
    have ih := ev_zip f u v hf c d x (by simpa using h)
    simp only [List.zipWith_cons_cons, List.map_cons, ev, ih, hf]
    grind
theorem ev_plusL (c d : List Int) (x : Fin 251) (h : c.length = d.length) : ev ((plusL c d).map cst) x = ev (c.map cst) x + ev (d.map cst) x := by
  have := ev_zip (fun a b => (a + b) % 251) 1 1 (fun a b => by rw [cst_mod, cst_add]; grind) c d x h
  rw [show plusL c d = List.zipWith (fun a b => (a + b) % 251) c d from rfl, this]; grind
theorem ev_zeros (x : Fin 251) : ∀ n, ev ((List.replicate n (0 : Int)).map cst) x = 0
  | 0 => rfl
  | n + 1 => by
    rw [List.replicate_succ, List.map_cons, ev, ev_zeros x n, cst_zero]; grind

/-! ### The inverse -/
theorem cst_powIt (n : Int) : ∀ d x, cst (powIt n d x) = cst x * cst n ^ d
  | 0, x => by simp only [powIt]; grind
  | d + 1, x => by
    rw [powIt, cst_powIt n d, cst_mod, cst_mul]; grind
theorem inv_all : ∀ a : Fin 251, a ≠ 0 → a * a ^ 249 = 1 := by decide +kernel
theorem inv_mul (n : Int) (h : cst n ≠ 0) : cst (invI n) * cst n = 1 := by
  unfold invI
  rw [cst_powIt, cst_one]
  have := inv_all (cst n) h
  grind

/-! ### Lagrange's curves -/
theorem ev_basis_zero (xi : Int) (x : Fin 251) : ∀ (others c : List Int), (∃ xj ∈ others, cst xj = x) ∨ ev (c.map cst) x = 0 → ev ((basis xi others c).map cst) x = 0
  | [], c, h => by
    rcases h with ⟨_, h, _⟩ | h
    · simp at h
    · exact h
  | y :: others, c, h => by
    refine ev_basis_zero xi x others (timesL c y (invI ((xi - y) % 251)) 0) ?_
    rcases h with ⟨xj, hm, he⟩ | h
    · rcases List.mem_cons.1 hm with rfl | hm
      · right
        rw [ev_timesL, ← he, cst_zero]; grind
      · exact .inl ⟨xj, hm, he⟩
    · right
      rw [ev_timesL, h, cst_zero]; grind
theorem ev_basis_own (xi : Int) : ∀ (others c : List Int), (∀ xj ∈ others, cst xi - cst xj ≠ 0) → ev ((basis xi others c).map cst) (cst xi) = ev (c.map cst) (cst xi)
  | [], c, h => rfl
  | y :: others, c, h => by
    have ih := ev_basis_own xi others (timesL c y (invI ((xi - y) % 251)) 0) (fun xj hj => h xj (List.mem_cons_of_mem _ hj))
    rw [show basis xi (y :: others) c = basis xi others (timesL c y (invI ((xi - y) % 251)) 0) from rfl, ih, ev_timesL, cst_zero]
    have h1 := inv_mul ((xi - y) % 251) (by rw [cst_mod, cst_sub]; exact h y (by simp))
    rw [cst_mod, cst_sub] at h1
    generalize cst (invI ((xi - y) % 251)) = t at *
    generalize ev (c.map cst) (cst xi) = u at *
    grind

/-! ### The curve through points -/
/-- Points whose places are numbers, all different; their values are numbers. -/
def good (p : List (Int × Int)) : Prop := (∀ q ∈ p, num q.1 = true ∧ num q.2 = true) ∧ (p.map Prod.fst).Nodup
theorem good_getD {p : List (Int × Int)} (h : good p) {i : Nat} (hi : i < p.length) : num (p.getD i (0, 0)).1 = true ∧ num (p.getD i (0, 0)).2 = true := by
  rw [getD_get _ _ hi]
  exact h.1 _ (List.getElem_mem hi)
theorem ev_one_own {p : List (Int × Int)} (h : good p) {i : Nat} (hi : i < p.length) : ev ((oneL p i).map cst) (cst (p.getD i (0, 0)).1) = cst (p.getD i (0, 0)).2 := by
  unfold oneL
  rw [ev_basis_own]
  · simp only [List.map_cons, List.map_nil, ev]; grind
  · intro xj hm
    obtain ⟨j, hj, hne, rfl⟩ := List.mem_eraseIdx_iff_getElem.1 hm
    rw [List.length_map] at hj
    rw [getD_get _ _ hi]
    refine cst_ne (h.1 _ (List.getElem_mem hi)).1 (by rw [List.getElem_map]; exact (h.1 _ (List.getElem_mem hj)).1) fun e => hne ?_
    have h2 := h.2
    rw [List.Nodup, List.pairwise_iff_getElem] at h2
    rcases Nat.lt_trichotomy i j with hlt | heq | hgt
    · exact absurd (by rw [List.getElem_map, List.getElem_map]; simpa using e) (h2 i j (by simpa using hi) (by simpa using hj) hlt)
    · exact heq.symm
    · exact absurd (by rw [List.getElem_map, List.getElem_map]; simpa using e.symm) (h2 j i (by simpa using hj) (by simpa using hi) hgt)
theorem ev_one_other {p : List (Int × Int)} {i j : Nat} (hj : j < p.length) (hne : j ≠ i) : ev ((oneL p i).map cst) (cst (p.getD j (0, 0)).1) = 0 := by
  unfold oneL
  refine ev_basis_zero _ _ _ _ (.inl ⟨(p.getD j (0, 0)).1, ?_, rfl⟩)
  refine List.mem_eraseIdx_iff_getElem.2 ⟨j, by simpa using hj, hne, ?_⟩
  rw [List.getElem_map, getD_get _ _ hj]
theorem ev_interpTo {p : List (Int × Int)} (h : good p) {j : Nat} (hj : j < p.length) : ∀ m, m ≤ p.length → ev ((interpTo p m).map cst) (cst (p.getD j (0, 0)).1) = if j < m then cst (p.getD j (0, 0)).2 else 0
  | 0, _ => by
    rw [if_neg (by omega)]
    exact ev_zeros _ _
  | m + 1, hm => by
    rw [interpTo_succ, ev_plusL _ _ _ (by rw [interpTo_length p m (by omega), oneL_length p m (by omega)]), ev_interpTo h hj m (by omega)]
    by_cases e : j = m
    · subst e
      rw [if_neg (by omega), if_pos (by omega), ev_one_own h hj]; grind
    · rw [ev_one_other hj e]
      by_cases hlt : j < m
      · rw [if_pos hlt, if_pos (by omega)]; grind
      · rw [if_neg hlt, if_neg (by omega)]; grind
theorem interp_len (p : List (Int × Int)) : (interp p).length = p.length := interpTo_length p _ (Nat.le_refl _)
theorem interp_nums (p : List (Int × Int)) : ∀ n ∈ interp p, num n = true := interpTo_num p _
theorem interp_at {p : List (Int × Int)} (h : good p) {q : Int × Int} (hq : q ∈ p) : atI (interp p) q.1 = q.2 := by
  obtain ⟨j, hj, rfl⟩ := List.mem_iff_getElem.1 hq
  symm
  refine atI_eq (h.1 _ hq).2 ?_
  have := ev_interpTo h hj p.length (Nat.le_refl _)
  rw [if_pos hj, getD_get _ _ hj] at this
  exact this.symm

/-! ### One curve alone -/
theorem map_cst_inj : ∀ (c d : List Int), (∀ n ∈ c, num n = true) → (∀ n ∈ d, num n = true) → c.map cst = d.map cst → c = d
  | [], [], _, _, _ => rfl
  | [], _ :: _, _, _, h => by simp at h
  | _ :: _, [], _, _, h => by simp at h
  | a :: c, b :: d, hc, hd, h => by
    simp only [List.map_cons, List.cons.injEq] at h
    rw [cst_inj (hc a (by simp)) (hd b (by simp)) h.1, map_cst_inj c d (fun n hn => hc n (by simp [hn])) (fun n hn => hd n (by simp [hn])) h.2]
theorem nodup_cst : ∀ {xs : List Int}, (∀ x ∈ xs, num x = true) → xs.Nodup → (xs.map cst).Nodup
  | [], _, _ => by simp
  | a :: xs, hn, h => by
    rw [List.nodup_cons] at h
    rw [List.map_cons, List.nodup_cons]
    refine ⟨fun hm => ?_, nodup_cst (fun x hx => hn x (by simp [hx])) h.2⟩
    obtain ⟨b, hb, e⟩ := List.mem_map.1 hm
    rw [cst_inj (hn b (by simp [hb])) (hn a (by simp)) e] at hb
    exact h.1 hb
theorem curve_uniq {c d xs : List Int} (hl : c.length = d.length) (hc : ∀ n ∈ c, num n = true) (hd : ∀ n ∈ d, num n = true) (hx : ∀ x ∈ xs, num x = true) (hn : xs.Nodup) (hlen : c.length ≤ xs.length)
    (h : ∀ x ∈ xs, atI c x = atI d x) : c = d := by
  refine map_cst_inj c d hc hd (uniq _ _ (xs.map cst) (by simpa using hl) (nodup_cst hx hn) (by simpa using hlen) ?_)
  intro y hy
  obtain ⟨x, hm, rfl⟩ := List.mem_map.1 hy
  rw [← cst_atI, ← cst_atI, h x hm]
theorem interp_uniq {p : List (Int × Int)} {c : List Int} (h : good p) (hl : c.length = p.length) (hc : ∀ n ∈ c, num n = true) (ha : ∀ q ∈ p, atI c q.1 = q.2) : c = interp p := by
  refine curve_uniq (xs := p.map Prod.fst) (by rw [hl, interp_len]) hc (interp_nums p) ?_ h.2 (by rw [List.length_map]; omega) ?_
  · intro x hx
    obtain ⟨q, hq, rfl⟩ := List.mem_map.1 hx
    exact (h.1 q hq).1
  · intro x hx
    obtain ⟨q, hq, rfl⟩ := List.mem_map.1 hx
    rw [ha q hq, interp_at h hq]
theorem atI_zero {c : List Int} (hc : ∀ n ∈ c, num n = true) : atI c 0 = c.getD 0 0 := by
  cases c with
  | nil => rfl
  | cons n c =>
    have := num_iff.1 (hc n (by simp))
    show (atI c 0 * 0 + n) % 251 = n
    omega
theorem atI_more (c : List Int) (x : Int) : ∀ n, atI (c ++ List.replicate n 0) x = atI c x
  | 0 => by simp
  | n + 1 => by
    rw [List.replicate_succ', ← List.append_assoc]
    unfold atI
    rw [List.foldr_append]
    simp only [List.foldr_cons, List.foldr_nil]
    rw [show ((0 : Int) * x + 0) % 251 = 0 by rw [Int.zero_mul]; rfl]
    exact atI_more c x n
theorem good_pts {l : List S43} (h : valid l = 0) : good (pts l) := by
  obtain ⟨_, hok, hn⟩ := valid_iff.1 h
  refine ⟨fun q hq => ?_, ?_⟩
  · obtain ⟨p, hp, rfl⟩ := List.mem_map.1 hq
    have := okP_iff.1 (hok p hp)
    exact ⟨num_iff.2 (by simp only; omega), num_iff.2 (by simp only; omega)⟩
  · unfold pts
    rw [List.map_map]
    exact hn
theorem pts_length (l : List S43) : (pts l).length = l.length := by simp [pts]
theorem mem_pts {l : List S43} {p : S43} (h : p ∈ l) : (p.f0, p.f1) ∈ pts l := List.mem_map.2 ⟨p, h, rfl⟩
end Go.Proofs.Ythlbjdiicmojfaa.P

/-! Part PF82. -/
-- Written for this claim by wip/print_more.py (a session's program that runs the kit's printer with hand-proved functions beside). Lean checks it.
namespace Go.Proofs.Ythlbjdiicmojfaa.P
open Go.RowKit Go.Proofs.YthlbjdiicmojfaaW.PrintWords Go.Proofs.YthlbjdiicmojfaaW.PrintLast Go.Proofs.YthlbjdiicmojfaaW.PrintMore
attribute [local go_sem] max2_int min2_int max_two min_two max_three min_three max_four min_four   -- for this text's walks alone
set_option linter.unusedVariables false
set_option linter.unusedSimpArgs false

/-! ### verditerref08_at: function 82 -/
def verditerref08_at.l0 : Nat → List Int → Int → Int → Int → Int → Option (Int)
  | 0, _, _, _, _, _ => none
  | k + 1, x0, x1, x5, x6, x7 => if x7 < (x0.length : Int) then (if 0 ≤ x7 then ((verditerref08_mod.f (wrap64 (x5 + (wrap64 ((rd x0 x7) * x6))))).bind fun t245 => ((verditerref08_mod.f (wrap64 (x6 * x1))).bind fun t246 => (verditerref08_at.l0 k x0 x1 t245 t246 (wrap64 (x7 + 1))))) else (none)) else (some x5)
def verditerref08_at.f (k : Nat) (l0 : List Int) (a1 : Int) : Option (Int) := verditerref08_at.l0 k l0 a1 0 1 0
theorem verditerref08_at.mono_l : ∀ k, (∀ y0 y1 y2 y3 y4, LeO (verditerref08_at.l0 k y0 y1 y2 y3 y4) (verditerref08_at.l0 (k + 1) y0 y1 y2 y3 y4))
  | 0 => fun _ _ _ _ _ r h => by simp [verditerref08_at.l0] at h
  | k + 1 => by
    have ih0 := verditerref08_at.mono_l k
    · intro y0 y1 y2 y3 y4
      unfold verditerref08_at.l0
      repeat' first
      | (with_reducible exact ih0 _ _ _ _ _)
      | (with_reducible exact LeO.refl _)
      | (with_reducible exact LeO.none _)
      | (with_reducible refine LeO.ite ?_ ?_)
      | (with_reducible refine LeO.bind ?_ (fun _ => ?_))
      | exact ih0 _ _ _ _ _
      | exact LeO.none _
      | refine LeO.ite ?_ ?_
      | refine LeO.bind ?_ (fun _ => ?_)
theorem verditerref08_at.mono : ∀ a0 a1 k, LeO (verditerref08_at.f k a0 a1) (verditerref08_at.f (k + 1) a0 a1) := by
  intro a0 a1 k
  have ih0 := verditerref08_at.mono_l k
  unfold verditerref08_at.f
  repeat' first
      | (with_reducible exact ih0 _ _ _ _ _)
      | (with_reducible exact LeO.refl _)
      | (with_reducible exact LeO.none _)
      | (with_reducible refine LeO.ite ?_ ?_)
      | (with_reducible refine LeO.bind ?_ (fun _ => ?_))
      | exact ih0 _ _ _ _ _
      | exact LeO.none _
      | refine LeO.ite ?_ ?_
      | refine LeO.bind ?_ (fun _ => ?_)
set_option maxHeartbeats 8000000 in
set_option maxRecDepth 100000 in
theorem verditerref08_at.calls (k : Nat) (A0 : Option Addr) (c0 : Nat) (l0 : List Int) (a1 : Int) (r : Int) (w : World) (hr0 : Kd.C (Kd.int .i64) w A0 l0.length l0) (hc0 : l0.length ≤ c0) (h : verditerref08_at.f k l0 a1 = some r) :
    Calls Try.prog 82 #[.slice A0 l0.length c0, .int .i64 a1] w fun e w' => e = .returned (.int .i64 r) ∧ Drawn0 w w' := by
  have HR0 := Aside0.mk hr0
  have HC0 := Aside0.mk hc0
  clear hr0 hc0
  have H : (verditerref08_at.l0 k l0 a1 0 1 0) = some r := h
  clear h
  have H' := Aside0.mk H
  clear H
  go_enter Try.func82, Try.ntmps82
  go_wp2
  go_loopg [5, 6, 7] k (fun kq v5 v6 v7 w' => ∃ (x5_1 : Int) (x6_1 : Int) (x7_1 : Int), v5 = .int .i64 x5_1 ∧ v6 = .int .i64 x6_1 ∧ v7 = .int .i64 x7_1 ∧ Aside0 (verditerref08_at.l0 kq l0 a1 x5_1 x6_1 x7_1 = some r) ∧ Aside0 (kq ≤ k) ∧ Drawn0 w w')
  case atStart => exact ⟨(0), (1), (0), (by first | rfl | (simp; done) | (simp [*]; done)), (by first | rfl | (simp; done) | (simp [*]; done)), (by first | rfl | (simp; done) | (simp [*]; done)), H', ⟨Nat.le_refl _⟩, by repeat (first | exact Drawn0.refl _ | apply Drawn0.step)⟩
  case round =>
    clear H'
    try clear p2
    obtain ⟨x5_1, x6_1, x7_1, rfl, rfl, rfl, HA, HK1, ⟨m1, rfl⟩⟩ := hrel
    cases gk with
    | zero => exact absurd HA.out (by simp [verditerref08_at.l0])
    | succ k1 =>
      have H := HA.out
      clear HA
      simp only [verditerref08_at.l0] at H
      by_cases c3 : x7_1 < (l0.length : Int)
      · rw [if_pos c3] at H
        have c3b0 : decide (x7_1 < (l0.length : Int)) = true := decide_eq_true c3
        clear c3
        by_cases c4 : 0 ≤ x7_1
        · rw [if_pos c4] at H
          have c4b0 : decide (0 ≤ x7_1) = true := decide_eq_true c4
          clear c4
          replace H := Option.bind_eq_some_iff.mp H
          obtain ⟨t245, A50, H⟩ := H
          replace H : ((verditerref08_mod.f (wrap64 (x6_1 * a1))).bind fun t246 => (verditerref08_at.l0 k1 l0 a1 t245 t246 (wrap64 (x7_1 + 1)))) = some r := H
          have A5 := Aside0.mk A50
          clear A50
          replace H := Option.bind_eq_some_iff.mp H
          obtain ⟨t246, A60, H⟩ := H
          replace H : (verditerref08_at.l0 k1 l0 a1 t245 t246 (wrap64 (x7_1 + 1))) = some r := H
          have A6 := Aside0.mk A60
          clear A60
          have H' := Aside0.mk H
          clear H
          have p244 : 0 ≤ (x7_1 : Int) := of_decide_eq_true (by first | (with_reducible assumption) | assumption)
          have q244 : x7_1 < (l0.length : Int) := of_decide_eq_true (by first | (with_reducible assumption) | assumption)
          obtain ⟨ad244, e244, hx244_0⟩ := Kd.at_int HR0.out x7_1 p244 q244
          cases e244
          replace p244 := eq_true p244
          replace q244 := eq_true q244
          go_wp2_with (first | ((with_reducible refine gate_callee (f := 104) rfl ?_); refine goesL_ (some 22) rfl rfl Try.func104 (by kernel_rfl) rfl #[.int .i64 (wrap64 (x5_1 + (wrap64 ((rd l0 x7_1) * x6_1))))] rfl (by (try simp only [List.map_toArray, List.map_cons, List.map_nil]); first | done | rfl | (simp only [List.length_drop, List.length_take]; rfl)) ?_; (with_reducible refine (verditerref08_mod.calls (wrap64 (x5_1 + (wrap64 ((rd l0 x7_1) * x6_1)))) t245 _ A5.out).mono ?_); rintro e w' ⟨rfl, ⟨nd, rfl⟩⟩; refine ⟨_, rfl, ?_⟩) | ((with_reducible refine gate_callee (f := 104) rfl ?_); refine goesL_ (some 26) rfl rfl Try.func104 (by kernel_rfl) rfl #[.int .i64 (wrap64 (x6_1 * a1))] rfl (by (try simp only [List.map_toArray, List.map_cons, List.map_nil]); first | done | rfl | (simp only [List.length_drop, List.length_take]; rfl)) ?_; (with_reducible refine (verditerref08_mod.calls (wrap64 (x6_1 * a1)) t246 _ A6.out).mono ?_); rintro e w' ⟨rfl, ⟨nd, rfl⟩⟩; refine ⟨_, rfl, ?_⟩))
          go_roundg k1
          case measure => have := HK1.out; omega
          case rel => exact ⟨(t245), (t246), (wrap64 (x7_1 + 1)), (by first | rfl | (simp; done) | (simp [*]; done)), (by first | rfl | (simp; done) | (simp [*]; done)), (by first | rfl | (simp; done) | (simp [*]; done)), H', ⟨by have := HK1.out; omega⟩, by repeat (first | exact Drawn0.refl _ | apply Drawn0.step)⟩
        · rw [if_neg c4] at H
          exact absurd H (by simp)
      · rw [if_neg c3] at H
        have c3b0 : decide (x7_1 < (l0.length : Int)) = false := decide_eq_false c3
        clear c3
        obtain rfl := Option.some.inj H
        go_wp2
        go_ret
        exact ⟨by first | rfl | (simp; done) | (simp [*]; done), by repeat (first | exact Drawn0.refl _ | apply Drawn0.step)⟩

end Go.Proofs.Ythlbjdiicmojfaa.P

/-! Part PF84. -/
-- Written for this claim by wip/print_more.py (a session's program that runs the kit's printer with hand-proved functions beside). Lean checks it.
namespace Go.Proofs.Ythlbjdiicmojfaa.P
open Go.RowKit Go.Proofs.YthlbjdiicmojfaaW.PrintWords Go.Proofs.YthlbjdiicmojfaaW.PrintLast Go.Proofs.YthlbjdiicmojfaaW.PrintMore
attribute [local go_sem] max2_int min2_int max_two min_two max_three min_three max_four min_four   -- for this text's walks alone
set_option linter.unusedVariables false
set_option linter.unusedSimpArgs false

/-! ### verditerref08_inverse: function 84 -/
def verditerref08_inverse.l0 : Nat → Int → Int → Option (Int)
  | 0, _, _ => none
  | k + 1, x0, x3 => (verditerref08_mod.f (wrap64 (x0 * x3))).bind fun t180 => (if t180 = 1 then (some x3) else (verditerref08_inverse.l0 k x0 (wrap64 (x3 + 1))))
def verditerref08_inverse.f (k : Nat) (a0 : Int) : Option (Int) := verditerref08_inverse.l0 k a0 1
theorem verditerref08_inverse.mono_l : ∀ k, (∀ y0 y1, LeO (verditerref08_inverse.l0 k y0 y1) (verditerref08_inverse.l0 (k + 1) y0 y1))
  | 0 => fun _ _ r h => by simp [verditerref08_inverse.l0] at h
  | k + 1 => by
    have ih0 := verditerref08_inverse.mono_l k
    · intro y0 y1
      unfold verditerref08_inverse.l0
      repeat' first
      | (with_reducible exact ih0 _ _)
      | (with_reducible exact LeO.refl _)
      | (with_reducible exact LeO.none _)
      | (with_reducible refine LeO.ite ?_ ?_)
      | (with_reducible refine LeO.bind ?_ (fun _ => ?_))
      | exact ih0 _ _
      | exact LeO.none _
      | refine LeO.ite ?_ ?_
      | refine LeO.bind ?_ (fun _ => ?_)
theorem verditerref08_inverse.mono : ∀ a0 k, LeO (verditerref08_inverse.f k a0) (verditerref08_inverse.f (k + 1) a0) := by
  intro a0 k
  have ih0 := verditerref08_inverse.mono_l k
  unfold verditerref08_inverse.f
  repeat' first
      | (with_reducible exact ih0 _ _)
      | (with_reducible exact LeO.refl _)
      | (with_reducible exact LeO.none _)
      | (with_reducible refine LeO.ite ?_ ?_)
      | (with_reducible refine LeO.bind ?_ (fun _ => ?_))
      | exact ih0 _ _
      | exact LeO.none _
      | refine LeO.ite ?_ ?_
      | refine LeO.bind ?_ (fun _ => ?_)
set_option maxHeartbeats 8000000 in
set_option maxRecDepth 100000 in
theorem verditerref08_inverse.calls (k : Nat) (a0 : Int) (r : Int) (w : World) (h : verditerref08_inverse.f k a0 = some r) :
    Calls Try.prog 84 #[.int .i64 a0] w fun e w' => e = .returned (.int .i64 r) ∧ Drawn0 w w' := by
  have H : (verditerref08_inverse.l0 k a0 1) = some r := h
  clear h
  have H' := Aside0.mk H
  clear H
  go_enter Try.func84, Try.ntmps84
  go_wp2
  go_loopg [3] k (fun kq v3 w' => ∃ (x3_1 : Int), v3 = .int .i64 x3_1 ∧ Aside0 (verditerref08_inverse.l0 kq a0 x3_1 = some r) ∧ Aside0 (kq ≤ k) ∧ Drawn0 w w')
  case atStart => exact ⟨(1), (by first | rfl | (simp; done) | (simp [*]; done)), H', ⟨Nat.le_refl _⟩, by repeat (first | exact Drawn0.refl _ | apply Drawn0.step)⟩
  case round =>
    clear H'
    obtain ⟨x3_1, rfl, HA, HK1, ⟨m1, rfl⟩⟩ := hrel
    cases gk with
    | zero => exact absurd HA.out (by simp [verditerref08_inverse.l0])
    | succ k1 =>
      have H := HA.out
      clear HA
      simp only [verditerref08_inverse.l0] at H
      replace H := Option.bind_eq_some_iff.mp H
      obtain ⟨t180, A20, H⟩ := H
      replace H : (if t180 = 1 then (some x3_1) else (verditerref08_inverse.l0 k1 a0 (wrap64 (x3_1 + 1)))) = some r := H
      have A2 := Aside0.mk A20
      clear A20
      by_cases c3 : t180 = 1
      · rw [if_pos c3] at H
        have c3b0 : (t180 == 1) = true := beq_iff_eq.mpr c3
        have c3b1 : (t180 != 1) = false := bne_eq_false_iff_eq.mpr c3
        clear c3
        obtain rfl := Option.some.inj H
        go_wp2_with (first | ((with_reducible refine gate_callee (f := 104) rfl ?_); refine goesL_ (some 7) rfl rfl Try.func104 (by kernel_rfl) rfl #[.int .i64 (wrap64 (a0 * x3_1))] rfl (by (try simp only [List.map_toArray, List.map_cons, List.map_nil]); first | done | rfl | (simp only [List.length_drop, List.length_take]; rfl)) ?_; (with_reducible refine (verditerref08_mod.calls (wrap64 (a0 * x3_1)) t180 _ A2.out).mono ?_); rintro e w' ⟨rfl, ⟨nd, rfl⟩⟩; refine ⟨_, rfl, ?_⟩))
        go_ret
        exact ⟨by first | rfl | (simp; done) | (simp [*]; done), by repeat (first | exact Drawn0.refl _ | apply Drawn0.step)⟩
      · rw [if_neg c3] at H
        have c3b0 : (t180 == 1) = false := beq_eq_false_iff_ne.mpr c3
        have c3b1 : (t180 != 1) = true := bne_iff_ne.mpr c3
        have H' := Aside0.mk H
        clear H
        go_wp2_with (first | ((with_reducible refine gate_callee (f := 104) rfl ?_); refine goesL_ (some 7) rfl rfl Try.func104 (by kernel_rfl) rfl #[.int .i64 (wrap64 (a0 * x3_1))] rfl (by (try simp only [List.map_toArray, List.map_cons, List.map_nil]); first | done | rfl | (simp only [List.length_drop, List.length_take]; rfl)) ?_; (with_reducible refine (verditerref08_mod.calls (wrap64 (a0 * x3_1)) t180 _ A2.out).mono ?_); rintro e w' ⟨rfl, ⟨nd, rfl⟩⟩; refine ⟨_, rfl, ?_⟩))
        go_roundg k1
        case measure => have := HK1.out; omega
        case rel => exact ⟨(wrap64 (x3_1 + 1)), (by first | rfl | (simp; done) | (simp [*]; done)), H', ⟨by have := HK1.out; omega⟩, by repeat (first | exact Drawn0.refl _ | apply Drawn0.step)⟩

end Go.Proofs.Ythlbjdiicmojfaa.P

/-! Part PF83. -/
-- Written for this claim by wip/print_more.py (a session's program that runs the kit's printer with hand-proved functions beside). Lean checks it.
namespace Go.Proofs.Ythlbjdiicmojfaa.P
open Go.RowKit Go.Proofs.YthlbjdiicmojfaaW.PrintWords Go.Proofs.YthlbjdiicmojfaaW.PrintLast Go.Proofs.YthlbjdiicmojfaaW.PrintMore
attribute [local go_sem] max2_int min2_int max_two min_two max_three min_three max_four min_four   -- for this text's walks alone
set_option linter.unusedVariables false
set_option linter.unusedSimpArgs false

/-! ### verditerref08_within: function 83 -/
def verditerref08_within.f (a0 : Int) (a1 : Int) (a2 : Int) : Option (Bool) := if a0 ≥ a1 then (some (decide (a0 ≤ a2))) else (some false)
set_option maxHeartbeats 8000000 in
set_option maxRecDepth 100000 in
theorem verditerref08_within.calls (a0 : Int) (a1 : Int) (a2 : Int) (r : Bool) (w : World) (h : verditerref08_within.f a0 a1 a2 = some r) :
    Calls Try.prog 83 #[.int .i64 a0, .int .i64 a1, .int .i64 a2] w fun e w' => e = .returned (.bool r) ∧ Drawn0 w w' := by
  have H : (if a0 ≥ a1 then (some (decide (a0 ≤ a2))) else (some false)) = some r := h
  clear h
  by_cases c4 : a0 ≥ a1
  · rw [if_pos c4] at H
    have c4b0 : decide (a1 ≤ a0) = true := decide_eq_true c4
    clear c4
    obtain rfl := Option.some.inj H
    go_enter Try.func83, Try.ntmps83
    go_wp2
    go_ret
    exact ⟨by first | rfl | (simp; done) | (simp [*]; done), by repeat (first | exact Drawn0.refl _ | apply Drawn0.step)⟩
  · rw [if_neg c4] at H
    have c4b0 : decide (a1 ≤ a0) = false := decide_eq_false c4
    clear c4
    obtain rfl := Option.some.inj H
    go_enter Try.func83, Try.ntmps83
    go_wp2
    go_ret
    exact ⟨by first | rfl | (simp; done) | (simp [*]; done), by repeat (first | exact Drawn0.refl _ | apply Drawn0.step)⟩

end Go.Proofs.Ythlbjdiicmojfaa.P

/-! Part PF75. -/
-- Written for this claim by wip/print_more.py (a session's program that runs the kit's printer with hand-proved functions beside). Lean checks it.
namespace Go.Proofs.Ythlbjdiicmojfaa.P
open Go.RowKit Go.Proofs.YthlbjdiicmojfaaW.PrintWords Go.Proofs.YthlbjdiicmojfaaW.PrintLast Go.Proofs.YthlbjdiicmojfaaW.PrintMore
attribute [local go_sem] max2_int min2_int max_two min_two max_three min_three max_four min_four   -- for this text's walks alone
set_option linter.unusedVariables false
set_option linter.unusedSimpArgs false

/-! ### verditerref08_isNumber: function 75 -/
def verditerref08_isNumber.f (a0 : Int) : Option (Bool) := (verditerref08_within.f a0 0 250).bind fun t173 => (some t173)
set_option maxHeartbeats 8000000 in
set_option maxRecDepth 100000 in
theorem verditerref08_isNumber.calls (a0 : Int) (r : Bool) (w : World) (h : verditerref08_isNumber.f a0 = some r) :
    Calls Try.prog 75 #[.int .i64 a0] w fun e w' => e = .returned (.bool r) ∧ Drawn0 w w' := by
  have H : ((verditerref08_within.f a0 0 250).bind fun t173 => (some t173)) = some r := h
  clear h
  replace H := Option.bind_eq_some_iff.mp H
  obtain ⟨t173, A20, H⟩ := H
  replace H : (some t173) = some r := H
  have A2 := Aside0.mk A20
  clear A20
  obtain rfl := Option.some.inj H
  go_enter Try.func75, Try.ntmps75
  go_wp2_with (first | ((with_reducible refine gate_callee (f := 83) rfl ?_); refine goesL_ (some 4) rfl rfl Try.func83 (by kernel_rfl) rfl #[.int .i64 a0, .int .i64 0, .int .i64 250] rfl (by (try simp only [List.map_toArray, List.map_cons, List.map_nil]); first | done | rfl | (simp only [List.length_drop, List.length_take]; rfl)) ?_; (with_reducible refine (verditerref08_within.calls a0 0 250 t173 _ A2.out).mono ?_); rintro e w' ⟨rfl, ⟨nd, rfl⟩⟩; refine ⟨_, rfl, ?_⟩))
  go_ret
  exact ⟨by first | rfl | (simp; done) | (simp [*]; done), by repeat (first | exact Drawn0.refl _ | apply Drawn0.step)⟩

end Go.Proofs.Ythlbjdiicmojfaa.P

/-! Part PF81. -/
-- Written for this claim by wip/print_more.py (a session's program that runs the kit's printer with hand-proved functions beside). Lean checks it.
namespace Go.Proofs.Ythlbjdiicmojfaa.P
open Go.RowKit Go.Proofs.YthlbjdiicmojfaaW.PrintWords Go.Proofs.YthlbjdiicmojfaaW.PrintLast Go.Proofs.YthlbjdiicmojfaaW.PrintMore
attribute [local go_sem] max2_int min2_int max_two min_two max_three min_three max_four min_four   -- for this text's walks alone
set_option linter.unusedVariables false
set_option linter.unusedSimpArgs false

/-! ### verditerref08_curved: function 81 -/
def verditerref08_curved.l0 : Nat → List Int → Int → Option (Int)
  | 0, _, _ => none
  | k + 1, x0, x3 => if x3 < (x0.length : Int) then (if 0 ≤ x3 then ((verditerref08_isNumber.f (rd x0 x3)).bind fun t243 => (if t243 = true then (verditerref08_curved.l0 k x0 (wrap64 (x3 + 1))) else (some 1))) else (none)) else (some 0)
def verditerref08_curved.f (k : Nat) (l0 : List Int) : Option (Int) := (verditerref08_within.f (l0.length : Int) 1 6).bind fun t241 => (if t241 = true then (verditerref08_curved.l0 k l0 0) else (some 3))
theorem verditerref08_curved.mono_l : ∀ k, (∀ y0 y1, LeO (verditerref08_curved.l0 k y0 y1) (verditerref08_curved.l0 (k + 1) y0 y1))
  | 0 => fun _ _ r h => by simp [verditerref08_curved.l0] at h
  | k + 1 => by
    have ih0 := verditerref08_curved.mono_l k
    · intro y0 y1
      unfold verditerref08_curved.l0
      repeat' first
      | (with_reducible exact ih0 _ _)
      | (with_reducible exact LeO.refl _)
      | (with_reducible exact LeO.none _)
      | (with_reducible refine LeO.ite ?_ ?_)
      | (with_reducible refine LeO.bind ?_ (fun _ => ?_))
      | exact ih0 _ _
      | exact LeO.none _
      | refine LeO.ite ?_ ?_
      | refine LeO.bind ?_ (fun _ => ?_)
theorem verditerref08_curved.mono : ∀ a0 k, LeO (verditerref08_curved.f k a0) (verditerref08_curved.f (k + 1) a0) := by
  intro a0 k
  have ih0 := verditerref08_curved.mono_l k
  unfold verditerref08_curved.f
  repeat' first
      | (with_reducible exact ih0 _ _)
      | (with_reducible exact LeO.refl _)
      | (with_reducible exact LeO.none _)
      | (with_reducible refine LeO.ite ?_ ?_)
      | (with_reducible refine LeO.bind ?_ (fun _ => ?_))
      | exact ih0 _ _
      | exact LeO.none _
      | refine LeO.ite ?_ ?_
      | refine LeO.bind ?_ (fun _ => ?_)
set_option maxHeartbeats 8000000 in
set_option maxRecDepth 100000 in
theorem verditerref08_curved.calls (k : Nat) (A0 : Option Addr) (c0 : Nat) (l0 : List Int) (r : Int) (w : World) (hr0 : Kd.C (Kd.int .i64) w A0 l0.length l0) (hc0 : l0.length ≤ c0) (h : verditerref08_curved.f k l0 = some r) :
    Calls Try.prog 81 #[.slice A0 l0.length c0] w fun e w' => e = .returned (.int .i64 r) ∧ Drawn0 w w' := by
  have HR0 := Aside0.mk hr0
  have HC0 := Aside0.mk hc0
  clear hr0 hc0
  have H : ((verditerref08_within.f (l0.length : Int) 1 6).bind fun t241 => (if t241 = true then (verditerref08_curved.l0 k l0 0) else (some 3))) = some r := h
  clear h
  replace H := Option.bind_eq_some_iff.mp H
  obtain ⟨t241, A20, H⟩ := H
  replace H : (if t241 = true then (verditerref08_curved.l0 k l0 0) else (some 3)) = some r := H
  have A2 := Aside0.mk A20
  clear A20
  by_cases c3 : t241 = true
  · subst c3
    have H1 : (verditerref08_curved.l0 k l0 0) = some r := by rw [if_pos rfl] at H; exact H
    clear H
    have H := H1
    clear H1
    have H' := Aside0.mk H
    clear H
    go_enter Try.func81, Try.ntmps81
    go_wp2_with (first | ((with_reducible refine gate_callee (f := 83) rfl ?_); refine goesL_ (some 6) rfl rfl Try.func83 (by kernel_rfl) rfl #[.int .i64 (l0.length : Int), .int .i64 1, .int .i64 6] rfl (by (try simp only [List.map_toArray, List.map_cons, List.map_nil]); first | done | rfl | (simp only [List.length_drop, List.length_take]; rfl)) ?_; (with_reducible refine (verditerref08_within.calls (l0.length : Int) 1 6 true _ A2.out).mono ?_); rintro e w' ⟨rfl, ⟨nd, rfl⟩⟩; refine ⟨_, rfl, ?_⟩))
    go_loopg [3] k (fun kq v3 w' => ∃ (x3_1 : Int), v3 = .int .i64 x3_1 ∧ Aside0 (verditerref08_curved.l0 kq l0 x3_1 = some r) ∧ Aside0 (kq ≤ k) ∧ Drawn0 w w')
    case atStart => exact ⟨(0), (by first | rfl | (simp; done) | (simp [*]; done)), H', ⟨Nat.le_refl _⟩, by repeat (first | exact Drawn0.refl _ | apply Drawn0.step)⟩
    case round =>
      clear H'
      try clear p2
      try clear c3
      obtain ⟨x3_1, rfl, HA, HK1, ⟨m1, rfl⟩⟩ := hrel
      cases gk with
      | zero => exact absurd HA.out (by simp [verditerref08_curved.l0])
      | succ k1 =>
        have H := HA.out
        clear HA
        simp only [verditerref08_curved.l0] at H
        by_cases c4 : x3_1 < (l0.length : Int)
        · rw [if_pos c4] at H
          have c4b0 : decide (x3_1 < (l0.length : Int)) = true := decide_eq_true c4
          clear c4
          by_cases c5 : 0 ≤ x3_1
          · rw [if_pos c5] at H
            have c5b0 : decide (0 ≤ x3_1) = true := decide_eq_true c5
            clear c5
            replace H := Option.bind_eq_some_iff.mp H
            obtain ⟨t243, A60, H⟩ := H
            replace H : (if t243 = true then (verditerref08_curved.l0 k1 l0 (wrap64 (x3_1 + 1))) else (some 1)) = some r := H
            have A6 := Aside0.mk A60
            clear A60
            by_cases c7 : t243 = true
            · subst c7
              have H1 : (verditerref08_curved.l0 k1 l0 (wrap64 (x3_1 + 1))) = some r := by rw [if_pos rfl] at H; exact H
              clear H
              have H := H1
              clear H1
              have H' := Aside0.mk H
              clear H
              have p242 : 0 ≤ (x3_1 : Int) := of_decide_eq_true (by first | (with_reducible assumption) | assumption)
              have q242 : x3_1 < (l0.length : Int) := of_decide_eq_true (by first | (with_reducible assumption) | assumption)
              obtain ⟨ad242, e242, hx242_0⟩ := Kd.at_int HR0.out x3_1 p242 q242
              cases e242
              replace p242 := eq_true p242
              replace q242 := eq_true q242
              go_wp2_with (first | ((with_reducible refine gate_callee (f := 75) rfl ?_); refine goesL_ (some 18) rfl rfl Try.func75 (by kernel_rfl) rfl #[.int .i64 (rd l0 x3_1)] rfl (by (try simp only [List.map_toArray, List.map_cons, List.map_nil]); first | done | rfl | (simp only [List.length_drop, List.length_take]; rfl)) ?_; (with_reducible refine (verditerref08_isNumber.calls (rd l0 x3_1) true _ A6.out).mono ?_); rintro e w' ⟨rfl, ⟨nd, rfl⟩⟩; refine ⟨_, rfl, ?_⟩))
              go_roundg k1
              case measure => have := HK1.out; omega
              case rel => exact ⟨(wrap64 (x3_1 + 1)), (by first | rfl | (simp; done) | (simp [*]; done)), H', ⟨by have := HK1.out; omega⟩, by repeat (first | exact Drawn0.refl _ | apply Drawn0.step)⟩
            · replace c7 := Bool.eq_false_iff.mpr c7
              subst c7
              have H1 : (some 1) = some r := by rw [if_neg (show ¬ (false = true) by decide)] at H; exact H
              clear H
              have H := H1
              clear H1
              obtain rfl := Option.some.inj H
              have p242 : 0 ≤ (x3_1 : Int) := of_decide_eq_true (by first | (with_reducible assumption) | assumption)
              have q242 : x3_1 < (l0.length : Int) := of_decide_eq_true (by first | (with_reducible assumption) | assumption)
              obtain ⟨ad242, e242, hx242_0⟩ := Kd.at_int HR0.out x3_1 p242 q242
              cases e242
              replace p242 := eq_true p242
              replace q242 := eq_true q242
              go_wp2_with (first | ((with_reducible refine gate_callee (f := 75) rfl ?_); refine goesL_ (some 18) rfl rfl Try.func75 (by kernel_rfl) rfl #[.int .i64 (rd l0 x3_1)] rfl (by (try simp only [List.map_toArray, List.map_cons, List.map_nil]); first | done | rfl | (simp only [List.length_drop, List.length_take]; rfl)) ?_; (with_reducible refine (verditerref08_isNumber.calls (rd l0 x3_1) false _ A6.out).mono ?_); rintro e w' ⟨rfl, ⟨nd, rfl⟩⟩; refine ⟨_, rfl, ?_⟩))
              go_ret
              exact ⟨by first | rfl | (simp; done) | (simp [*]; done), by repeat (first | exact Drawn0.refl _ | apply Drawn0.step)⟩
          · rw [if_neg c5] at H
            exact absurd H (by simp)
        · rw [if_neg c4] at H
          have c4b0 : decide (x3_1 < (l0.length : Int)) = false := decide_eq_false c4
          clear c4
          obtain rfl := Option.some.inj H
          go_wp2
          go_ret
          exact ⟨by first | rfl | (simp; done) | (simp [*]; done), by repeat (first | exact Drawn0.refl _ | apply Drawn0.step)⟩
  · replace c3 := Bool.eq_false_iff.mpr c3
    subst c3
    have H1 : (some 3) = some r := by rw [if_neg (show ¬ (false = true) by decide)] at H; exact H
    clear H
    have H := H1
    clear H1
    obtain rfl := Option.some.inj H
    go_enter Try.func81, Try.ntmps81
    go_wp2_with (first | ((with_reducible refine gate_callee (f := 83) rfl ?_); refine goesL_ (some 6) rfl rfl Try.func83 (by kernel_rfl) rfl #[.int .i64 (l0.length : Int), .int .i64 1, .int .i64 6] rfl (by (try simp only [List.map_toArray, List.map_cons, List.map_nil]); first | done | rfl | (simp only [List.length_drop, List.length_take]; rfl)) ?_; (with_reducible refine (verditerref08_within.calls (l0.length : Int) 1 6 false _ A2.out).mono ?_); rintro e w' ⟨rfl, ⟨nd, rfl⟩⟩; refine ⟨_, rfl, ?_⟩))
    go_ret
    exact ⟨by first | rfl | (simp; done) | (simp [*]; done), by repeat (first | exact Drawn0.refl _ | apply Drawn0.step)⟩

end Go.Proofs.Ythlbjdiicmojfaa.P

/-! Part Ref. -/
namespace Go.Proofs.Ythlbjdiicmojfaa.P
open Go.RowKit Go.Proofs.YthlbjdiicmojfaaW.PrintWords Go.Proofs.YthlbjdiicmojfaaW.PrintLast Go.Proofs.YthlbjdiicmojfaaW.PrintMore
open Ply
set_option linter.unusedVariables false

theorem rwithin_eq (a lo hi : Int) : verditerref08_within.f a lo hi = some (decide (lo ≤ a) && decide (a ≤ hi)) := by
  unfold verditerref08_within.f
  split
  · rename_i h; rw [decide_eq_true (show lo ≤ a from h)]; rfl
  · rename_i h; rw [decide_eq_false (show ¬ lo ≤ a from h)]; rfl
theorem risNumber_eq (a : Int) : verditerref08_isNumber.f a = some (num a) := by
  unfold verditerref08_isNumber.f num
  rw [rwithin_eq]; rfl
theorem rd_get (l : List Int) (i : Nat) (h : i < l.length) : rd l (i : Int) = l[i] := by
  unfold rd; rw [Int.toNat_natCast]; exact getD_get l 0 h
theorem rdT_get (l : List S43) (i : Nat) (h : i < l.length) : rd_T43 l (i : Int) = l[i] := by
  unfold rd_T43; rw [Int.toNat_natCast]; exact getD_get l z43 h
theorem wrap_succ (i : Nat) (h : i ≤ 1000000) : wrap64 ((i : Int) + 1) = ((i + 1 : Nat) : Int) := by
  rw [wrap_id (a := (i : Int) + 1) (by omega) (by omega)]; omega

/-! ### A curve's value -/
theorem rat_loop (c : List Int) (x : Int) (hc : ∀ n ∈ c, num n = true) (hx : num x = true) (hl : c.length ≤ 1000) : ∀ (d : Nat) (i : Nat) (s p : Int) (k : Nat), i + d = c.length → num s = true → num p = true → d < k →
    ∃ r, verditerref08_at.l0 k c x s p (i : Int) = some r ∧ num r = true ∧ cst r = cst s + cst p * ev ((c.drop i).map cst) (cst x) := by
  intro d
  induction d with
  | zero =>
    intro i s p k hi hs hp hk
    obtain ⟨k, rfl⟩ : ∃ j, k = j + 1 := ⟨k - 1, by omega⟩
    refine ⟨s, ?_, hs, ?_⟩
    · rw [verditerref08_at.l0, if_neg (by omega)]
    · rw [List.drop_of_length_le (by omega)]
      simp only [List.map_nil, ev]; grind
  | succ d ih =>
    intro i s p k hi hs hp hk
    obtain ⟨k, rfl⟩ : ∃ j, k = j + 1 := ⟨k - 1, by omega⟩
    have hic : i < c.length := by omega
    have hn := num_iff.1 (hc c[i] (List.getElem_mem hic))
    have hs' := num_iff.1 hs
    have hp' := num_iff.1 hp
    have hx' := num_iff.1 hx
    have hm1 := mul_range hn.1 hn.2 hp'.1 hp'.2
    have hm2 := mul_range hp'.1 hp'.2 hx'.1 hx'.2
    obtain ⟨r, hr, hrn, hrc⟩ := ih (i + 1) ((s + c[i] * p) % 251) ((p * x) % 251) k (by omega) (num_mod _) (num_mod _) (by omega)
    refine ⟨r, ?_, hrn, ?_⟩
    · rw [verditerref08_at.l0, if_pos (by omega), if_pos (by omega), rd_get c i hic, wrap_id (a := c[i] * p) (by omega) (by omega), wrap_id (a := s + c[i] * p) (by omega) (by omega), mod_eq, Option.bind_some, wrap_id (a := p * x) (by omega) (by omega), mod_eq, Option.bind_some, wrap_succ i (by omega)]
      exact hr
    · rw [hrc, cst_mod, cst_mod, cst_add, cst_mul, cst_mul, List.drop_eq_getElem_cons hic, List.map_cons, ev]
      generalize ev ((c.drop (i + 1)).map cst) (cst x) = t
      grind
theorem rat_eq (c : List Int) (x : Int) (hc : ∀ n ∈ c, num n = true) (hx : num x = true) (hl : c.length ≤ 1000) (k : Nat) (hk : c.length < k) : verditerref08_at.f k c x = some (atI c x) := by
  obtain ⟨r, hr, hn, he⟩ := rat_loop c x hc hx hl c.length 0 0 1 k (by omega) rfl rfl hk
  rw [verditerref08_at.f]
  rw [show ((0 : Nat) : Int) = 0 from rfl] at hr
  rw [hr, atI_eq (c := c) (x := x) hn (by rw [he, List.drop_zero, cst_zero, cst_one]; grind)]

/-! ### The inverse -/
theorem invI_mul {a : Int} (ha : num a = true) (h0 : a ≠ 0) : cst a * cst (invI a) = 1 := by
  have h := inv_mul a (by
    have := cst_ne ha (show num 0 = true from rfl) h0
    rw [cst_zero] at this
    intro e; apply this; rw [e]; grind)
  generalize cst (invI a) = u at *
  generalize cst a = v at *
  grind
theorem mul_one_iff {a b : Int} : (a * b) % 251 = 1 ↔ cst a * cst b = 1 := by
  rw [← cst_mul]
  constructor
  · intro h; rw [← cst_mod, h]; rfl
  · intro h; exact cst_inj (num_mod _) rfl (by rw [cst_mod, h]; rfl)
theorem invI_pos {a : Int} (ha : num a = true) (h0 : a ≠ 0) : 1 ≤ invI a ∧ invI a ≤ 250 := by
  have h1 := num_iff.1 (num_invI a)
  refine ⟨?_, h1.2⟩
  rcases Int.lt_or_le 0 (invI a) with h | h
  · omega
  · have e : invI a = 0 := by omega
    have := invI_mul ha h0
    rw [e, cst_zero] at this
    have h2 : cst a * 0 = 0 := by grind
    rw [h2] at this
    exact absurd this (by decide)
theorem rinv_loop (a t : Int) (ha : num a = true) (h2 : cst a * cst t = 1) (hi : 1 ≤ t ∧ t ≤ 250) : ∀ (d : Nat) (b : Int) (k : Nat), 1 ≤ b → b + d = t → d < k → verditerref08_inverse.l0 k a b = some t := by
  have ha' := num_iff.1 ha
  intro d
  induction d with
  | zero =>
    intro b k hb he hk
    obtain ⟨k, rfl⟩ : ∃ j, k = j + 1 := ⟨k - 1, by omega⟩
    have e : b = t := by omega
    subst e
    have hm := mul_range ha'.1 ha'.2 (by omega) hi.2
    rw [verditerref08_inverse.l0, wrap_id (a := a * b) (by omega) (by omega), mod_eq, Option.bind_some, if_pos (mul_one_iff.2 h2)]
  | succ d ih =>
    intro b k hb he hk
    obtain ⟨k, rfl⟩ : ∃ j, k = j + 1 := ⟨k - 1, by omega⟩
    have hm := mul_range ha'.1 ha'.2 (show 0 ≤ b by omega) (show b ≤ 250 by omega)
    have hne : ¬ (a * b) % 251 = 1 := by
      intro h
      have h1 := mul_one_iff.1 h
      have h3 : cst b = cst t := by
        have : cst b = cst b * (cst a * cst t) := by rw [h2]; grind
        rw [this]
        have : cst b * (cst a * cst t) = (cst a * cst b) * cst t := by grind
        rw [this, h1]; grind
      have := cst_inj (num_iff.2 ⟨by omega, by omega⟩) (num_iff.2 ⟨by omega, by omega⟩) h3
      omega
    rw [verditerref08_inverse.l0, wrap_id (a := a * b) (by omega) (by omega), mod_eq, Option.bind_some, if_neg hne, wrap_id (a := b + 1) (by omega) (by omega)]
    exact ih (b + 1) k (by omega) (by omega) (by omega)
theorem rinv_eq (a : Int) (ha : num a = true) (h0 : a ≠ 0) (k : Nat) (hk : 251 ≤ k) : verditerref08_inverse.f k a = some (invI a) := by
  have hi := invI_pos ha h0
  have h2 := invI_mul ha h0
  rw [verditerref08_inverse.f]
  generalize invI a = t at *
  exact rinv_loop a t ha h2 hi (t - 1).toNat 1 k (by omega) (by omega) (by omega)

/-! ### The error of a curve -/
theorem rcurved_loop (c : List Int) (hl : c.length ≤ 1000) : ∀ (d i k : Nat), i + d = c.length → d < k → verditerref08_curved.l0 k c (i : Int) = some (if (c.drop i).all num = true then 0 else 1) := by
  intro d
  induction d with
  | zero =>
    intro i k hi hk
    obtain ⟨k, rfl⟩ : ∃ j, k = j + 1 := ⟨k - 1, by omega⟩
    rw [verditerref08_curved.l0, if_neg (by omega), List.drop_of_length_le (by omega)]; rfl
  | succ d ih =>
    intro i k hi hk
    obtain ⟨k, rfl⟩ : ∃ j, k = j + 1 := ⟨k - 1, by omega⟩
    have hic : i < c.length := by omega
    rw [verditerref08_curved.l0, if_pos (by omega), if_pos (by omega), rd_get c i hic, risNumber_eq, Option.bind_some, List.drop_eq_getElem_cons hic, List.all_cons]
    cases hn : num c[i] with
    | true => rw [if_pos rfl, wrap_succ i (by omega), ih (i + 1) k (by omega) (by omega)]; rfl
    | false => rfl
theorem rcurved_eq (c : List Int) (hl : c.length ≤ 1000) (k : Nat) (hk : c.length < k) : verditerref08_curved.f k c = some (curveErr c) := by
  rw [verditerref08_curved.f, rwithin_eq, Option.bind_some]
  unfold curveErr
  by_cases h : 1 ≤ c.length ∧ c.length ≤ 6
  · rw [if_pos h, decide_eq_true (show (1 : Int) ≤ (c.length : Int) by omega), decide_eq_true (show (c.length : Int) ≤ 6 by omega), if_pos (show (true && true) = true from rfl)]
    have := rcurved_loop c hl c.length 0 k (by omega) hk
    rw [List.drop_zero] at this
    exact this
  · rw [if_neg h, if_neg]
    intro e
    rw [Bool.and_eq_true, decide_eq_true_iff, decide_eq_true_iff] at e
    omega

/-! ### Equal lists -/
theorem sameInts_loop (c : List Int) (hl : c.length ≤ 1000) : ∀ (d i k : Nat), i + d = c.length → d < k → verditerref08_SameInts.l0 k c c (i : Int) = some true := by
  intro d
  induction d with
  | zero =>
    intro i k hi hk
    obtain ⟨k, rfl⟩ : ∃ j, k = j + 1 := ⟨k - 1, by omega⟩
    rw [verditerref08_SameInts.l0, if_neg (by omega)]
  | succ d ih =>
    intro i k hi hk
    obtain ⟨k, rfl⟩ : ∃ j, k = j + 1 := ⟨k - 1, by omega⟩
    rw [verditerref08_SameInts.l0, if_pos (by omega), if_pos (by omega), if_pos (by omega), if_pos rfl, wrap_succ i (by omega)]
    exact ih (i + 1) k (by omega) (by omega)
theorem sameInts_self (c : List Int) (hl : c.length ≤ 1000) (k : Nat) (hk : c.length < k) : verditerref08_SameInts.f k c c = some true := by
  rw [verditerref08_SameInts.f, if_pos rfl]
  exact sameInts_loop c hl c.length 0 k (by omega) hk
theorem same_loop (c : List S43) (hl : c.length ≤ 1000) : ∀ (d i k : Nat), i + d = c.length → d < k → verditerref08_Same.l0 k c c (i : Int) = some true := by
  intro d
  induction d with
  | zero =>
    intro i k hi hk
    obtain ⟨k, rfl⟩ : ∃ j, k = j + 1 := ⟨k - 1, by omega⟩
    rw [verditerref08_Same.l0, if_neg (by omega)]
  | succ d ih =>
    intro i k hi hk
    obtain ⟨k, rfl⟩ : ∃ j, k = j + 1 := ⟨k - 1, by omega⟩
    rw [verditerref08_Same.l0, if_pos (by omega), if_pos (by omega), if_pos (by omega), if_neg (by simp), wrap_succ i (by omega)]
    exact ih (i + 1) k (by omega) (by omega)
theorem same_self (c : List S43) (hl : c.length ≤ 1000) (k : Nat) (hk : c.length < k) : verditerref08_Same.f k c c = some true := by
  rw [verditerref08_Same.f, if_pos rfl]
  exact same_loop c hl c.length 0 k (by omega) hk
end Go.Proofs.Ythlbjdiicmojfaa.P
