/- The law TopWash of the given program is proved for every input, without a condition: it returns true and its arguments read behind the call as before. -/
import Derived.Test.YtcelibdkicfgkaaRows
import Derived.Test.YtcelibdkicfgkaaTopWashM1
import Derived.Test.YtcelibdkicfgkaaTopWashM5
import Derived.Test.YtcelibdkicfgkaaTopWashM6
import Derived.WalkKit
import Derived.ProofKit
import Derived.OpenShut
import Derived.ShutString
import Derived.ChangeOld
import Derived.Below
import Derived.SizedLaws
namespace Go.Proofs.Ytcelibdkicfgkaa.topWash
open Go.ChangeShapes Go.WideShapes Go.ChangeAt Go.RowKit
set_option linter.unusedVariables false
theorem own : ownKnob Try.prog.godebug = none := by kernel_rfl
theorem laidOut : laidOutB Try.prog = true := by kernel_rfl
set_option maxRecDepth 100000 in
theorem lifted (os : Os) (started : os.Started) (H : Type) (enc : TypeId × Value → H) :
    ReturnsInHanded {} Try.checked os 3 .any (Rows.topWashSpec.pre6 enc Try.prog Try.f3 Rows.topWashRow.domain false) (Rows.topWashSpec.post enc Try.prog Try.f3 false true false false) := by
  refine returnsInHanded_of_change_sized (C := Try.checked) own started (by kernel_rfl) Try.func3
    (ChangeSpec.witness6 (enc := enc) (C := Try.checked) false ⟨#[], #[.agg #[.slice none 0 0, .slice none 0 0, .slice none 0 0], .agg #[.int .i64 0, .int .i64 0], .int .i64 0], []⟩ 3 (by kernel_rfl) (by kernel_rfl) (by kernel_rfl) (by kernel_rfl)) ?_
  intro W base args ds gs before hval0 hW hcnd hsz0 _
  have hsz : (DataW.weightsEach Try.prog (Try.f3.params.toList ++ Rows.topWashSpec.plain.varTypes Try.prog) (ds ++ gs)).all (· ≤ reachBytes) = true := hsz0
  have hval : ∀ (j : Nat) t v, Try.f3.params[j]? = some t → args[j]? = some v → Value.okWide Try.prog W .any base t v := hval0
  have hW' := hW
  obtain ⟨p, q, hA0, hV, rfl, hfz, hnd⟩ := hW
  have hA : DataW.TrodAll enc Try.prog W 0 (fun _ => true) true Try.f3.params.toList args.toList ds p := hA0
  rw [Try.params3] at hA hval hsz
  obtain ⟨v0, vs0, d0, ds0, p0, q0, hargs, rfl, rfl, h0, r0⟩ := trodAll_cons hA
  obtain ⟨v1, vs1, d1, ds1, p1, q1, rfl, rfl, rfl, h1, r1⟩ := trodAll_cons r0
  obtain ⟨v2, vs2, d2, ds2, p2, q2, rfl, rfl, rfl, h2, r2⟩ := trodAll_cons r1
  obtain ⟨rfl, rfl, rfl⟩ := trodAll_nil r2
  obtain rfl : args = #[v0, v1, v2] := by cases args; simp_all
  obtain ⟨rfl, rfl⟩ := trodVars_none hV
  obtain ⟨cs0, rfl, hcs0⟩ := okWide_struct Try.underlying25 (hval 0 25 v0 rfl rfl)
  have k0 := h0
  have lt0 : ∀ x ∈ p0, x.block < W.heap.size := by obtain ⟨m, hm⟩ := k0; exact DataW.trod_lt m _ _ _ hm
  obtain ⟨b0, n0, z0, b1, n1, z1, b2, n2, z2, rfl, hn0, hC0, hb0, hn1, hC1, hb1, hn2, hC2, hb2⟩ := P.open_lots hsz (j := 0) rfl rfl h0
  obtain ⟨cs1, rfl, hcs1⟩ := okWide_struct Try.underlying27 (hval 1 27 v1 rfl rfl)
  have k1 := h1
  have lt1 : ∀ x ∈ p1, x.block < W.heap.size := by obtain ⟨m, hm⟩ := k1; exact DataW.trod_lt m _ _ _ hm
  obtain ⟨t1, t2, rfl⟩ := P.open_pot h1
  obtain ⟨a2, rfl, rfl, rfl, w2⟩ := open_int Try.underlying3 (hval 2 3 v2 rfl rfl) h2
  obtain ⟨k, hk⟩ := P.pureTopWash (z0.take n0) (z1.take n1) (z2.take n2) t1 t2 a2
  clear hA0 hval0 hsz0 hsz
  have hl0 : (z0.take n0).length = n0 := by rw [List.length_take]; omega
  have hl1 : (z1.take n1).length = n1 := by rw [List.length_take]; omega
  have hl2 : (z2.take n2).length = n2 := by rw [List.length_take]; omega
  refine (P.out3 b0 n0 z0 b1 n1 z1 b2 n2 z2 t1 t2 a2 W hC0 hn0 hb0 hC1 hn1 hb1 hC2 hn2 hb2 (Go.Proofs.YtcelibdkicfgkaaW.PrintWords.Aside0.mk (fun w1 hb => by
    have h := P.verditertop_topWash.calls k b0 z0.length (z0.take n0) b1 z1.length (z1.take n1) b2 z2.length (z2.take n2) t1 t2 a2 true w1 (Go.Proofs.YtcelibdkicfgkaaW.PrintWords.Kd.C_take (Go.Proofs.YtcelibdkicfgkaaW.PrintWords.Kd.C_below hC0 hb) hn0) (by omega) (Go.Proofs.YtcelibdkicfgkaaW.PrintWords.Kd.C_take (Go.Proofs.YtcelibdkicfgkaaW.PrintWords.Kd.C_below hC1 hb) hn1) (by omega) (Go.Proofs.YtcelibdkicfgkaaW.PrintWords.Kd.C_take (Go.Proofs.YtcelibdkicfgkaaW.PrintWords.Kd.C_below hC2 hb) hn2) (by omega) hk rfl
    rw [hl0, hl1, hl2] at h
    exact h))).mono fun e W' ⟨he, bel⟩ => ?_
  subst he
  exact ⟨_, rfl, _, _, _, [], _, [], hW', trodAll_mk1 (shut_bool Try.underlying4 _), (trodAll_cons_mk (Below.trod laidOut (by kernel_rfl) (of_decide_eq_true (by kernel_rfl)) k0 bel lt0) (trodAll_cons_mk (Below.trod laidOut (by kernel_rfl) (of_decide_eq_true (by kernel_rfl)) k1 bel lt1) (trodAll_cons_mk (shut_int Try.underlying3 w2) trodAll_mk0))), rfl, bel.frame _, fun h => by cases h⟩
theorem over : Rows.topWashRow.holds Try.pinned (OpenSpec.ofChange Rows.topWashSpec) :=
  OpenClaim.holds_of_wide 3 Try.f3 rfl rfl rfl rfl rfl rfl rfl ⟨rfl, rfl, rfl, rfl, rfl⟩ rfl rfl rfl rfl rfl (by kernel_rfl) Try.func3 (by kernel_rfl)
    (of_decide_eq_true (by kernel_rfl)) (by unfold Func.isWrapper; first | (rw [if_pos (by decide +kernel)]; kernel_rfl) | (rw [if_neg (by decide +kernel)]; exact ⟨rfl, rfl⟩))
    (fun os started H enc _ => lifted os started H enc)
end Go.Proofs.Ytcelibdkicfgkaa.topWash
namespace Go.Proofs.Ytcelibdkicfgkaa
/-- The row, under a short name, for the claim. -/
theorem topWash_holds : Rows.TopWashSaid := topWash.over
#print axioms topWash_holds
end Go.Proofs.Ytcelibdkicfgkaa
