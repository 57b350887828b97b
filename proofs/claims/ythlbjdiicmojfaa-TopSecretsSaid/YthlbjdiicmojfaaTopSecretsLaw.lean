/- The law TopSecrets of the given program is proved for every input, without a condition: it returns true and its arguments read behind the call as before. -/
import Derived.Test.YthlbjdiicmojfaaRows
import Derived.Test.YthlbjdiicmojfaaTopSecretsM1
import Derived.Test.YthlbjdiicmojfaaTopSecretsM4
import Derived.Test.YthlbjdiicmojfaaTopSecretsM5
import Derived.WalkKit
import Derived.ProofKit
import Derived.OpenShut
import Derived.ShutString
import Derived.ChangeOld
import Derived.Below
import Derived.SizedLaws
namespace Go.Proofs.Ythlbjdiicmojfaa.topSecrets
open Go.ChangeShapes Go.WideShapes Go.ChangeAt Go.RowKit
set_option linter.unusedVariables false
theorem own : ownKnob Try.prog.godebug = none := by kernel_rfl
theorem laidOut : laidOutB Try.prog = true := by kernel_rfl
set_option maxRecDepth 100000 in
theorem lifted (os : Os) (started : os.Started) (H : Type) (enc : TypeId × Value → H) :
    ReturnsInHanded {} Try.checked os 8 .any (Rows.topSecretsSpec.pre6 enc Try.prog Try.f8 Rows.topSecretsRow.domain false) (Rows.topSecretsSpec.post enc Try.prog Try.f8 false true false false) := by
  refine returnsInHanded_of_change_sized (C := Try.checked) own started (by kernel_rfl) Try.func8
    (ChangeSpec.witness6 (enc := enc) (C := Try.checked) false ⟨#[], #[.agg #[.slice none 0 0, .slice none 0 0], .int .i64 0, .int .i64 0], []⟩ 8 (by kernel_rfl) (by kernel_rfl) (by kernel_rfl) (by kernel_rfl)) ?_
  intro W base args ds gs before hval0 hW hcnd hsz0 _
  have hsz : (DataW.weightsEach Try.prog (Try.f8.params.toList ++ Rows.topSecretsSpec.plain.varTypes Try.prog) (ds ++ gs)).all (· ≤ reachBytes) = true := hsz0
  have hval : ∀ (j : Nat) t v, Try.f8.params[j]? = some t → args[j]? = some v → Value.okWide Try.prog W .any base t v := hval0
  have hW' := hW
  obtain ⟨p, q, hA0, hV, rfl, hfz, hnd⟩ := hW
  have hA : DataW.TrodAll enc Try.prog W 0 (fun _ => true) true Try.f8.params.toList args.toList ds p := hA0
  rw [Try.params8] at hA hval hsz
  obtain ⟨v0, vs0, d0, ds0, p0, q0, hargs, rfl, rfl, h0, r0⟩ := trodAll_cons hA
  obtain ⟨v1, vs1, d1, ds1, p1, q1, rfl, rfl, rfl, h1, r1⟩ := trodAll_cons r0
  obtain ⟨v2, vs2, d2, ds2, p2, q2, rfl, rfl, rfl, h2, r2⟩ := trodAll_cons r1
  obtain ⟨rfl, rfl, rfl⟩ := trodAll_nil r2
  obtain rfl : args = #[v0, v1, v2] := by cases args; simp_all
  obtain ⟨rfl, rfl⟩ := trodVars_none hV
  obtain ⟨cs0, rfl, hcs0⟩ := okWide_struct Try.underlying31 (hval 0 31 v0 rfl rfl)
  have k0 := h0
  have lt0 : ∀ x ∈ p0, x.block < W.heap.size := by obtain ⟨m, hm⟩ := k0; exact DataW.trod_lt m _ _ _ hm
  obtain ⟨b0, n0, z0, b1, n1, z1, rfl, hn0, hC0, hb0, hn1, hC1, hb1⟩ := P.open_two hsz (j := 0) rfl rfl h0
  obtain ⟨a1, rfl, rfl, rfl, w1⟩ := open_int Try.underlying3 (hval 1 3 v1 rfl rfl) h1
  obtain ⟨a2, rfl, rfl, rfl, w2⟩ := open_int Try.underlying3 (hval 2 3 v2 rfl rfl) h2
  obtain ⟨k, hk⟩ := P.pureTopSecrets (z0.take n0) (z1.take n1) a1 a2
  clear hA0 hval0 hsz0 hsz
  have hl0 : (z0.take n0).length = n0 := by rw [List.length_take]; omega
  have hl1 : (z1.take n1).length = n1 := by rw [List.length_take]; omega
  refine (P.out8 b0 n0 z0 b1 n1 z1 a1 a2 W hC0 hn0 hb0 hC1 hn1 hb1 (Go.Proofs.YthlbjdiicmojfaaW.PrintWords.Aside0.mk (fun w1 hb => by
    have h := P.verditertop_topSecrets.calls k b0 z0.length (z0.take n0) b1 z1.length (z1.take n1) a1 a2 true w1 (Go.Proofs.YthlbjdiicmojfaaW.PrintWords.Kd.C_take (Go.Proofs.YthlbjdiicmojfaaW.PrintWords.Kd.C_below hC0 hb) hn0) (by omega) (Go.Proofs.YthlbjdiicmojfaaW.PrintWords.Kd.C_take (Go.Proofs.YthlbjdiicmojfaaW.PrintWords.Kd.C_below hC1 hb) hn1) (by omega) hk rfl
    rw [hl0, hl1] at h
    exact h))).mono fun e W' ⟨he, bel⟩ => ?_
  subst he
  exact ⟨_, rfl, _, _, _, [], _, [], hW', trodAll_mk1 (shut_bool Try.underlying4 _), (trodAll_cons_mk (Below.trod laidOut (by kernel_rfl) (of_decide_eq_true (by kernel_rfl)) k0 bel lt0) (trodAll_cons_mk (shut_int Try.underlying3 w1) (trodAll_cons_mk (shut_int Try.underlying3 w2) trodAll_mk0))), rfl, bel.frame _, fun h => by cases h⟩
theorem over : Rows.topSecretsRow.holds Try.pinned (OpenSpec.ofChange Rows.topSecretsSpec) :=
  OpenClaim.holds_of_wide 8 Try.f8 rfl rfl rfl rfl rfl rfl rfl ⟨rfl, rfl, rfl, rfl, rfl⟩ rfl rfl rfl rfl rfl (by kernel_rfl) Try.func8 (by kernel_rfl)
    (of_decide_eq_true (by kernel_rfl)) (by unfold Func.isWrapper; first | (rw [if_pos (by decide +kernel)]; kernel_rfl) | (rw [if_neg (by decide +kernel)]; exact ⟨rfl, rfl⟩))
    (fun os started H enc _ => lifted os started H enc)
end Go.Proofs.Ythlbjdiicmojfaa.topSecrets
namespace Go.Proofs.Ythlbjdiicmojfaa
/-- The row, under a short name, for the claim. -/
theorem topSecrets_holds : Rows.TopSecretsSaid := topSecrets.over
#print axioms topSecrets_holds
end Go.Proofs.Ythlbjdiicmojfaa
