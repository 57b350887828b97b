/-
  No cell of these rows narrows 'for every input' (looked for: loops, veiled, ifaces, maps, wideKeys, modest, calm, conditions, laid).
  DERIVED. THE GIVEN ROWS OF THIS SEAT. 16 by the template 'for every input the law returns true; each argument reads behind the call as it read before'; 0 by the template 'total and deterministic' (their statements: YthlbjdiicmojfaaTotals.lean).
  GIVEN WITH THE SEED: the statements are not yours to turn. If you find one false, say at which input.
  Laid BY PROGRAM, IN A SANDBOX (cutbox-rows.mjs): the forced cells as the released guide's own fill.sh prints them over the translation 267e1c94d8a66049… (all of the seat's roots in one cut). By AI agents, Wed Nov 11 2026. No macro, syntax, notation, axiom, sorry.
-/
import Derived.Test.YthlbjdiicmojfaaChecked
import GoSem.Claim
import GoSem.ClaimJoined
import GoSem.ClaimMapViews
import Derived.JoinedTies
import Derived.KernelRfl
namespace Go.Proofs.Ythlbjdiicmojfaa
/- THE CELL 'sum', in the pinned program and in every row, IS THE sha256 OF THE DUMP (.gsa) THAT YthlbjdiicmojfaaProg.lean LOADS. Nothing in Lean hashes anything: it is a label: what it is worth is what the hold of that sum in a sandbox is worth. -/
noncomputable def Try.pinned : Pinned := { name := "ythlbjdiicmojfaa", sum := "267e1c94d8a660492bd2e73cef820db50aa7e8f50c00d86e30e1bf04ce3b251e", checked := Try.checked }
namespace Rows
def none {H : Type} : Left H := { results := [], args := [] }

/-- 'verditerlaw08.SecretCompletes': WHATEVER THE INPUT: true; the input reads as it did. -/
def secretCompletesSpec : ChangeSpec := { name := "secretCompletes", fn := fun _ => fun
  | [d1, d2] => { results := [.lit (.bool true)], args := [d1, d2] }
  | _ => none }
def secretCompletesRow : OpenClaim := { program := "ythlbjdiicmojfaa", sum := "267e1c94d8a660492bd2e73cef820db50aa7e8f50c00d86e30e1bf04ce3b251e", func := "verditer/verditerlaw08.SecretCompletes", spec := "secretCompletes", unfollowed := true, recurses := true, apart := false }
def SecretCompletesSaid : Prop := secretCompletesRow.holds Try.pinned (OpenSpec.ofChange secretCompletesSpec)

/-- ITS FALSE NEIGHBOUR: 'it returns false'. Refute it at one input. -/
def secretCompletesWrong : ChangeSpec := { name := "secretCompletes", fn := fun _ => fun
  | [d1, d2] => { results := [.lit (.bool false)], args := [d1, d2] }
  | _ => none }
def SecretCompletesWrongFalsely : Prop := secretCompletesRow.holds Try.pinned (OpenSpec.ofChange secretCompletesWrong)

/-- 'verditerlaw08.SecretAt': WHATEVER THE INPUT: true; the input reads as it did. -/
def secretAtSpec : ChangeSpec := { name := "secretAt", fn := fun _ => fun
  | [d1, d2] => { results := [.lit (.bool true)], args := [d1, d2] }
  | _ => none }
def secretAtRow : OpenClaim := { program := "ythlbjdiicmojfaa", sum := "267e1c94d8a660492bd2e73cef820db50aa7e8f50c00d86e30e1bf04ce3b251e", func := "verditer/verditerlaw08.SecretAt", spec := "secretAt", unfollowed := true, recurses := true, apart := false }
def SecretAtSaid : Prop := secretAtRow.holds Try.pinned (OpenSpec.ofChange secretAtSpec)

/-- ITS FALSE NEIGHBOUR: 'it returns false'. Refute it at one input. -/
def secretAtWrong : ChangeSpec := { name := "secretAt", fn := fun _ => fun
  | [d1, d2] => { results := [.lit (.bool false)], args := [d1, d2] }
  | _ => none }
def SecretAtWrongFalsely : Prop := secretAtRow.holds Try.pinned (OpenSpec.ofChange secretAtWrong)

/-- 'verditerlaw08.SecretParts': WHATEVER THE INPUT: true; the input reads as it did. -/
def secretPartsSpec : ChangeSpec := { name := "secretParts", fn := fun _ => fun
  | [d1, d2] => { results := [.lit (.bool true)], args := [d1, d2] }
  | _ => none }
def secretPartsRow : OpenClaim := { program := "ythlbjdiicmojfaa", sum := "267e1c94d8a660492bd2e73cef820db50aa7e8f50c00d86e30e1bf04ce3b251e", func := "verditer/verditerlaw08.SecretParts", spec := "secretParts", unfollowed := true, recurses := true, apart := false }
def SecretPartsSaid : Prop := secretPartsRow.holds Try.pinned (OpenSpec.ofChange secretPartsSpec)

/-- ITS FALSE NEIGHBOUR: 'it returns false'. Refute it at one input. -/
def secretPartsWrong : ChangeSpec := { name := "secretParts", fn := fun _ => fun
  | [d1, d2] => { results := [.lit (.bool false)], args := [d1, d2] }
  | _ => none }
def SecretPartsWrongFalsely : Prop := secretPartsRow.holds Try.pinned (OpenSpec.ofChange secretPartsWrong)

/-- 'verditerlaw08.SecretShares': WHATEVER THE INPUT: true; the input reads as it did. -/
def secretSharesSpec : ChangeSpec := { name := "secretShares", fn := fun _ => fun
  | [d1, d2] => { results := [.lit (.bool true)], args := [d1, d2] }
  | _ => none }
def secretSharesRow : OpenClaim := { program := "ythlbjdiicmojfaa", sum := "267e1c94d8a660492bd2e73cef820db50aa7e8f50c00d86e30e1bf04ce3b251e", func := "verditer/verditerlaw08.SecretShares", spec := "secretShares", unfollowed := true, recurses := true, apart := false }
def SecretSharesSaid : Prop := secretSharesRow.holds Try.pinned (OpenSpec.ofChange secretSharesSpec)

/-- ITS FALSE NEIGHBOUR: 'it returns false'. Refute it at one input. -/
def secretSharesWrong : ChangeSpec := { name := "secretShares", fn := fun _ => fun
  | [d1, d2] => { results := [.lit (.bool false)], args := [d1, d2] }
  | _ => none }
def SecretSharesWrongFalsely : Prop := secretSharesRow.holds Try.pinned (OpenSpec.ofChange secretSharesWrong)

/-- 'verditerlaw08.SecretLies': WHATEVER THE INPUT: true; the input reads as it did. -/
def secretLiesSpec : ChangeSpec := { name := "secretLies", fn := fun _ => fun
  | [d1, d2] => { results := [.lit (.bool true)], args := [d1, d2] }
  | _ => none }
def secretLiesRow : OpenClaim := { program := "ythlbjdiicmojfaa", sum := "267e1c94d8a660492bd2e73cef820db50aa7e8f50c00d86e30e1bf04ce3b251e", func := "verditer/verditerlaw08.SecretLies", spec := "secretLies", unfollowed := true, recurses := true, apart := false }
def SecretLiesSaid : Prop := secretLiesRow.holds Try.pinned (OpenSpec.ofChange secretLiesSpec)

/-- ITS FALSE NEIGHBOUR: 'it returns false'. Refute it at one input. -/
def secretLiesWrong : ChangeSpec := { name := "secretLies", fn := fun _ => fun
  | [d1, d2] => { results := [.lit (.bool false)], args := [d1, d2] }
  | _ => none }
def SecretLiesWrongFalsely : Prop := secretLiesRow.holds Try.pinned (OpenSpec.ofChange secretLiesWrong)

/-- 'verditertop.TopSecrets': WHATEVER THE INPUT: true; the input reads as it did. -/
def topSecretsSpec : ChangeSpec := { name := "topSecrets", fn := fun _ => fun
  | [d1, d2, d3] => { results := [.lit (.bool true)], args := [d1, d2, d3] }
  | _ => none }
def topSecretsRow : OpenClaim := { program := "ythlbjdiicmojfaa", sum := "267e1c94d8a660492bd2e73cef820db50aa7e8f50c00d86e30e1bf04ce3b251e", func := "verditer/verditertop.TopSecrets", spec := "topSecrets", unfollowed := true, recurses := true, apart := false }
def TopSecretsSaid : Prop := topSecretsRow.holds Try.pinned (OpenSpec.ofChange topSecretsSpec)

/-- ITS FALSE NEIGHBOUR: 'it returns false'. Refute it at one input. -/
def topSecretsWrong : ChangeSpec := { name := "topSecrets", fn := fun _ => fun
  | [d1, d2, d3] => { results := [.lit (.bool false)], args := [d1, d2, d3] }
  | _ => none }
def TopSecretsWrongFalsely : Prop := topSecretsRow.holds Try.pinned (OpenSpec.ofChange topSecretsWrong)

/-- 'verditerlaw08.SecretReturns': WHATEVER THE INPUT: true; the input reads as it did. -/
def secretReturnsSpec : ChangeSpec := { name := "secretReturns", fn := fun _ => fun
  | [d1, d2] => { results := [.lit (.bool true)], args := [d1, d2] }
  | _ => none }
def secretReturnsRow : OpenClaim := { program := "ythlbjdiicmojfaa", sum := "267e1c94d8a660492bd2e73cef820db50aa7e8f50c00d86e30e1bf04ce3b251e", func := "verditer/verditerlaw08.SecretReturns", spec := "secretReturns", unfollowed := true, recurses := true, apart := false }
def SecretReturnsSaid : Prop := secretReturnsRow.holds Try.pinned (OpenSpec.ofChange secretReturnsSpec)

/-- ITS FALSE NEIGHBOUR: 'it returns false'. Refute it at one input. -/
def secretReturnsWrong : ChangeSpec := { name := "secretReturns", fn := fun _ => fun
  | [d1, d2] => { results := [.lit (.bool false)], args := [d1, d2] }
  | _ => none }
def SecretReturnsWrongFalsely : Prop := secretReturnsRow.holds Try.pinned (OpenSpec.ofChange secretReturnsWrong)

/-- 'verditerlaw08.SecretWeights': WHATEVER THE INPUT: true; the input reads as it did. -/
def secretWeightsSpec : ChangeSpec := { name := "secretWeights", fn := fun _ => fun
  | [d1, d2] => { results := [.lit (.bool true)], args := [d1, d2] }
  | _ => none }
def secretWeightsRow : OpenClaim := { program := "ythlbjdiicmojfaa", sum := "267e1c94d8a660492bd2e73cef820db50aa7e8f50c00d86e30e1bf04ce3b251e", func := "verditer/verditerlaw08.SecretWeights", spec := "secretWeights", unfollowed := true, recurses := true, apart := false }
def SecretWeightsSaid : Prop := secretWeightsRow.holds Try.pinned (OpenSpec.ofChange secretWeightsSpec)

/-- ITS FALSE NEIGHBOUR: 'it returns false'. Refute it at one input. -/
def secretWeightsWrong : ChangeSpec := { name := "secretWeights", fn := fun _ => fun
  | [d1, d2] => { results := [.lit (.bool false)], args := [d1, d2] }
  | _ => none }
def SecretWeightsWrongFalsely : Prop := secretWeightsRow.holds Try.pinned (OpenSpec.ofChange secretWeightsWrong)

/-- 'verditerlaw08.SecretWithout': WHATEVER THE INPUT: true; the input reads as it did. -/
def secretWithoutSpec : ChangeSpec := { name := "secretWithout", fn := fun _ => fun
  | [d1, d2] => { results := [.lit (.bool true)], args := [d1, d2] }
  | _ => none }
def secretWithoutRow : OpenClaim := { program := "ythlbjdiicmojfaa", sum := "267e1c94d8a660492bd2e73cef820db50aa7e8f50c00d86e30e1bf04ce3b251e", func := "verditer/verditerlaw08.SecretWithout", spec := "secretWithout", unfollowed := true, recurses := true, apart := false }
def SecretWithoutSaid : Prop := secretWithoutRow.holds Try.pinned (OpenSpec.ofChange secretWithoutSpec)

/-- ITS FALSE NEIGHBOUR: 'it returns false'. Refute it at one input. -/
def secretWithoutWrong : ChangeSpec := { name := "secretWithout", fn := fun _ => fun
  | [d1, d2] => { results := [.lit (.bool false)], args := [d1, d2] }
  | _ => none }
def SecretWithoutWrongFalsely : Prop := secretWithoutRow.holds Try.pinned (OpenSpec.ofChange secretWithoutWrong)

/-- 'verditerlaw08.SecretCurves': WHATEVER THE INPUT: true; the input reads as it did. -/
def secretCurvesSpec : ChangeSpec := { name := "secretCurves", fn := fun _ => fun
  | [d] => { results := [.lit (.bool true)], args := [d] }
  | _ => none }
def secretCurvesRow : OpenClaim := { program := "ythlbjdiicmojfaa", sum := "267e1c94d8a660492bd2e73cef820db50aa7e8f50c00d86e30e1bf04ce3b251e", func := "verditer/verditerlaw08.SecretCurves", spec := "secretCurves", unfollowed := true, recurses := true, apart := false }
def SecretCurvesSaid : Prop := secretCurvesRow.holds Try.pinned (OpenSpec.ofChange secretCurvesSpec)

/-- ITS FALSE NEIGHBOUR: 'it returns false'. Refute it at one input. -/
def secretCurvesWrong : ChangeSpec := { name := "secretCurves", fn := fun _ => fun
  | [d] => { results := [.lit (.bool false)], args := [d] }
  | _ => none }
def SecretCurvesWrongFalsely : Prop := secretCurvesRow.holds Try.pinned (OpenSpec.ofChange secretCurvesWrong)

/-- 'verditerlaw08.SecretScales': WHATEVER THE INPUT: true; the input reads as it did. -/
def secretScalesSpec : ChangeSpec := { name := "secretScales", fn := fun _ => fun
  | [d1, d2] => { results := [.lit (.bool true)], args := [d1, d2] }
  | _ => none }
def secretScalesRow : OpenClaim := { program := "ythlbjdiicmojfaa", sum := "267e1c94d8a660492bd2e73cef820db50aa7e8f50c00d86e30e1bf04ce3b251e", func := "verditer/verditerlaw08.SecretScales", spec := "secretScales", unfollowed := true, recurses := true, apart := false }
def SecretScalesSaid : Prop := secretScalesRow.holds Try.pinned (OpenSpec.ofChange secretScalesSpec)

/-- ITS FALSE NEIGHBOUR: 'it returns false'. Refute it at one input. -/
def secretScalesWrong : ChangeSpec := { name := "secretScales", fn := fun _ => fun
  | [d1, d2] => { results := [.lit (.bool false)], args := [d1, d2] }
  | _ => none }
def SecretScalesWrongFalsely : Prop := secretScalesRow.holds Try.pinned (OpenSpec.ofChange secretScalesWrong)

/-- 'verditerlaw08.SecretRenews': WHATEVER THE INPUT: true; the input reads as it did. -/
def secretRenewsSpec : ChangeSpec := { name := "secretRenews", fn := fun _ => fun
  | [d1, d2] => { results := [.lit (.bool true)], args := [d1, d2] }
  | _ => none }
def secretRenewsRow : OpenClaim := { program := "ythlbjdiicmojfaa", sum := "267e1c94d8a660492bd2e73cef820db50aa7e8f50c00d86e30e1bf04ce3b251e", func := "verditer/verditerlaw08.SecretRenews", spec := "secretRenews", unfollowed := true, recurses := true, apart := false }
def SecretRenewsSaid : Prop := secretRenewsRow.holds Try.pinned (OpenSpec.ofChange secretRenewsSpec)

/-- ITS FALSE NEIGHBOUR: 'it returns false'. Refute it at one input. -/
def secretRenewsWrong : ChangeSpec := { name := "secretRenews", fn := fun _ => fun
  | [d1, d2] => { results := [.lit (.bool false)], args := [d1, d2] }
  | _ => none }
def SecretRenewsWrongFalsely : Prop := secretRenewsRow.holds Try.pinned (OpenSpec.ofChange secretRenewsWrong)

/-- 'verditerlaw08.SecretAdds': WHATEVER THE INPUT: true; the input reads as it did. -/
def secretAddsSpec : ChangeSpec := { name := "secretAdds", fn := fun _ => fun
  | [d1, d2] => { results := [.lit (.bool true)], args := [d1, d2] }
  | _ => none }
def secretAddsRow : OpenClaim := { program := "ythlbjdiicmojfaa", sum := "267e1c94d8a660492bd2e73cef820db50aa7e8f50c00d86e30e1bf04ce3b251e", func := "verditer/verditerlaw08.SecretAdds", spec := "secretAdds", unfollowed := true, recurses := true, apart := false }
def SecretAddsSaid : Prop := secretAddsRow.holds Try.pinned (OpenSpec.ofChange secretAddsSpec)

/-- ITS FALSE NEIGHBOUR: 'it returns false'. Refute it at one input. -/
def secretAddsWrong : ChangeSpec := { name := "secretAdds", fn := fun _ => fun
  | [d1, d2] => { results := [.lit (.bool false)], args := [d1, d2] }
  | _ => none }
def SecretAddsWrongFalsely : Prop := secretAddsRow.holds Try.pinned (OpenSpec.ofChange secretAddsWrong)

/-- 'verditerlaw08.SecretRepairs': WHATEVER THE INPUT: true; the input reads as it did. -/
def secretRepairsSpec : ChangeSpec := { name := "secretRepairs", fn := fun _ => fun
  | [d1, d2] => { results := [.lit (.bool true)], args := [d1, d2] }
  | _ => none }
def secretRepairsRow : OpenClaim := { program := "ythlbjdiicmojfaa", sum := "267e1c94d8a660492bd2e73cef820db50aa7e8f50c00d86e30e1bf04ce3b251e", func := "verditer/verditerlaw08.SecretRepairs", spec := "secretRepairs", unfollowed := true, recurses := true, apart := false }
def SecretRepairsSaid : Prop := secretRepairsRow.holds Try.pinned (OpenSpec.ofChange secretRepairsSpec)

/-- ITS FALSE NEIGHBOUR: 'it returns false'. Refute it at one input. -/
def secretRepairsWrong : ChangeSpec := { name := "secretRepairs", fn := fun _ => fun
  | [d1, d2] => { results := [.lit (.bool false)], args := [d1, d2] }
  | _ => none }
def SecretRepairsWrongFalsely : Prop := secretRepairsRow.holds Try.pinned (OpenSpec.ofChange secretRepairsWrong)

/-- 'verditerlaw08.SecretFalse': WHATEVER THE INPUT: true; the input reads as it did. -/
def secretFalseSpec : ChangeSpec := { name := "secretFalse", fn := fun _ => fun
  | [d1, d2, d3] => { results := [.lit (.bool true)], args := [d1, d2, d3] }
  | _ => none }
def secretFalseRow : OpenClaim := { program := "ythlbjdiicmojfaa", sum := "267e1c94d8a660492bd2e73cef820db50aa7e8f50c00d86e30e1bf04ce3b251e", func := "verditer/verditerlaw08.SecretFalse", spec := "secretFalse", unfollowed := true, recurses := true, apart := false }
def SecretFalseSaid : Prop := secretFalseRow.holds Try.pinned (OpenSpec.ofChange secretFalseSpec)

/-- ITS FALSE NEIGHBOUR: 'it returns false'. Refute it at one input. -/
def secretFalseWrong : ChangeSpec := { name := "secretFalse", fn := fun _ => fun
  | [d1, d2, d3] => { results := [.lit (.bool false)], args := [d1, d2, d3] }
  | _ => none }
def SecretFalseWrongFalsely : Prop := secretFalseRow.holds Try.pinned (OpenSpec.ofChange secretFalseWrong)

/-- 'verditerlaw08.SecretWrongs': WHATEVER THE INPUT: true; the input reads as it did. -/
def secretWrongsSpec : ChangeSpec := { name := "secretWrongs", fn := fun _ => fun
  | [d1, d2] => { results := [.lit (.bool true)], args := [d1, d2] }
  | _ => none }
def secretWrongsRow : OpenClaim := { program := "ythlbjdiicmojfaa", sum := "267e1c94d8a660492bd2e73cef820db50aa7e8f50c00d86e30e1bf04ce3b251e", func := "verditer/verditerlaw08.SecretWrongs", spec := "secretWrongs", unfollowed := true, recurses := true, apart := false }
def SecretWrongsSaid : Prop := secretWrongsRow.holds Try.pinned (OpenSpec.ofChange secretWrongsSpec)

/-- ITS FALSE NEIGHBOUR: 'it returns false'. Refute it at one input. -/
def secretWrongsWrong : ChangeSpec := { name := "secretWrongs", fn := fun _ => fun
  | [d1, d2] => { results := [.lit (.bool false)], args := [d1, d2] }
  | _ => none }
def SecretWrongsWrongFalsely : Prop := secretWrongsRow.holds Try.pinned (OpenSpec.ofChange secretWrongsWrong)

/- THE SECOND FORM. 'bulk': how many values and letters a reading holds, each counted each time it is reached (what is shared counts as often as it is met; a slice's spare places count too). A statement '..UptoSaid' is the law's where the arguments, and the package variables that the reading takes, are together of bulk at most 1048576: NARROWER than '..Said'. Prove '..Said' where nothing that the law and all that it calls make is longer than what came in: it says more and counts as full. Else prove '..UptoSaid'. A law counts once. -/
mutual
def uptoBulk {H : Type} : DataW H → Nat
  | .lit (.string bytes) => bytes.length + 1
  | .lit _ => 1
  | .nil => 1
  | .ptr d => uptoBulk d + 1
  | .slice elems spare => uptoBulkAll elems + uptoBulkAll spare + 1
  | .agg parts => uptoBulkAll parts + 1
  | .iface _ d => uptoBulk d + 1
  | .map entries => uptoBulkEntries entries + 1
  | .held _ => 1
def uptoBulkAll {H : Type} : List (DataW H) → Nat
  | [] => 0
  | d :: r => uptoBulk d + uptoBulkAll r
def uptoBulkEntries {H : Type} : List (Lit × DataW H) → Nat
  | [] => 0
  | x :: r => uptoBulkEntry x + uptoBulkEntries r
def uptoBulkEntry {H : Type} : Lit × DataW H → Nat
  | (.string bytes, d) => bytes.length + uptoBulk d + 1
  | (_, d) => uptoBulk d + 1
 end
def uptoSmall : (H : Type) → List (DataW H) → Bool := fun _ ds => decide (uptoBulkAll ds ≤ 1048576)
def OpenSpec.upto (s : _root_.Go.ChangeSpec) : _root_.Go.OpenSpec := { _root_.Go.OpenSpec.ofChange s with cond := some uptoSmall }

/-- 'verditerlaw08.SecretCompletes', WHERE WHAT IT READS IS OF BULK AT MOST 1048576: true; the input reads as it did. -/
def secretCompletesUptoRow : OpenClaim := { program := "ythlbjdiicmojfaa", sum := "267e1c94d8a660492bd2e73cef820db50aa7e8f50c00d86e30e1bf04ce3b251e", func := "verditer/verditerlaw08.SecretCompletes", spec := "secretCompletes", unfollowed := true, recurses := true, apart := false, narrowed := true }
def SecretCompletesUptoSaid : Prop := secretCompletesUptoRow.holds Try.pinned (OpenSpec.upto secretCompletesSpec)

/-- 'verditerlaw08.SecretAt', WHERE WHAT IT READS IS OF BULK AT MOST 1048576: true; the input reads as it did. -/
def secretAtUptoRow : OpenClaim := { program := "ythlbjdiicmojfaa", sum := "267e1c94d8a660492bd2e73cef820db50aa7e8f50c00d86e30e1bf04ce3b251e", func := "verditer/verditerlaw08.SecretAt", spec := "secretAt", unfollowed := true, recurses := true, apart := false, narrowed := true }
def SecretAtUptoSaid : Prop := secretAtUptoRow.holds Try.pinned (OpenSpec.upto secretAtSpec)

/-- 'verditerlaw08.SecretParts', WHERE WHAT IT READS IS OF BULK AT MOST 1048576: true; the input reads as it did. -/
def secretPartsUptoRow : OpenClaim := { program := "ythlbjdiicmojfaa", sum := "267e1c94d8a660492bd2e73cef820db50aa7e8f50c00d86e30e1bf04ce3b251e", func := "verditer/verditerlaw08.SecretParts", spec := "secretParts", unfollowed := true, recurses := true, apart := false, narrowed := true }
def SecretPartsUptoSaid : Prop := secretPartsUptoRow.holds Try.pinned (OpenSpec.upto secretPartsSpec)

/-- 'verditerlaw08.SecretShares', WHERE WHAT IT READS IS OF BULK AT MOST 1048576: true; the input reads as it did. -/
def secretSharesUptoRow : OpenClaim := { program := "ythlbjdiicmojfaa", sum := "267e1c94d8a660492bd2e73cef820db50aa7e8f50c00d86e30e1bf04ce3b251e", func := "verditer/verditerlaw08.SecretShares", spec := "secretShares", unfollowed := true, recurses := true, apart := false, narrowed := true }
def SecretSharesUptoSaid : Prop := secretSharesUptoRow.holds Try.pinned (OpenSpec.upto secretSharesSpec)

/-- 'verditerlaw08.SecretLies', WHERE WHAT IT READS IS OF BULK AT MOST 1048576: true; the input reads as it did. -/
def secretLiesUptoRow : OpenClaim := { program := "ythlbjdiicmojfaa", sum := "267e1c94d8a660492bd2e73cef820db50aa7e8f50c00d86e30e1bf04ce3b251e", func := "verditer/verditerlaw08.SecretLies", spec := "secretLies", unfollowed := true, recurses := true, apart := false, narrowed := true }
def SecretLiesUptoSaid : Prop := secretLiesUptoRow.holds Try.pinned (OpenSpec.upto secretLiesSpec)

/-- 'verditertop.TopSecrets', WHERE WHAT IT READS IS OF BULK AT MOST 1048576: true; the input reads as it did. -/
def topSecretsUptoRow : OpenClaim := { program := "ythlbjdiicmojfaa", sum := "267e1c94d8a660492bd2e73cef820db50aa7e8f50c00d86e30e1bf04ce3b251e", func := "verditer/verditertop.TopSecrets", spec := "topSecrets", unfollowed := true, recurses := true, apart := false, narrowed := true }
def TopSecretsUptoSaid : Prop := topSecretsUptoRow.holds Try.pinned (OpenSpec.upto topSecretsSpec)

/-- 'verditerlaw08.SecretReturns', WHERE WHAT IT READS IS OF BULK AT MOST 1048576: true; the input reads as it did. -/
def secretReturnsUptoRow : OpenClaim := { program := "ythlbjdiicmojfaa", sum := "267e1c94d8a660492bd2e73cef820db50aa7e8f50c00d86e30e1bf04ce3b251e", func := "verditer/verditerlaw08.SecretReturns", spec := "secretReturns", unfollowed := true, recurses := true, apart := false, narrowed := true }
def SecretReturnsUptoSaid : Prop := secretReturnsUptoRow.holds Try.pinned (OpenSpec.upto secretReturnsSpec)

/-- 'verditerlaw08.SecretWeights', WHERE WHAT IT READS IS OF BULK AT MOST 1048576: true; the input reads as it did. -/
def secretWeightsUptoRow : OpenClaim := { program := "ythlbjdiicmojfaa", sum := "267e1c94d8a660492bd2e73cef820db50aa7e8f50c00d86e30e1bf04ce3b251e", func := "verditer/verditerlaw08.SecretWeights", spec := "secretWeights", unfollowed := true, recurses := true, apart := false, narrowed := true }
def SecretWeightsUptoSaid : Prop := secretWeightsUptoRow.holds Try.pinned (OpenSpec.upto secretWeightsSpec)

/-- 'verditerlaw08.SecretWithout', WHERE WHAT IT READS IS OF BULK AT MOST 1048576: true; the input reads as it did. -/
def secretWithoutUptoRow : OpenClaim := { program := "ythlbjdiicmojfaa", sum := "267e1c94d8a660492bd2e73cef820db50aa7e8f50c00d86e30e1bf04ce3b251e", func := "verditer/verditerlaw08.SecretWithout", spec := "secretWithout", unfollowed := true, recurses := true, apart := false, narrowed := true }
def SecretWithoutUptoSaid : Prop := secretWithoutUptoRow.holds Try.pinned (OpenSpec.upto secretWithoutSpec)

/-- 'verditerlaw08.SecretCurves', WHERE WHAT IT READS IS OF BULK AT MOST 1048576: true; the input reads as it did. -/
def secretCurvesUptoRow : OpenClaim := { program := "ythlbjdiicmojfaa", sum := "267e1c94d8a660492bd2e73cef820db50aa7e8f50c00d86e30e1bf04ce3b251e", func := "verditer/verditerlaw08.SecretCurves", spec := "secretCurves", unfollowed := true, recurses := true, apart := false, narrowed := true }
def SecretCurvesUptoSaid : Prop := secretCurvesUptoRow.holds Try.pinned (OpenSpec.upto secretCurvesSpec)

/-- 'verditerlaw08.SecretScales', WHERE WHAT IT READS IS OF BULK AT MOST 1048576: true; the input reads as it did. -/
def secretScalesUptoRow : OpenClaim := { program := "ythlbjdiicmojfaa", sum := "267e1c94d8a660492bd2e73cef820db50aa7e8f50c00d86e30e1bf04ce3b251e", func := "verditer/verditerlaw08.SecretScales", spec := "secretScales", unfollowed := true, recurses := true, apart := false, narrowed := true }
def SecretScalesUptoSaid : Prop := secretScalesUptoRow.holds Try.pinned (OpenSpec.upto secretScalesSpec)

/-- 'verditerlaw08.SecretRenews', WHERE WHAT IT READS IS OF BULK AT MOST 1048576: true; the input reads as it did. -/
def secretRenewsUptoRow : OpenClaim := { program := "ythlbjdiicmojfaa", sum := "267e1c94d8a660492bd2e73cef820db50aa7e8f50c00d86e30e1bf04ce3b251e", func := "verditer/verditerlaw08.SecretRenews", spec := "secretRenews", unfollowed := true, recurses := true, apart := false, narrowed := true }
def SecretRenewsUptoSaid : Prop := secretRenewsUptoRow.holds Try.pinned (OpenSpec.upto secretRenewsSpec)

/-- 'verditerlaw08.SecretAdds', WHERE WHAT IT READS IS OF BULK AT MOST 1048576: true; the input reads as it did. -/
def secretAddsUptoRow : OpenClaim := { program := "ythlbjdiicmojfaa", sum := "267e1c94d8a660492bd2e73cef820db50aa7e8f50c00d86e30e1bf04ce3b251e", func := "verditer/verditerlaw08.SecretAdds", spec := "secretAdds", unfollowed := true, recurses := true, apart := false, narrowed := true }
def SecretAddsUptoSaid : Prop := secretAddsUptoRow.holds Try.pinned (OpenSpec.upto secretAddsSpec)

/-- 'verditerlaw08.SecretRepairs', WHERE WHAT IT READS IS OF BULK AT MOST 1048576: true; the input reads as it did. -/
def secretRepairsUptoRow : OpenClaim := { program := "ythlbjdiicmojfaa", sum := "267e1c94d8a660492bd2e73cef820db50aa7e8f50c00d86e30e1bf04ce3b251e", func := "verditer/verditerlaw08.SecretRepairs", spec := "secretRepairs", unfollowed := true, recurses := true, apart := false, narrowed := true }
def SecretRepairsUptoSaid : Prop := secretRepairsUptoRow.holds Try.pinned (OpenSpec.upto secretRepairsSpec)

/-- 'verditerlaw08.SecretFalse', WHERE WHAT IT READS IS OF BULK AT MOST 1048576: true; the input reads as it did. -/
def secretFalseUptoRow : OpenClaim := { program := "ythlbjdiicmojfaa", sum := "267e1c94d8a660492bd2e73cef820db50aa7e8f50c00d86e30e1bf04ce3b251e", func := "verditer/verditerlaw08.SecretFalse", spec := "secretFalse", unfollowed := true, recurses := true, apart := false, narrowed := true }
def SecretFalseUptoSaid : Prop := secretFalseUptoRow.holds Try.pinned (OpenSpec.upto secretFalseSpec)

/-- 'verditerlaw08.SecretWrongs', WHERE WHAT IT READS IS OF BULK AT MOST 1048576: true; the input reads as it did. -/
def secretWrongsUptoRow : OpenClaim := { program := "ythlbjdiicmojfaa", sum := "267e1c94d8a660492bd2e73cef820db50aa7e8f50c00d86e30e1bf04ce3b251e", func := "verditer/verditerlaw08.SecretWrongs", spec := "secretWrongs", unfollowed := true, recurses := true, apart := false, narrowed := true }
def SecretWrongsUptoSaid : Prop := secretWrongsUptoRow.holds Try.pinned (OpenSpec.upto secretWrongsSpec)

end Rows
end Go.Proofs.Ythlbjdiicmojfaa
