/-
  No cell of these rows narrows 'for every input' (looked for: loops, veiled, ifaces, maps, wideKeys, modest, calm, conditions, laid).
  DERIVED. THE GIVEN ROWS OF THIS SEAT. 6 by the template 'for every input the law returns true; each argument reads behind the call as it read before'; 0 by the template 'total and deterministic' (their statements: YtakokckokchacaaTotals.lean).
  GIVEN WITH THE SEED: the statements are not yours to turn. If you find one false, say at which input.
  Laid BY PROGRAM, IN A SANDBOX (cutbox-rows.mjs): the forced cells as the released guide's own fill.sh prints them over the translation a4db9cd7d839ee94… (all of the seat's roots in one cut). By AI agents, Wed Nov 11 2026. No macro, syntax, notation, axiom, sorry.
-/
import Derived.Test.YtakokckokchacaaChecked
import GoSem.Claim
import GoSem.ClaimJoined
import GoSem.ClaimMapViews
import Derived.JoinedTies
import Derived.KernelRfl
namespace Go.Proofs.Ytakokckokchacaa
/- THE CELL 'sum', in the pinned program and in every row, IS THE sha256 OF THE DUMP (.gsa) THAT YtakokckokchacaaProg.lean LOADS. Nothing in Lean hashes anything: it is a label: what it is worth is what the hold of that sum in a sandbox is worth. -/
noncomputable def Try.pinned : Pinned := { name := "ytakokckokchacaa", sum := "a4db9cd7d839ee9488fde387d86db1182bee71d3d65c65261d29b6f0c7e72281", checked := Try.checked }
namespace Rows
def none {H : Type} : Left H := { results := [], args := [] }

/-- 'firkinlaw29.PlanFlat': WHATEVER THE INPUT: true; the input reads as it did. -/
def planFlatSpec : ChangeSpec := { name := "planFlat", fn := fun _ => fun
  | [d] => { results := [.lit (.bool true)], args := [d] }
  | _ => none }
def planFlatRow : OpenClaim := { program := "ytakokckokchacaa", sum := "a4db9cd7d839ee9488fde387d86db1182bee71d3d65c65261d29b6f0c7e72281", func := "firkin/firkinlaw29.PlanFlat", spec := "planFlat", unfollowed := true, recurses := true, apart := false }
def PlanFlatSaid : Prop := planFlatRow.holds Try.pinned (OpenSpec.ofChange planFlatSpec)

/-- ITS FALSE NEIGHBOUR: 'it returns false'. Refute it at one input. -/
def planFlatWrong : ChangeSpec := { name := "planFlat", fn := fun _ => fun
  | [d] => { results := [.lit (.bool false)], args := [d] }
  | _ => none }
def PlanFlatWrongFalsely : Prop := planFlatRow.holds Try.pinned (OpenSpec.ofChange planFlatWrong)

/-- 'firkinlaw29.PlanParts': WHATEVER THE INPUT: true; the input reads as it did. -/
def planPartsSpec : ChangeSpec := { name := "planParts", fn := fun _ => fun
  | [d] => { results := [.lit (.bool true)], args := [d] }
  | _ => none }
def planPartsRow : OpenClaim := { program := "ytakokckokchacaa", sum := "a4db9cd7d839ee9488fde387d86db1182bee71d3d65c65261d29b6f0c7e72281", func := "firkin/firkinlaw29.PlanParts", spec := "planParts", unfollowed := true, recurses := true, apart := false }
def PlanPartsSaid : Prop := planPartsRow.holds Try.pinned (OpenSpec.ofChange planPartsSpec)

/-- ITS FALSE NEIGHBOUR: 'it returns false'. Refute it at one input. -/
def planPartsWrong : ChangeSpec := { name := "planParts", fn := fun _ => fun
  | [d] => { results := [.lit (.bool false)], args := [d] }
  | _ => none }
def PlanPartsWrongFalsely : Prop := planPartsRow.holds Try.pinned (OpenSpec.ofChange planPartsWrong)

/-- 'firkinlaw29.PlanNeeds': WHATEVER THE INPUT: true; the input reads as it did. -/
def planNeedsSpec : ChangeSpec := { name := "planNeeds", fn := fun _ => fun
  | [d] => { results := [.lit (.bool true)], args := [d] }
  | _ => none }
def planNeedsRow : OpenClaim := { program := "ytakokckokchacaa", sum := "a4db9cd7d839ee9488fde387d86db1182bee71d3d65c65261d29b6f0c7e72281", func := "firkin/firkinlaw29.PlanNeeds", spec := "planNeeds", unfollowed := true, recurses := true, apart := false }
def PlanNeedsSaid : Prop := planNeedsRow.holds Try.pinned (OpenSpec.ofChange planNeedsSpec)

/-- ITS FALSE NEIGHBOUR: 'it returns false'. Refute it at one input. -/
def planNeedsWrong : ChangeSpec := { name := "planNeeds", fn := fun _ => fun
  | [d] => { results := [.lit (.bool false)], args := [d] }
  | _ => none }
def PlanNeedsWrongFalsely : Prop := planNeedsRow.holds Try.pinned (OpenSpec.ofChange planNeedsWrong)

/-- 'firkinlaw29.PlanMeans': WHATEVER THE INPUT: true; the input reads as it did. -/
def planMeansSpec : ChangeSpec := { name := "planMeans", fn := fun _ => fun
  | [d1, d2] => { results := [.lit (.bool true)], args := [d1, d2] }
  | _ => none }
def planMeansRow : OpenClaim := { program := "ytakokckokchacaa", sum := "a4db9cd7d839ee9488fde387d86db1182bee71d3d65c65261d29b6f0c7e72281", func := "firkin/firkinlaw29.PlanMeans", spec := "planMeans", unfollowed := true, recurses := true, apart := false }
def PlanMeansSaid : Prop := planMeansRow.holds Try.pinned (OpenSpec.ofChange planMeansSpec)

/-- ITS FALSE NEIGHBOUR: 'it returns false'. Refute it at one input. -/
def planMeansWrong : ChangeSpec := { name := "planMeans", fn := fun _ => fun
  | [d1, d2] => { results := [.lit (.bool false)], args := [d1, d2] }
  | _ => none }
def PlanMeansWrongFalsely : Prop := planMeansRow.holds Try.pinned (OpenSpec.ofChange planMeansWrong)

/-- 'firkinlaw29.PlanSame': WHATEVER THE INPUT: true; the input reads as it did. -/
def planSameSpec : ChangeSpec := { name := "planSame", fn := fun _ => fun
  | [d1, d2] => { results := [.lit (.bool true)], args := [d1, d2] }
  | _ => none }
def planSameRow : OpenClaim := { program := "ytakokckokchacaa", sum := "a4db9cd7d839ee9488fde387d86db1182bee71d3d65c65261d29b6f0c7e72281", func := "firkin/firkinlaw29.PlanSame", spec := "planSame", unfollowed := true, recurses := true, apart := false }
def PlanSameSaid : Prop := planSameRow.holds Try.pinned (OpenSpec.ofChange planSameSpec)

/-- ITS FALSE NEIGHBOUR: 'it returns false'. Refute it at one input. -/
def planSameWrong : ChangeSpec := { name := "planSame", fn := fun _ => fun
  | [d1, d2] => { results := [.lit (.bool false)], args := [d1, d2] }
  | _ => none }
def PlanSameWrongFalsely : Prop := planSameRow.holds Try.pinned (OpenSpec.ofChange planSameWrong)

/-- 'firkinlaw29.PlanLaws': WHATEVER THE INPUT: true; the input reads as it did. -/
def planLawsSpec : ChangeSpec := { name := "planLaws", fn := fun _ => fun
  | [d1, d2, d3] => { results := [.lit (.bool true)], args := [d1, d2, d3] }
  | _ => none }
def planLawsRow : OpenClaim := { program := "ytakokckokchacaa", sum := "a4db9cd7d839ee9488fde387d86db1182bee71d3d65c65261d29b6f0c7e72281", func := "firkin/firkinlaw29.PlanLaws", spec := "planLaws", unfollowed := true, recurses := true, apart := false }
def PlanLawsSaid : Prop := planLawsRow.holds Try.pinned (OpenSpec.ofChange planLawsSpec)

/-- ITS FALSE NEIGHBOUR: 'it returns false'. Refute it at one input. -/
def planLawsWrong : ChangeSpec := { name := "planLaws", fn := fun _ => fun
  | [d1, d2, d3] => { results := [.lit (.bool false)], args := [d1, d2, d3] }
  | _ => none }
def PlanLawsWrongFalsely : Prop := planLawsRow.holds Try.pinned (OpenSpec.ofChange planLawsWrong)

/- THE SECOND FORM. 'bulk': how many values and letters a reading holds, each counted each time it is reached (what is shared counts as often as it is met; a slice's spare places count too). A statement '..UptoSaid' is the law's where the arguments, and the package variables that the reading takes, are together of bulk at most 1048576: NARROWER than '..Said'. Prove '..Said' where nothing that the law and all that it calls make is longer than what came in: it says more and counts as full. Else prove '..UptoSaid'. A law counts once. -/
mutual
def uptoBulk {H : Type} : DataW H → Nat
  | .lit (.string bytes) => bytes.length + 1
  | .lit _ => 1
  | .nil => 1
  | .ptr d => uptoBulk d + 1
  | .slice elems spare => uptoBulkAll elems + uptoBulkAll spare + 1
  | .agg parts => uptoBulkAll parts + 1
  | .iface _ d => uptoBulk d + 1
  | .map entries => uptoBulkEntries entries + 1
  | .held _ => 1
def uptoBulkAll {H : Type} : List (DataW H) → Nat
  | [] => 0
  | d :: r => uptoBulk d + uptoBulkAll r
def uptoBulkEntries {H : Type} : List (Lit × DataW H) → Nat
  | [] => 0
  | x :: r => uptoBulkEntry x + uptoBulkEntries r
def uptoBulkEntry {H : Type} : Lit × DataW H → Nat
  | (.string bytes, d) => bytes.length + uptoBulk d + 1
  | (_, d) => uptoBulk d + 1
 end
def uptoSmall : (H : Type) → List (DataW H) → Bool := fun _ ds => decide (uptoBulkAll ds ≤ 1048576)
def OpenSpec.upto (s : _root_.Go.ChangeSpec) : _root_.Go.OpenSpec := { _root_.Go.OpenSpec.ofChange s with cond := some uptoSmall }

/-- 'firkinlaw29.PlanFlat', WHERE WHAT IT READS IS OF BULK AT MOST 1048576: true; the input reads as it did. -/
def planFlatUptoRow : OpenClaim := { program := "ytakokckokchacaa", sum := "a4db9cd7d839ee9488fde387d86db1182bee71d3d65c65261d29b6f0c7e72281", func := "firkin/firkinlaw29.PlanFlat", spec := "planFlat", unfollowed := true, recurses := true, apart := false, narrowed := true }
def PlanFlatUptoSaid : Prop := planFlatUptoRow.holds Try.pinned (OpenSpec.upto planFlatSpec)

/-- 'firkinlaw29.PlanParts', WHERE WHAT IT READS IS OF BULK AT MOST 1048576: true; the input reads as it did. -/
def planPartsUptoRow : OpenClaim := { program := "ytakokckokchacaa", sum := "a4db9cd7d839ee9488fde387d86db1182bee71d3d65c65261d29b6f0c7e72281", func := "firkin/firkinlaw29.PlanParts", spec := "planParts", unfollowed := true, recurses := true, apart := false, narrowed := true }
def PlanPartsUptoSaid : Prop := planPartsUptoRow.holds Try.pinned (OpenSpec.upto planPartsSpec)

/-- 'firkinlaw29.PlanNeeds', WHERE WHAT IT READS IS OF BULK AT MOST 1048576: true; the input reads as it did. -/
def planNeedsUptoRow : OpenClaim := { program := "ytakokckokchacaa", sum := "a4db9cd7d839ee9488fde387d86db1182bee71d3d65c65261d29b6f0c7e72281", func := "firkin/firkinlaw29.PlanNeeds", spec := "planNeeds", unfollowed := true, recurses := true, apart := false, narrowed := true }
def PlanNeedsUptoSaid : Prop := planNeedsUptoRow.holds Try.pinned (OpenSpec.upto planNeedsSpec)

/-- 'firkinlaw29.PlanMeans', WHERE WHAT IT READS IS OF BULK AT MOST 1048576: true; the input reads as it did. -/
def planMeansUptoRow : OpenClaim := { program := "ytakokckokchacaa", sum := "a4db9cd7d839ee9488fde387d86db1182bee71d3d65c65261d29b6f0c7e72281", func := "firkin/firkinlaw29.PlanMeans", spec := "planMeans", unfollowed := true, recurses := true, apart := false, narrowed := true }
def PlanMeansUptoSaid : Prop := planMeansUptoRow.holds Try.pinned (OpenSpec.upto planMeansSpec)

/-- 'firkinlaw29.PlanSame', WHERE WHAT IT READS IS OF BULK AT MOST 1048576: true; the input reads as it did. -/
def planSameUptoRow : OpenClaim := { program := "ytakokckokchacaa", sum := "a4db9cd7d839ee9488fde387d86db1182bee71d3d65c65261d29b6f0c7e72281", func := "firkin/firkinlaw29.PlanSame", spec := "planSame", unfollowed := true, recurses := true, apart := false, narrowed := true }
def PlanSameUptoSaid : Prop := planSameUptoRow.holds Try.pinned (OpenSpec.upto planSameSpec)

/-- 'firkinlaw29.PlanLaws', WHERE WHAT IT READS IS OF BULK AT MOST 1048576: true; the input reads as it did. -/
def planLawsUptoRow : OpenClaim := { program := "ytakokckokchacaa", sum := "a4db9cd7d839ee9488fde387d86db1182bee71d3d65c65261d29b6f0c7e72281", func := "firkin/firkinlaw29.PlanLaws", spec := "planLaws", unfollowed := true, recurses := true, apart := false, narrowed := true }
def PlanLawsUptoSaid : Prop := planLawsUptoRow.holds Try.pinned (OpenSpec.upto planLawsSpec)

end Rows
end Go.Proofs.Ytakokckokchacaa
