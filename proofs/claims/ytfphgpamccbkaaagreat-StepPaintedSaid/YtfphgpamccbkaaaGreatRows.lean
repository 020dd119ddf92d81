/-
  No cell of these rows narrows 'for every input' (looked for: loops, veiled, ifaces, maps, wideKeys, modest, calm, conditions, laid).
  DERIVED. THE GIVEN ROWS OF THIS SEAT. 9 by the template 'for every input the law returns true; each argument reads behind the call as it read before'; 0 by the template 'total and deterministic' (their statements: YtfphgpamccbkaaaGreatTotals.lean).
  GIVEN WITH THE SEED: the statements are not yours to turn. If you find one false, say at which input.
  Laid BY PROGRAM, IN A SANDBOX (cutbox-rows.mjs): the forced cells as the released guide's own fill.sh prints them over the translation 3e2d8eef982ffc45… (all of the seat's roots in one cut). By AI agents, Wed Nov 11 2026. No macro, syntax, notation, axiom, sorry.
-/
import Derived.Test.YtfphgpamccbkaaaGreatChecked
import GoSem.Claim
import GoSem.ClaimJoined
import GoSem.ClaimMapViews
import Derived.JoinedTies
import Derived.KernelRfl
namespace Go.Proofs.YtfphgpamccbkaaaGreat
/- THE CELL 'sum', in the pinned program and in every row, IS THE sha256 OF THE DUMP (.gsa) THAT YtfphgpamccbkaaaGreatProg.lean LOADS. Nothing in Lean hashes anything: it is a label: what it is worth is what the hold of that sum in a sandbox is worth. -/
noncomputable def Tryz.pinned : Pinned := { name := "ytfphgpamccbkaaagreat", sum := "3e2d8eef982ffc458c45123147194d9028e9b9f13fec2bc728ae50cad02c21e2", checked := Tryz.checked }
namespace Rows
def none {H : Type} : Left H := { results := [], args := [] }

/-- 'seizinlaw21.StepNumbers': WHATEVER THE INPUT: true; the input reads as it did. -/
def stepNumbersSpec : ChangeSpec := { name := "stepNumbers", fn := fun _ => fun
  | [d1, d2, d3, d4] => { results := [.lit (.bool true)], args := [d1, d2, d3, d4] }
  | _ => none }
def stepNumbersRow : OpenClaim := { program := "ytfphgpamccbkaaagreat", sum := "3e2d8eef982ffc458c45123147194d9028e9b9f13fec2bc728ae50cad02c21e2", func := "seizin/seizinlaw21.StepNumbers", spec := "stepNumbers", unfollowed := true, recurses := true, apart := false }
def StepNumbersSaid : Prop := stepNumbersRow.holds Tryz.pinned (OpenSpec.ofChange stepNumbersSpec)

/-- ITS FALSE NEIGHBOUR: 'it returns false'. Refute it at one input. -/
def stepNumbersWrong : ChangeSpec := { name := "stepNumbers", fn := fun _ => fun
  | [d1, d2, d3, d4] => { results := [.lit (.bool false)], args := [d1, d2, d3, d4] }
  | _ => none }
def StepNumbersWrongFalsely : Prop := stepNumbersRow.holds Tryz.pinned (OpenSpec.ofChange stepNumbersWrong)

/-- 'seizinlaw21.StepStores': WHATEVER THE INPUT: true; the input reads as it did. -/
def stepStoresSpec : ChangeSpec := { name := "stepStores", fn := fun _ => fun
  | [d1, d2, d3] => { results := [.lit (.bool true)], args := [d1, d2, d3] }
  | _ => none }
def stepStoresRow : OpenClaim := { program := "ytfphgpamccbkaaagreat", sum := "3e2d8eef982ffc458c45123147194d9028e9b9f13fec2bc728ae50cad02c21e2", func := "seizin/seizinlaw21.StepStores", spec := "stepStores", unfollowed := true, recurses := true, apart := false }
def StepStoresSaid : Prop := stepStoresRow.holds Tryz.pinned (OpenSpec.ofChange stepStoresSpec)

/-- ITS FALSE NEIGHBOUR: 'it returns false'. Refute it at one input. -/
def stepStoresWrong : ChangeSpec := { name := "stepStores", fn := fun _ => fun
  | [d1, d2, d3] => { results := [.lit (.bool false)], args := [d1, d2, d3] }
  | _ => none }
def StepStoresWrongFalsely : Prop := stepStoresRow.holds Tryz.pinned (OpenSpec.ofChange stepStoresWrong)

/-- 'seizinlaw21.StepSealed': WHATEVER THE INPUT: true; the input reads as it did. -/
def stepSealedSpec : ChangeSpec := { name := "stepSealed", fn := fun _ => fun
  | [d1, d2] => { results := [.lit (.bool true)], args := [d1, d2] }
  | _ => none }
def stepSealedRow : OpenClaim := { program := "ytfphgpamccbkaaagreat", sum := "3e2d8eef982ffc458c45123147194d9028e9b9f13fec2bc728ae50cad02c21e2", func := "seizin/seizinlaw21.StepSealed", spec := "stepSealed", unfollowed := true, recurses := true, apart := false }
def StepSealedSaid : Prop := stepSealedRow.holds Tryz.pinned (OpenSpec.ofChange stepSealedSpec)

/-- ITS FALSE NEIGHBOUR: 'it returns false'. Refute it at one input. -/
def stepSealedWrong : ChangeSpec := { name := "stepSealed", fn := fun _ => fun
  | [d1, d2] => { results := [.lit (.bool false)], args := [d1, d2] }
  | _ => none }
def StepSealedWrongFalsely : Prop := stepSealedRow.holds Tryz.pinned (OpenSpec.ofChange stepSealedWrong)

/-- 'seizinlaw21.StepCalls': WHATEVER THE INPUT: true; the input reads as it did. -/
def stepCallsSpec : ChangeSpec := { name := "stepCalls", fn := fun _ => fun
  | [d1, d2, d3] => { results := [.lit (.bool true)], args := [d1, d2, d3] }
  | _ => none }
def stepCallsRow : OpenClaim := { program := "ytfphgpamccbkaaagreat", sum := "3e2d8eef982ffc458c45123147194d9028e9b9f13fec2bc728ae50cad02c21e2", func := "seizin/seizinlaw21.StepCalls", spec := "stepCalls", unfollowed := true, recurses := true, apart := false }
def StepCallsSaid : Prop := stepCallsRow.holds Tryz.pinned (OpenSpec.ofChange stepCallsSpec)

/-- ITS FALSE NEIGHBOUR: 'it returns false'. Refute it at one input. -/
def stepCallsWrong : ChangeSpec := { name := "stepCalls", fn := fun _ => fun
  | [d1, d2, d3] => { results := [.lit (.bool false)], args := [d1, d2, d3] }
  | _ => none }
def StepCallsWrongFalsely : Prop := stepCallsRow.holds Tryz.pinned (OpenSpec.ofChange stepCallsWrong)

/-- 'seizinlaw21.StepRefuses': WHATEVER THE INPUT: true; the input reads as it did. -/
def stepRefusesSpec : ChangeSpec := { name := "stepRefuses", fn := fun _ => fun
  | [d1, d2] => { results := [.lit (.bool true)], args := [d1, d2] }
  | _ => none }
def stepRefusesRow : OpenClaim := { program := "ytfphgpamccbkaaagreat", sum := "3e2d8eef982ffc458c45123147194d9028e9b9f13fec2bc728ae50cad02c21e2", func := "seizin/seizinlaw21.StepRefuses", spec := "stepRefuses", unfollowed := true, recurses := true, apart := false }
def StepRefusesSaid : Prop := stepRefusesRow.holds Tryz.pinned (OpenSpec.ofChange stepRefusesSpec)

/-- ITS FALSE NEIGHBOUR: 'it returns false'. Refute it at one input. -/
def stepRefusesWrong : ChangeSpec := { name := "stepRefuses", fn := fun _ => fun
  | [d1, d2] => { results := [.lit (.bool false)], args := [d1, d2] }
  | _ => none }
def StepRefusesWrongFalsely : Prop := stepRefusesRow.holds Tryz.pinned (OpenSpec.ofChange stepRefusesWrong)

/-- 'seizinlaw21.StepTraps': WHATEVER THE INPUT: true; the input reads as it did. -/
def stepTrapsSpec : ChangeSpec := { name := "stepTraps", fn := fun _ => fun
  | [d1, d2] => { results := [.lit (.bool true)], args := [d1, d2] }
  | _ => none }
def stepTrapsRow : OpenClaim := { program := "ytfphgpamccbkaaagreat", sum := "3e2d8eef982ffc458c45123147194d9028e9b9f13fec2bc728ae50cad02c21e2", func := "seizin/seizinlaw21.StepTraps", spec := "stepTraps", unfollowed := true, recurses := true, apart := false }
def StepTrapsSaid : Prop := stepTrapsRow.holds Tryz.pinned (OpenSpec.ofChange stepTrapsSpec)

/-- ITS FALSE NEIGHBOUR: 'it returns false'. Refute it at one input. -/
def stepTrapsWrong : ChangeSpec := { name := "stepTraps", fn := fun _ => fun
  | [d1, d2] => { results := [.lit (.bool false)], args := [d1, d2] }
  | _ => none }
def StepTrapsWrongFalsely : Prop := stepTrapsRow.holds Tryz.pinned (OpenSpec.ofChange stepTrapsWrong)

/-- 'seizinlaw21.StepTells': WHATEVER THE INPUT: true; the input reads as it did. -/
def stepTellsSpec : ChangeSpec := { name := "stepTells", fn := fun _ => fun
  | [d1, d2] => { results := [.lit (.bool true)], args := [d1, d2] }
  | _ => none }
def stepTellsRow : OpenClaim := { program := "ytfphgpamccbkaaagreat", sum := "3e2d8eef982ffc458c45123147194d9028e9b9f13fec2bc728ae50cad02c21e2", func := "seizin/seizinlaw21.StepTells", spec := "stepTells", unfollowed := true, recurses := true, apart := false }
def StepTellsSaid : Prop := stepTellsRow.holds Tryz.pinned (OpenSpec.ofChange stepTellsSpec)

/-- ITS FALSE NEIGHBOUR: 'it returns false'. Refute it at one input. -/
def stepTellsWrong : ChangeSpec := { name := "stepTells", fn := fun _ => fun
  | [d1, d2] => { results := [.lit (.bool false)], args := [d1, d2] }
  | _ => none }
def StepTellsWrongFalsely : Prop := stepTellsRow.holds Tryz.pinned (OpenSpec.ofChange stepTellsWrong)

/-- 'seizinlaw21.StepPainted': WHATEVER THE INPUT: true; the input reads as it did. -/
def stepPaintedSpec : ChangeSpec := { name := "stepPainted", fn := fun _ => fun
  | [d1, d2] => { results := [.lit (.bool true)], args := [d1, d2] }
  | _ => none }
def stepPaintedRow : OpenClaim := { program := "ytfphgpamccbkaaagreat", sum := "3e2d8eef982ffc458c45123147194d9028e9b9f13fec2bc728ae50cad02c21e2", func := "seizin/seizinlaw21.StepPainted", spec := "stepPainted", unfollowed := true, recurses := true, apart := false }
def StepPaintedSaid : Prop := stepPaintedRow.holds Tryz.pinned (OpenSpec.ofChange stepPaintedSpec)

/-- ITS FALSE NEIGHBOUR: 'it returns false'. Refute it at one input. -/
def stepPaintedWrong : ChangeSpec := { name := "stepPainted", fn := fun _ => fun
  | [d1, d2] => { results := [.lit (.bool false)], args := [d1, d2] }
  | _ => none }
def StepPaintedWrongFalsely : Prop := stepPaintedRow.holds Tryz.pinned (OpenSpec.ofChange stepPaintedWrong)

/-- 'seizinlaw21.StepClosed': WHATEVER THE INPUT: true; the input reads as it did. -/
def stepClosedSpec : ChangeSpec := { name := "stepClosed", fn := fun _ => fun
  | [d1, d2] => { results := [.lit (.bool true)], args := [d1, d2] }
  | _ => none }
def stepClosedRow : OpenClaim := { program := "ytfphgpamccbkaaagreat", sum := "3e2d8eef982ffc458c45123147194d9028e9b9f13fec2bc728ae50cad02c21e2", func := "seizin/seizinlaw21.StepClosed", spec := "stepClosed", unfollowed := true, recurses := true, apart := false }
def StepClosedSaid : Prop := stepClosedRow.holds Tryz.pinned (OpenSpec.ofChange stepClosedSpec)

/-- ITS FALSE NEIGHBOUR: 'it returns false'. Refute it at one input. -/
def stepClosedWrong : ChangeSpec := { name := "stepClosed", fn := fun _ => fun
  | [d1, d2] => { results := [.lit (.bool false)], args := [d1, d2] }
  | _ => none }
def StepClosedWrongFalsely : Prop := stepClosedRow.holds Tryz.pinned (OpenSpec.ofChange stepClosedWrong)

/- THE SECOND FORM. 'bulk': how many values and letters a reading holds, each counted each time it is reached (what is shared counts as often as it is met; a slice's spare places count too). A statement '..UptoSaid' is the law's where the arguments, and the package variables that the reading takes, are together of bulk at most 1048576: NARROWER than '..Said'. Prove '..Said' where nothing that the law and all that it calls make is longer than what came in: it says more and counts as full. Else prove '..UptoSaid'. A law counts once. -/
mutual
def uptoBulk {H : Type} : DataW H → Nat
  | .lit (.string bytes) => bytes.length + 1
  | .lit _ => 1
  | .nil => 1
  | .ptr d => uptoBulk d + 1
  | .slice elems spare => uptoBulkAll elems + uptoBulkAll spare + 1
  | .agg parts => uptoBulkAll parts + 1
  | .iface _ d => uptoBulk d + 1
  | .map entries => uptoBulkEntries entries + 1
  | .held _ => 1
def uptoBulkAll {H : Type} : List (DataW H) → Nat
  | [] => 0
  | d :: r => uptoBulk d + uptoBulkAll r
def uptoBulkEntries {H : Type} : List (Lit × DataW H) → Nat
  | [] => 0
  | x :: r => uptoBulkEntry x + uptoBulkEntries r
def uptoBulkEntry {H : Type} : Lit × DataW H → Nat
  | (.string bytes, d) => bytes.length + uptoBulk d + 1
  | (_, d) => uptoBulk d + 1
 end
def uptoSmall : (H : Type) → List (DataW H) → Bool := fun _ ds => decide (uptoBulkAll ds ≤ 1048576)
def OpenSpec.upto (s : _root_.Go.ChangeSpec) : _root_.Go.OpenSpec := { _root_.Go.OpenSpec.ofChange s with cond := some uptoSmall }

/-- 'seizinlaw21.StepNumbers', WHERE WHAT IT READS IS OF BULK AT MOST 1048576: true; the input reads as it did. -/
def stepNumbersUptoRow : OpenClaim := { program := "ytfphgpamccbkaaagreat", sum := "3e2d8eef982ffc458c45123147194d9028e9b9f13fec2bc728ae50cad02c21e2", func := "seizin/seizinlaw21.StepNumbers", spec := "stepNumbers", unfollowed := true, recurses := true, apart := false, narrowed := true }
def StepNumbersUptoSaid : Prop := stepNumbersUptoRow.holds Tryz.pinned (OpenSpec.upto stepNumbersSpec)

/-- 'seizinlaw21.StepStores', WHERE WHAT IT READS IS OF BULK AT MOST 1048576: true; the input reads as it did. -/
def stepStoresUptoRow : OpenClaim := { program := "ytfphgpamccbkaaagreat", sum := "3e2d8eef982ffc458c45123147194d9028e9b9f13fec2bc728ae50cad02c21e2", func := "seizin/seizinlaw21.StepStores", spec := "stepStores", unfollowed := true, recurses := true, apart := false, narrowed := true }
def StepStoresUptoSaid : Prop := stepStoresUptoRow.holds Tryz.pinned (OpenSpec.upto stepStoresSpec)

/-- 'seizinlaw21.StepSealed', WHERE WHAT IT READS IS OF BULK AT MOST 1048576: true; the input reads as it did. -/
def stepSealedUptoRow : OpenClaim := { program := "ytfphgpamccbkaaagreat", sum := "3e2d8eef982ffc458c45123147194d9028e9b9f13fec2bc728ae50cad02c21e2", func := "seizin/seizinlaw21.StepSealed", spec := "stepSealed", unfollowed := true, recurses := true, apart := false, narrowed := true }
def StepSealedUptoSaid : Prop := stepSealedUptoRow.holds Tryz.pinned (OpenSpec.upto stepSealedSpec)

/-- 'seizinlaw21.StepCalls', WHERE WHAT IT READS IS OF BULK AT MOST 1048576: true; the input reads as it did. -/
def stepCallsUptoRow : OpenClaim := { program := "ytfphgpamccbkaaagreat", sum := "3e2d8eef982ffc458c45123147194d9028e9b9f13fec2bc728ae50cad02c21e2", func := "seizin/seizinlaw21.StepCalls", spec := "stepCalls", unfollowed := true, recurses := true, apart := false, narrowed := true }
def StepCallsUptoSaid : Prop := stepCallsUptoRow.holds Tryz.pinned (OpenSpec.upto stepCallsSpec)

/-- 'seizinlaw21.StepRefuses', WHERE WHAT IT READS IS OF BULK AT MOST 1048576: true; the input reads as it did. -/
def stepRefusesUptoRow : OpenClaim := { program := "ytfphgpamccbkaaagreat", sum := "3e2d8eef982ffc458c45123147194d9028e9b9f13fec2bc728ae50cad02c21e2", func := "seizin/seizinlaw21.StepRefuses", spec := "stepRefuses", unfollowed := true, recurses := true, apart := false, narrowed := true }
def StepRefusesUptoSaid : Prop := stepRefusesUptoRow.holds Tryz.pinned (OpenSpec.upto stepRefusesSpec)

/-- 'seizinlaw21.StepTraps', WHERE WHAT IT READS IS OF BULK AT MOST 1048576: true; the input reads as it did. -/
def stepTrapsUptoRow : OpenClaim := { program := "ytfphgpamccbkaaagreat", sum := "3e2d8eef982ffc458c45123147194d9028e9b9f13fec2bc728ae50cad02c21e2", func := "seizin/seizinlaw21.StepTraps", spec := "stepTraps", unfollowed := true, recurses := true, apart := false, narrowed := true }
def StepTrapsUptoSaid : Prop := stepTrapsUptoRow.holds Tryz.pinned (OpenSpec.upto stepTrapsSpec)

/-- 'seizinlaw21.StepTells', WHERE WHAT IT READS IS OF BULK AT MOST 1048576: true; the input reads as it did. -/
def stepTellsUptoRow : OpenClaim := { program := "ytfphgpamccbkaaagreat", sum := "3e2d8eef982ffc458c45123147194d9028e9b9f13fec2bc728ae50cad02c21e2", func := "seizin/seizinlaw21.StepTells", spec := "stepTells", unfollowed := true, recurses := true, apart := false, narrowed := true }
def StepTellsUptoSaid : Prop := stepTellsUptoRow.holds Tryz.pinned (OpenSpec.upto stepTellsSpec)

/-- 'seizinlaw21.StepPainted', WHERE WHAT IT READS IS OF BULK AT MOST 1048576: true; the input reads as it did. -/
def stepPaintedUptoRow : OpenClaim := { program := "ytfphgpamccbkaaagreat", sum := "3e2d8eef982ffc458c45123147194d9028e9b9f13fec2bc728ae50cad02c21e2", func := "seizin/seizinlaw21.StepPainted", spec := "stepPainted", unfollowed := true, recurses := true, apart := false, narrowed := true }
def StepPaintedUptoSaid : Prop := stepPaintedUptoRow.holds Tryz.pinned (OpenSpec.upto stepPaintedSpec)

/-- 'seizinlaw21.StepClosed', WHERE WHAT IT READS IS OF BULK AT MOST 1048576: true; the input reads as it did. -/
def stepClosedUptoRow : OpenClaim := { program := "ytfphgpamccbkaaagreat", sum := "3e2d8eef982ffc458c45123147194d9028e9b9f13fec2bc728ae50cad02c21e2", func := "seizin/seizinlaw21.StepClosed", spec := "stepClosed", unfollowed := true, recurses := true, apart := false, narrowed := true }
def StepClosedUptoSaid : Prop := stepClosedUptoRow.holds Tryz.pinned (OpenSpec.upto stepClosedSpec)

end Rows
end Go.Proofs.YtfphgpamccbkaaaGreat
