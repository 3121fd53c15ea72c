/-
  No cell of these rows narrows 'for every input' (looked for: loops, veiled, ifaces, maps, wideKeys, modest, calm, conditions, laid).
  DERIVED. THE GIVEN ROWS OF THIS SEAT. 9 by the template 'for every input the law returns true; each argument reads behind the call as it read before'; 0 by the template 'total and deterministic' (their statements: YtidfgdchcpmnfaaGreatTotals.lean).
  GIVEN WITH THE SEED: the statements are not yours to turn. If you find one false, say at which input.
  Laid BY PROGRAM, IN A SANDBOX (cutbox-rows.mjs): the forced cells as the released guide's own fill.sh prints them over the translation 7950b0374f3aff0f… (all of the seat's roots in one cut). By AI agents, Wed Nov 11 2026. No macro, syntax, notation, axiom, sorry.
-/
import Derived.Test.YtidfgdchcpmnfaaGreatChecked
import GoSem.Claim
import GoSem.ClaimJoined
import GoSem.ClaimMapViews
import Derived.JoinedTies
import Derived.KernelRfl
namespace Go.Proofs.YtidfgdchcpmnfaaGreat
/- THE CELL 'sum', in the pinned program and in every row, IS THE sha256 OF THE DUMP (.gsa) THAT YtidfgdchcpmnfaaGreatProg.lean LOADS. Nothing in Lean hashes anything: it is a label: what it is worth is what the hold of that sum in a sandbox is worth. -/
noncomputable def Tryz.pinned : Pinned := { name := "ytidfgdchcpmnfaagreat", sum := "7950b0374f3aff0f8965b6f50b0e561dedde5c9b811cc1094729fbd3712a5e19", checked := Tryz.checked }
namespace Rows
def none {H : Type} : Left H := { results := [], args := [] }

/-- 'fiduciallaw08.RotationOfMatrices': WHATEVER THE INPUT: true; the input reads as it did. -/
def rotationOfMatricesSpec : ChangeSpec := { name := "rotationOfMatrices", fn := fun _ => fun
  | [d] => { results := [.lit (.bool true)], args := [d] }
  | _ => none }
def rotationOfMatricesRow : OpenClaim := { program := "ytidfgdchcpmnfaagreat", sum := "7950b0374f3aff0f8965b6f50b0e561dedde5c9b811cc1094729fbd3712a5e19", func := "fiducial/fiduciallaw08.RotationOfMatrices", spec := "rotationOfMatrices", unfollowed := true, recurses := true, apart := false }
def RotationOfMatricesSaid : Prop := rotationOfMatricesRow.holds Tryz.pinned (OpenSpec.ofChange rotationOfMatricesSpec)

/-- ITS FALSE NEIGHBOUR: 'it returns false'. Refute it at one input. -/
def rotationOfMatricesWrong : ChangeSpec := { name := "rotationOfMatrices", fn := fun _ => fun
  | [d] => { results := [.lit (.bool false)], args := [d] }
  | _ => none }
def RotationOfMatricesWrongFalsely : Prop := rotationOfMatricesRow.holds Tryz.pinned (OpenSpec.ofChange rotationOfMatricesWrong)

/-- 'fiduciallaw08.RotationBack': WHATEVER THE INPUT: true; the input reads as it did. -/
def rotationBackSpec : ChangeSpec := { name := "rotationBack", fn := fun _ => fun
  | [d] => { results := [.lit (.bool true)], args := [d] }
  | _ => none }
def rotationBackRow : OpenClaim := { program := "ytidfgdchcpmnfaagreat", sum := "7950b0374f3aff0f8965b6f50b0e561dedde5c9b811cc1094729fbd3712a5e19", func := "fiducial/fiduciallaw08.RotationBack", spec := "rotationBack", unfollowed := true, recurses := true, apart := false }
def RotationBackSaid : Prop := rotationBackRow.holds Tryz.pinned (OpenSpec.ofChange rotationBackSpec)

/-- ITS FALSE NEIGHBOUR: 'it returns false'. Refute it at one input. -/
def rotationBackWrong : ChangeSpec := { name := "rotationBack", fn := fun _ => fun
  | [d] => { results := [.lit (.bool false)], args := [d] }
  | _ => none }
def RotationBackWrongFalsely : Prop := rotationBackRow.holds Tryz.pinned (OpenSpec.ofChange rotationBackWrong)

/-- 'fiduciallaw08.RotationChords': WHATEVER THE INPUT: true; the input reads as it did. -/
def rotationChordsSpec : ChangeSpec := { name := "rotationChords", fn := fun _ => fun
  | [d1, d2, d3] => { results := [.lit (.bool true)], args := [d1, d2, d3] }
  | _ => none }
def rotationChordsRow : OpenClaim := { program := "ytidfgdchcpmnfaagreat", sum := "7950b0374f3aff0f8965b6f50b0e561dedde5c9b811cc1094729fbd3712a5e19", func := "fiducial/fiduciallaw08.RotationChords", spec := "rotationChords", unfollowed := true, recurses := true, apart := false }
def RotationChordsSaid : Prop := rotationChordsRow.holds Tryz.pinned (OpenSpec.ofChange rotationChordsSpec)

/-- ITS FALSE NEIGHBOUR: 'it returns false'. Refute it at one input. -/
def rotationChordsWrong : ChangeSpec := { name := "rotationChords", fn := fun _ => fun
  | [d1, d2, d3] => { results := [.lit (.bool false)], args := [d1, d2, d3] }
  | _ => none }
def RotationChordsWrongFalsely : Prop := rotationChordsRow.holds Tryz.pinned (OpenSpec.ofChange rotationChordsWrong)

/-- 'fiduciallaw08.RotationForms': WHATEVER THE INPUT: true; the input reads as it did. -/
def rotationFormsSpec : ChangeSpec := { name := "rotationForms", fn := fun _ => fun
  | [d1, d2] => { results := [.lit (.bool true)], args := [d1, d2] }
  | _ => none }
def rotationFormsRow : OpenClaim := { program := "ytidfgdchcpmnfaagreat", sum := "7950b0374f3aff0f8965b6f50b0e561dedde5c9b811cc1094729fbd3712a5e19", func := "fiducial/fiduciallaw08.RotationForms", spec := "rotationForms", unfollowed := true, recurses := true, apart := false }
def RotationFormsSaid : Prop := rotationFormsRow.holds Tryz.pinned (OpenSpec.ofChange rotationFormsSpec)

/-- ITS FALSE NEIGHBOUR: 'it returns false'. Refute it at one input. -/
def rotationFormsWrong : ChangeSpec := { name := "rotationForms", fn := fun _ => fun
  | [d1, d2] => { results := [.lit (.bool false)], args := [d1, d2] }
  | _ => none }
def RotationFormsWrongFalsely : Prop := rotationFormsRow.holds Tryz.pinned (OpenSpec.ofChange rotationFormsWrong)

/-- 'fiduciallaw08.RotationProducts': WHATEVER THE INPUT: true; the input reads as it did. -/
def rotationProductsSpec : ChangeSpec := { name := "rotationProducts", fn := fun _ => fun
  | [d1, d2] => { results := [.lit (.bool true)], args := [d1, d2] }
  | _ => none }
def rotationProductsRow : OpenClaim := { program := "ytidfgdchcpmnfaagreat", sum := "7950b0374f3aff0f8965b6f50b0e561dedde5c9b811cc1094729fbd3712a5e19", func := "fiducial/fiduciallaw08.RotationProducts", spec := "rotationProducts", unfollowed := true, recurses := true, apart := false }
def RotationProductsSaid : Prop := rotationProductsRow.holds Tryz.pinned (OpenSpec.ofChange rotationProductsSpec)

/-- ITS FALSE NEIGHBOUR: 'it returns false'. Refute it at one input. -/
def rotationProductsWrong : ChangeSpec := { name := "rotationProducts", fn := fun _ => fun
  | [d1, d2] => { results := [.lit (.bool false)], args := [d1, d2] }
  | _ => none }
def RotationProductsWrongFalsely : Prop := rotationProductsRow.holds Tryz.pinned (OpenSpec.ofChange rotationProductsWrong)

/-- 'fiduciallaw08.RotationMatrices': WHATEVER THE INPUT: true; the input reads as it did. -/
def rotationMatricesSpec : ChangeSpec := { name := "rotationMatrices", fn := fun _ => fun
  | [d1, d2] => { results := [.lit (.bool true)], args := [d1, d2] }
  | _ => none }
def rotationMatricesRow : OpenClaim := { program := "ytidfgdchcpmnfaagreat", sum := "7950b0374f3aff0f8965b6f50b0e561dedde5c9b811cc1094729fbd3712a5e19", func := "fiducial/fiduciallaw08.RotationMatrices", spec := "rotationMatrices", unfollowed := true, recurses := true, apart := false }
def RotationMatricesSaid : Prop := rotationMatricesRow.holds Tryz.pinned (OpenSpec.ofChange rotationMatricesSpec)

/-- ITS FALSE NEIGHBOUR: 'it returns false'. Refute it at one input. -/
def rotationMatricesWrong : ChangeSpec := { name := "rotationMatrices", fn := fun _ => fun
  | [d1, d2] => { results := [.lit (.bool false)], args := [d1, d2] }
  | _ => none }
def RotationMatricesWrongFalsely : Prop := rotationMatricesRow.holds Tryz.pinned (OpenSpec.ofChange rotationMatricesWrong)

/-- 'fiduciallaw08.RotationCayley': WHATEVER THE INPUT: true; the input reads as it did. -/
def rotationCayleySpec : ChangeSpec := { name := "rotationCayley", fn := fun _ => fun
  | [d1, d2, d3] => { results := [.lit (.bool true)], args := [d1, d2, d3] }
  | _ => none }
def rotationCayleyRow : OpenClaim := { program := "ytidfgdchcpmnfaagreat", sum := "7950b0374f3aff0f8965b6f50b0e561dedde5c9b811cc1094729fbd3712a5e19", func := "fiducial/fiduciallaw08.RotationCayley", spec := "rotationCayley", unfollowed := true, recurses := true, apart := false }
def RotationCayleySaid : Prop := rotationCayleyRow.holds Tryz.pinned (OpenSpec.ofChange rotationCayleySpec)

/-- ITS FALSE NEIGHBOUR: 'it returns false'. Refute it at one input. -/
def rotationCayleyWrong : ChangeSpec := { name := "rotationCayley", fn := fun _ => fun
  | [d1, d2, d3] => { results := [.lit (.bool false)], args := [d1, d2, d3] }
  | _ => none }
def RotationCayleyWrongFalsely : Prop := rotationCayleyRow.holds Tryz.pinned (OpenSpec.ofChange rotationCayleyWrong)

/-- 'fiduciallaw08.RotationApplies': WHATEVER THE INPUT: true; the input reads as it did. -/
def rotationAppliesSpec : ChangeSpec := { name := "rotationApplies", fn := fun _ => fun
  | [d1, d2] => { results := [.lit (.bool true)], args := [d1, d2] }
  | _ => none }
def rotationAppliesRow : OpenClaim := { program := "ytidfgdchcpmnfaagreat", sum := "7950b0374f3aff0f8965b6f50b0e561dedde5c9b811cc1094729fbd3712a5e19", func := "fiducial/fiduciallaw08.RotationApplies", spec := "rotationApplies", unfollowed := true, recurses := true, apart := false }
def RotationAppliesSaid : Prop := rotationAppliesRow.holds Tryz.pinned (OpenSpec.ofChange rotationAppliesSpec)

/-- ITS FALSE NEIGHBOUR: 'it returns false'. Refute it at one input. -/
def rotationAppliesWrong : ChangeSpec := { name := "rotationApplies", fn := fun _ => fun
  | [d1, d2] => { results := [.lit (.bool false)], args := [d1, d2] }
  | _ => none }
def RotationAppliesWrongFalsely : Prop := rotationAppliesRow.holds Tryz.pinned (OpenSpec.ofChange rotationAppliesWrong)

/-- 'fiduciallaw08.RotationRounds': WHATEVER THE INPUT: true; the input reads as it did. -/
def rotationRoundsSpec : ChangeSpec := { name := "rotationRounds", fn := fun _ => fun
  | [d1, d2, d3] => { results := [.lit (.bool true)], args := [d1, d2, d3] }
  | _ => none }
def rotationRoundsRow : OpenClaim := { program := "ytidfgdchcpmnfaagreat", sum := "7950b0374f3aff0f8965b6f50b0e561dedde5c9b811cc1094729fbd3712a5e19", func := "fiducial/fiduciallaw08.RotationRounds", spec := "rotationRounds", unfollowed := true, recurses := true, apart := false }
def RotationRoundsSaid : Prop := rotationRoundsRow.holds Tryz.pinned (OpenSpec.ofChange rotationRoundsSpec)

/-- ITS FALSE NEIGHBOUR: 'it returns false'. Refute it at one input. -/
def rotationRoundsWrong : ChangeSpec := { name := "rotationRounds", fn := fun _ => fun
  | [d1, d2, d3] => { results := [.lit (.bool false)], args := [d1, d2, d3] }
  | _ => none }
def RotationRoundsWrongFalsely : Prop := rotationRoundsRow.holds Tryz.pinned (OpenSpec.ofChange rotationRoundsWrong)

/- THE SECOND FORM. 'bulk': how many values and letters a reading holds, each counted each time it is reached (what is shared counts as often as it is met; a slice's spare places count too). A statement '..UptoSaid' is the law's where the arguments, and the package variables that the reading takes, are together of bulk at most 1048576: NARROWER than '..Said'. Prove '..Said' where nothing that the law and all that it calls make is longer than what came in: it says more and counts as full. Else prove '..UptoSaid'. A law counts once. -/
mutual
def uptoBulk {H : Type} : DataW H → Nat
  | .lit (.string bytes) => bytes.length + 1
  | .lit _ => 1
  | .nil => 1
  | .ptr d => uptoBulk d + 1
  | .slice elems spare => uptoBulkAll elems + uptoBulkAll spare + 1
  | .agg parts => uptoBulkAll parts + 1
  | .iface _ d => uptoBulk d + 1
  | .map entries => uptoBulkEntries entries + 1
  | .held _ => 1
def uptoBulkAll {H : Type} : List (DataW H) → Nat
  | [] => 0
  | d :: r => uptoBulk d + uptoBulkAll r
def uptoBulkEntries {H : Type} : List (Lit × DataW H) → Nat
  | [] => 0
  | x :: r => uptoBulkEntry x + uptoBulkEntries r
def uptoBulkEntry {H : Type} : Lit × DataW H → Nat
  | (.string bytes, d) => bytes.length + uptoBulk d + 1
  | (_, d) => uptoBulk d + 1
 end
def uptoSmall : (H : Type) → List (DataW H) → Bool := fun _ ds => decide (uptoBulkAll ds ≤ 1048576)
def OpenSpec.upto (s : _root_.Go.ChangeSpec) : _root_.Go.OpenSpec := { _root_.Go.OpenSpec.ofChange s with cond := some uptoSmall }

/-- 'fiduciallaw08.RotationOfMatrices', WHERE WHAT IT READS IS OF BULK AT MOST 1048576: true; the input reads as it did. -/
def rotationOfMatricesUptoRow : OpenClaim := { program := "ytidfgdchcpmnfaagreat", sum := "7950b0374f3aff0f8965b6f50b0e561dedde5c9b811cc1094729fbd3712a5e19", func := "fiducial/fiduciallaw08.RotationOfMatrices", spec := "rotationOfMatrices", unfollowed := true, recurses := true, apart := false, narrowed := true }
def RotationOfMatricesUptoSaid : Prop := rotationOfMatricesUptoRow.holds Tryz.pinned (OpenSpec.upto rotationOfMatricesSpec)

/-- 'fiduciallaw08.RotationBack', WHERE WHAT IT READS IS OF BULK AT MOST 1048576: true; the input reads as it did. -/
def rotationBackUptoRow : OpenClaim := { program := "ytidfgdchcpmnfaagreat", sum := "7950b0374f3aff0f8965b6f50b0e561dedde5c9b811cc1094729fbd3712a5e19", func := "fiducial/fiduciallaw08.RotationBack", spec := "rotationBack", unfollowed := true, recurses := true, apart := false, narrowed := true }
def RotationBackUptoSaid : Prop := rotationBackUptoRow.holds Tryz.pinned (OpenSpec.upto rotationBackSpec)

/-- 'fiduciallaw08.RotationChords', WHERE WHAT IT READS IS OF BULK AT MOST 1048576: true; the input reads as it did. -/
def rotationChordsUptoRow : OpenClaim := { program := "ytidfgdchcpmnfaagreat", sum := "7950b0374f3aff0f8965b6f50b0e561dedde5c9b811cc1094729fbd3712a5e19", func := "fiducial/fiduciallaw08.RotationChords", spec := "rotationChords", unfollowed := true, recurses := true, apart := false, narrowed := true }
def RotationChordsUptoSaid : Prop := rotationChordsUptoRow.holds Tryz.pinned (OpenSpec.upto rotationChordsSpec)

/-- 'fiduciallaw08.RotationForms', WHERE WHAT IT READS IS OF BULK AT MOST 1048576: true; the input reads as it did. -/
def rotationFormsUptoRow : OpenClaim := { program := "ytidfgdchcpmnfaagreat", sum := "7950b0374f3aff0f8965b6f50b0e561dedde5c9b811cc1094729fbd3712a5e19", func := "fiducial/fiduciallaw08.RotationForms", spec := "rotationForms", unfollowed := true, recurses := true, apart := false, narrowed := true }
def RotationFormsUptoSaid : Prop := rotationFormsUptoRow.holds Tryz.pinned (OpenSpec.upto rotationFormsSpec)

/-- 'fiduciallaw08.RotationProducts', WHERE WHAT IT READS IS OF BULK AT MOST 1048576: true; the input reads as it did. -/
def rotationProductsUptoRow : OpenClaim := { program := "ytidfgdchcpmnfaagreat", sum := "7950b0374f3aff0f8965b6f50b0e561dedde5c9b811cc1094729fbd3712a5e19", func := "fiducial/fiduciallaw08.RotationProducts", spec := "rotationProducts", unfollowed := true, recurses := true, apart := false, narrowed := true }
def RotationProductsUptoSaid : Prop := rotationProductsUptoRow.holds Tryz.pinned (OpenSpec.upto rotationProductsSpec)

/-- 'fiduciallaw08.RotationMatrices', WHERE WHAT IT READS IS OF BULK AT MOST 1048576: true; the input reads as it did. -/
def rotationMatricesUptoRow : OpenClaim := { program := "ytidfgdchcpmnfaagreat", sum := "7950b0374f3aff0f8965b6f50b0e561dedde5c9b811cc1094729fbd3712a5e19", func := "fiducial/fiduciallaw08.RotationMatrices", spec := "rotationMatrices", unfollowed := true, recurses := true, apart := false, narrowed := true }
def RotationMatricesUptoSaid : Prop := rotationMatricesUptoRow.holds Tryz.pinned (OpenSpec.upto rotationMatricesSpec)

/-- 'fiduciallaw08.RotationCayley', WHERE WHAT IT READS IS OF BULK AT MOST 1048576: true; the input reads as it did. -/
def rotationCayleyUptoRow : OpenClaim := { program := "ytidfgdchcpmnfaagreat", sum := "7950b0374f3aff0f8965b6f50b0e561dedde5c9b811cc1094729fbd3712a5e19", func := "fiducial/fiduciallaw08.RotationCayley", spec := "rotationCayley", unfollowed := true, recurses := true, apart := false, narrowed := true }
def RotationCayleyUptoSaid : Prop := rotationCayleyUptoRow.holds Tryz.pinned (OpenSpec.upto rotationCayleySpec)

/-- 'fiduciallaw08.RotationApplies', WHERE WHAT IT READS IS OF BULK AT MOST 1048576: true; the input reads as it did. -/
def rotationAppliesUptoRow : OpenClaim := { program := "ytidfgdchcpmnfaagreat", sum := "7950b0374f3aff0f8965b6f50b0e561dedde5c9b811cc1094729fbd3712a5e19", func := "fiducial/fiduciallaw08.RotationApplies", spec := "rotationApplies", unfollowed := true, recurses := true, apart := false, narrowed := true }
def RotationAppliesUptoSaid : Prop := rotationAppliesUptoRow.holds Tryz.pinned (OpenSpec.upto rotationAppliesSpec)

/-- 'fiduciallaw08.RotationRounds', WHERE WHAT IT READS IS OF BULK AT MOST 1048576: true; the input reads as it did. -/
def rotationRoundsUptoRow : OpenClaim := { program := "ytidfgdchcpmnfaagreat", sum := "7950b0374f3aff0f8965b6f50b0e561dedde5c9b811cc1094729fbd3712a5e19", func := "fiducial/fiduciallaw08.RotationRounds", spec := "rotationRounds", unfollowed := true, recurses := true, apart := false, narrowed := true }
def RotationRoundsUptoSaid : Prop := rotationRoundsUptoRow.holds Tryz.pinned (OpenSpec.upto rotationRoundsSpec)

end Rows
end Go.Proofs.YtidfgdchcpmnfaaGreat
