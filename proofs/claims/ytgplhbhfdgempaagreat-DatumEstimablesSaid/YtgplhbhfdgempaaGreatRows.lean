/-
  No cell of these rows narrows 'for every input' (looked for: loops, veiled, ifaces, maps, wideKeys, modest, calm, conditions, laid).
  DERIVED. THE GIVEN ROWS OF THIS SEAT. 6 by the template 'for every input the law returns true; each argument reads behind the call as it read before'; 0 by the template 'total and deterministic' (their statements: YtgplhbhfdgempaaGreatTotals.lean).
  GIVEN WITH THE SEED: the statements are not yours to turn. If you find one false, say at which input.
  Laid BY PROGRAM, IN A SANDBOX (cutbox-rows.mjs): the forced cells as the released guide's own fill.sh prints them over the translation ed1d710e4eb73c6c… (all of the seat's roots in one cut). By AI agents, Wed Nov 11 2026. No macro, syntax, notation, axiom, sorry.
-/
import Derived.Test.YtgplhbhfdgempaaGreatChecked
import GoSem.Claim
import GoSem.ClaimJoined
import GoSem.ClaimMapViews
import Derived.JoinedTies
import Derived.KernelRfl
namespace Go.Proofs.YtgplhbhfdgempaaGreat
/- THE CELL 'sum', in the pinned program and in every row, IS THE sha256 OF THE DUMP (.gsa) THAT YtgplhbhfdgempaaGreatProg.lean LOADS. Nothing in Lean hashes anything: it is a label: what it is worth is what the hold of that sum in a sandbox is worth. -/
noncomputable def Tryz.pinned : Pinned := { name := "ytgplhbhfdgempaagreat", sum := "ed1d710e4eb73c6cfc60d8f74acd69757579fe62fe53dac0586407b1e88e3c08", checked := Tryz.checked }
namespace Rows
def none {H : Type} : Left H := { results := [], args := [] }

/-- 'fiduciallaw35.DatumNulls': WHATEVER THE INPUT: true; the input reads as it did. -/
def datumNullsSpec : ChangeSpec := { name := "datumNulls", fn := fun _ => fun
  | [d] => { results := [.lit (.bool true)], args := [d] }
  | _ => none }
def datumNullsRow : OpenClaim := { program := "ytgplhbhfdgempaagreat", sum := "ed1d710e4eb73c6cfc60d8f74acd69757579fe62fe53dac0586407b1e88e3c08", func := "fiducial/fiduciallaw35.DatumNulls", spec := "datumNulls", unfollowed := true, recurses := true, apart := false }
def DatumNullsSaid : Prop := datumNullsRow.holds Tryz.pinned (OpenSpec.ofChange datumNullsSpec)

/-- ITS FALSE NEIGHBOUR: 'it returns false'. Refute it at one input. -/
def datumNullsWrong : ChangeSpec := { name := "datumNulls", fn := fun _ => fun
  | [d] => { results := [.lit (.bool false)], args := [d] }
  | _ => none }
def DatumNullsWrongFalsely : Prop := datumNullsRow.holds Tryz.pinned (OpenSpec.ofChange datumNullsWrong)

/-- 'fiduciallaw35.DatumSolves': WHATEVER THE INPUT: true; the input reads as it did. -/
def datumSolvesSpec : ChangeSpec := { name := "datumSolves", fn := fun _ => fun
  | [d1, d2, d3] => { results := [.lit (.bool true)], args := [d1, d2, d3] }
  | _ => none }
def datumSolvesRow : OpenClaim := { program := "ytgplhbhfdgempaagreat", sum := "ed1d710e4eb73c6cfc60d8f74acd69757579fe62fe53dac0586407b1e88e3c08", func := "fiducial/fiduciallaw35.DatumSolves", spec := "datumSolves", unfollowed := true, recurses := true, apart := false }
def DatumSolvesSaid : Prop := datumSolvesRow.holds Tryz.pinned (OpenSpec.ofChange datumSolvesSpec)

/-- ITS FALSE NEIGHBOUR: 'it returns false'. Refute it at one input. -/
def datumSolvesWrong : ChangeSpec := { name := "datumSolves", fn := fun _ => fun
  | [d1, d2, d3] => { results := [.lit (.bool false)], args := [d1, d2, d3] }
  | _ => none }
def DatumSolvesWrongFalsely : Prop := datumSolvesRow.holds Tryz.pinned (OpenSpec.ofChange datumSolvesWrong)

/-- 'fiduciallaw35.DatumCofactors': WHATEVER THE INPUT: true; the input reads as it did. -/
def datumCofactorsSpec : ChangeSpec := { name := "datumCofactors", fn := fun _ => fun
  | [d1, d2] => { results := [.lit (.bool true)], args := [d1, d2] }
  | _ => none }
def datumCofactorsRow : OpenClaim := { program := "ytgplhbhfdgempaagreat", sum := "ed1d710e4eb73c6cfc60d8f74acd69757579fe62fe53dac0586407b1e88e3c08", func := "fiducial/fiduciallaw35.DatumCofactors", spec := "datumCofactors", unfollowed := true, recurses := true, apart := false }
def DatumCofactorsSaid : Prop := datumCofactorsRow.holds Tryz.pinned (OpenSpec.ofChange datumCofactorsSpec)

/-- ITS FALSE NEIGHBOUR: 'it returns false'. Refute it at one input. -/
def datumCofactorsWrong : ChangeSpec := { name := "datumCofactors", fn := fun _ => fun
  | [d1, d2] => { results := [.lit (.bool false)], args := [d1, d2] }
  | _ => none }
def DatumCofactorsWrongFalsely : Prop := datumCofactorsRow.holds Tryz.pinned (OpenSpec.ofChange datumCofactorsWrong)

/-- 'fiduciallaw35.DatumEstimables': WHATEVER THE INPUT: true; the input reads as it did. -/
def datumEstimablesSpec : ChangeSpec := { name := "datumEstimables", fn := fun _ => fun
  | [d1, d2, d3] => { results := [.lit (.bool true)], args := [d1, d2, d3] }
  | _ => none }
def datumEstimablesRow : OpenClaim := { program := "ytgplhbhfdgempaagreat", sum := "ed1d710e4eb73c6cfc60d8f74acd69757579fe62fe53dac0586407b1e88e3c08", func := "fiducial/fiduciallaw35.DatumEstimables", spec := "datumEstimables", unfollowed := true, recurses := true, apart := false }
def DatumEstimablesSaid : Prop := datumEstimablesRow.holds Tryz.pinned (OpenSpec.ofChange datumEstimablesSpec)

/-- ITS FALSE NEIGHBOUR: 'it returns false'. Refute it at one input. -/
def datumEstimablesWrong : ChangeSpec := { name := "datumEstimables", fn := fun _ => fun
  | [d1, d2, d3] => { results := [.lit (.bool false)], args := [d1, d2, d3] }
  | _ => none }
def DatumEstimablesWrongFalsely : Prop := datumEstimablesRow.holds Tryz.pinned (OpenSpec.ofChange datumEstimablesWrong)

/-- 'fiduciallaw35.DatumTransforms': WHATEVER THE INPUT: true; the input reads as it did. -/
def datumTransformsSpec : ChangeSpec := { name := "datumTransforms", fn := fun _ => fun
  | [d1, d2, d3] => { results := [.lit (.bool true)], args := [d1, d2, d3] }
  | _ => none }
def datumTransformsRow : OpenClaim := { program := "ytgplhbhfdgempaagreat", sum := "ed1d710e4eb73c6cfc60d8f74acd69757579fe62fe53dac0586407b1e88e3c08", func := "fiducial/fiduciallaw35.DatumTransforms", spec := "datumTransforms", unfollowed := true, recurses := true, apart := false }
def DatumTransformsSaid : Prop := datumTransformsRow.holds Tryz.pinned (OpenSpec.ofChange datumTransformsSpec)

/-- ITS FALSE NEIGHBOUR: 'it returns false'. Refute it at one input. -/
def datumTransformsWrong : ChangeSpec := { name := "datumTransforms", fn := fun _ => fun
  | [d1, d2, d3] => { results := [.lit (.bool false)], args := [d1, d2, d3] }
  | _ => none }
def DatumTransformsWrongFalsely : Prop := datumTransformsRow.holds Tryz.pinned (OpenSpec.ofChange datumTransformsWrong)

/-- 'fiduciallaw35.DatumInner': WHATEVER THE INPUT: true; the input reads as it did. -/
def datumInnerSpec : ChangeSpec := { name := "datumInner", fn := fun _ => fun
  | [d1, d2, d3] => { results := [.lit (.bool true)], args := [d1, d2, d3] }
  | _ => none }
def datumInnerRow : OpenClaim := { program := "ytgplhbhfdgempaagreat", sum := "ed1d710e4eb73c6cfc60d8f74acd69757579fe62fe53dac0586407b1e88e3c08", func := "fiducial/fiduciallaw35.DatumInner", spec := "datumInner", unfollowed := true, recurses := true, apart := false }
def DatumInnerSaid : Prop := datumInnerRow.holds Tryz.pinned (OpenSpec.ofChange datumInnerSpec)

/-- ITS FALSE NEIGHBOUR: 'it returns false'. Refute it at one input. -/
def datumInnerWrong : ChangeSpec := { name := "datumInner", fn := fun _ => fun
  | [d1, d2, d3] => { results := [.lit (.bool false)], args := [d1, d2, d3] }
  | _ => none }
def DatumInnerWrongFalsely : Prop := datumInnerRow.holds Tryz.pinned (OpenSpec.ofChange datumInnerWrong)

/- THE SECOND FORM. 'bulk': how many values and letters a reading holds, each counted each time it is reached (what is shared counts as often as it is met; a slice's spare places count too). A statement '..UptoSaid' is the law's where the arguments, and the package variables that the reading takes, are together of bulk at most 1048576: NARROWER than '..Said'. Prove '..Said' where nothing that the law and all that it calls make is longer than what came in: it says more and counts as full. Else prove '..UptoSaid'. A law counts once. -/
mutual
def uptoBulk {H : Type} : DataW H → Nat
  | .lit (.string bytes) => bytes.length + 1
  | .lit _ => 1
  | .nil => 1
  | .ptr d => uptoBulk d + 1
  | .slice elems spare => uptoBulkAll elems + uptoBulkAll spare + 1
  | .agg parts => uptoBulkAll parts + 1
  | .iface _ d => uptoBulk d + 1
  | .map entries => uptoBulkEntries entries + 1
  | .held _ => 1
def uptoBulkAll {H : Type} : List (DataW H) → Nat
  | [] => 0
  | d :: r => uptoBulk d + uptoBulkAll r
def uptoBulkEntries {H : Type} : List (Lit × DataW H) → Nat
  | [] => 0
  | x :: r => uptoBulkEntry x + uptoBulkEntries r
def uptoBulkEntry {H : Type} : Lit × DataW H → Nat
  | (.string bytes, d) => bytes.length + uptoBulk d + 1
  | (_, d) => uptoBulk d + 1
 end
def uptoSmall : (H : Type) → List (DataW H) → Bool := fun _ ds => decide (uptoBulkAll ds ≤ 1048576)
def OpenSpec.upto (s : _root_.Go.ChangeSpec) : _root_.Go.OpenSpec := { _root_.Go.OpenSpec.ofChange s with cond := some uptoSmall }

/-- 'fiduciallaw35.DatumNulls', WHERE WHAT IT READS IS OF BULK AT MOST 1048576: true; the input reads as it did. -/
def datumNullsUptoRow : OpenClaim := { program := "ytgplhbhfdgempaagreat", sum := "ed1d710e4eb73c6cfc60d8f74acd69757579fe62fe53dac0586407b1e88e3c08", func := "fiducial/fiduciallaw35.DatumNulls", spec := "datumNulls", unfollowed := true, recurses := true, apart := false, narrowed := true }
def DatumNullsUptoSaid : Prop := datumNullsUptoRow.holds Tryz.pinned (OpenSpec.upto datumNullsSpec)

/-- 'fiduciallaw35.DatumSolves', WHERE WHAT IT READS IS OF BULK AT MOST 1048576: true; the input reads as it did. -/
def datumSolvesUptoRow : OpenClaim := { program := "ytgplhbhfdgempaagreat", sum := "ed1d710e4eb73c6cfc60d8f74acd69757579fe62fe53dac0586407b1e88e3c08", func := "fiducial/fiduciallaw35.DatumSolves", spec := "datumSolves", unfollowed := true, recurses := true, apart := false, narrowed := true }
def DatumSolvesUptoSaid : Prop := datumSolvesUptoRow.holds Tryz.pinned (OpenSpec.upto datumSolvesSpec)

/-- 'fiduciallaw35.DatumCofactors', WHERE WHAT IT READS IS OF BULK AT MOST 1048576: true; the input reads as it did. -/
def datumCofactorsUptoRow : OpenClaim := { program := "ytgplhbhfdgempaagreat", sum := "ed1d710e4eb73c6cfc60d8f74acd69757579fe62fe53dac0586407b1e88e3c08", func := "fiducial/fiduciallaw35.DatumCofactors", spec := "datumCofactors", unfollowed := true, recurses := true, apart := false, narrowed := true }
def DatumCofactorsUptoSaid : Prop := datumCofactorsUptoRow.holds Tryz.pinned (OpenSpec.upto datumCofactorsSpec)

/-- 'fiduciallaw35.DatumEstimables', WHERE WHAT IT READS IS OF BULK AT MOST 1048576: true; the input reads as it did. -/
def datumEstimablesUptoRow : OpenClaim := { program := "ytgplhbhfdgempaagreat", sum := "ed1d710e4eb73c6cfc60d8f74acd69757579fe62fe53dac0586407b1e88e3c08", func := "fiducial/fiduciallaw35.DatumEstimables", spec := "datumEstimables", unfollowed := true, recurses := true, apart := false, narrowed := true }
def DatumEstimablesUptoSaid : Prop := datumEstimablesUptoRow.holds Tryz.pinned (OpenSpec.upto datumEstimablesSpec)

/-- 'fiduciallaw35.DatumTransforms', WHERE WHAT IT READS IS OF BULK AT MOST 1048576: true; the input reads as it did. -/
def datumTransformsUptoRow : OpenClaim := { program := "ytgplhbhfdgempaagreat", sum := "ed1d710e4eb73c6cfc60d8f74acd69757579fe62fe53dac0586407b1e88e3c08", func := "fiducial/fiduciallaw35.DatumTransforms", spec := "datumTransforms", unfollowed := true, recurses := true, apart := false, narrowed := true }
def DatumTransformsUptoSaid : Prop := datumTransformsUptoRow.holds Tryz.pinned (OpenSpec.upto datumTransformsSpec)

/-- 'fiduciallaw35.DatumInner', WHERE WHAT IT READS IS OF BULK AT MOST 1048576: true; the input reads as it did. -/
def datumInnerUptoRow : OpenClaim := { program := "ytgplhbhfdgempaagreat", sum := "ed1d710e4eb73c6cfc60d8f74acd69757579fe62fe53dac0586407b1e88e3c08", func := "fiducial/fiduciallaw35.DatumInner", spec := "datumInner", unfollowed := true, recurses := true, apart := false, narrowed := true }
def DatumInnerUptoSaid : Prop := datumInnerUptoRow.holds Tryz.pinned (OpenSpec.upto datumInnerSpec)

end Rows
end Go.Proofs.YtgplhbhfdgempaaGreat
