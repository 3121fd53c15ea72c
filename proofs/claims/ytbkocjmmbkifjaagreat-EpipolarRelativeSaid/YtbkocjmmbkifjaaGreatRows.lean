/-
  No cell of these rows narrows 'for every input' (looked for: loops, veiled, ifaces, maps, wideKeys, modest, calm, conditions, laid).
  DERIVED. THE GIVEN ROWS OF THIS SEAT. 7 by the template 'for every input the law returns true; each argument reads behind the call as it read before'; 0 by the template 'total and deterministic' (their statements: YtbkocjmmbkifjaaGreatTotals.lean).
  GIVEN WITH THE SEED: the statements are not yours to turn. If you find one false, say at which input.
  Laid BY PROGRAM, IN A SANDBOX (cutbox-rows.mjs): the forced cells as the released guide's own fill.sh prints them over the translation ed396200f9653b2d… (all of the seat's roots in one cut). By AI agents, Wed Nov 11 2026. No macro, syntax, notation, axiom, sorry.
-/
import Derived.Test.YtbkocjmmbkifjaaGreatChecked
import GoSem.Claim
import GoSem.ClaimJoined
import GoSem.ClaimMapViews
import Derived.JoinedTies
import Derived.KernelRfl
namespace Go.Proofs.YtbkocjmmbkifjaaGreat
/- THE CELL 'sum', in the pinned program and in every row, IS THE sha256 OF THE DUMP (.gsa) THAT YtbkocjmmbkifjaaGreatProg.lean LOADS. Nothing in Lean hashes anything: it is a label: what it is worth is what the hold of that sum in a sandbox is worth. -/
noncomputable def Tryz.pinned : Pinned := { name := "ytbkocjmmbkifjaagreat", sum := "ed396200f9653b2dbe7acc4189c671e69593ebd78d7a81e5077b07673fbe4829", checked := Tryz.checked }
namespace Rows
def none {H : Type} : Left H := { results := [], args := [] }

/-- 'fiduciallaw28.EpipolarStations': WHATEVER THE INPUT: true; the input reads as it did. -/
def epipolarStationsSpec : ChangeSpec := { name := "epipolarStations", fn := fun _ => fun
  | [d1, d2, d3] => { results := [.lit (.bool true)], args := [d1, d2, d3] }
  | _ => none }
def epipolarStationsRow : OpenClaim := { program := "ytbkocjmmbkifjaagreat", sum := "ed396200f9653b2dbe7acc4189c671e69593ebd78d7a81e5077b07673fbe4829", func := "fiducial/fiduciallaw28.EpipolarStations", spec := "epipolarStations", unfollowed := true, recurses := true, apart := false }
def EpipolarStationsSaid : Prop := epipolarStationsRow.holds Tryz.pinned (OpenSpec.ofChange epipolarStationsSpec)

/-- ITS FALSE NEIGHBOUR: 'it returns false'. Refute it at one input. -/
def epipolarStationsWrong : ChangeSpec := { name := "epipolarStations", fn := fun _ => fun
  | [d1, d2, d3] => { results := [.lit (.bool false)], args := [d1, d2, d3] }
  | _ => none }
def EpipolarStationsWrongFalsely : Prop := epipolarStationsRow.holds Tryz.pinned (OpenSpec.ofChange epipolarStationsWrong)

/-- 'fiduciallaw28.EpipolarDecomposes': WHATEVER THE INPUT: true; the input reads as it did. -/
def epipolarDecomposesSpec : ChangeSpec := { name := "epipolarDecomposes", fn := fun _ => fun
  | [d] => { results := [.lit (.bool true)], args := [d] }
  | _ => none }
def epipolarDecomposesRow : OpenClaim := { program := "ytbkocjmmbkifjaagreat", sum := "ed396200f9653b2dbe7acc4189c671e69593ebd78d7a81e5077b07673fbe4829", func := "fiducial/fiduciallaw28.EpipolarDecomposes", spec := "epipolarDecomposes", unfollowed := true, recurses := true, apart := false }
def EpipolarDecomposesSaid : Prop := epipolarDecomposesRow.holds Tryz.pinned (OpenSpec.ofChange epipolarDecomposesSpec)

/-- ITS FALSE NEIGHBOUR: 'it returns false'. Refute it at one input. -/
def epipolarDecomposesWrong : ChangeSpec := { name := "epipolarDecomposes", fn := fun _ => fun
  | [d] => { results := [.lit (.bool false)], args := [d] }
  | _ => none }
def EpipolarDecomposesWrongFalsely : Prop := epipolarDecomposesRow.holds Tryz.pinned (OpenSpec.ofChange epipolarDecomposesWrong)

/-- 'fiduciallaw28.EpipolarRelative': WHATEVER THE INPUT: true; the input reads as it did. -/
def epipolarRelativeSpec : ChangeSpec := { name := "epipolarRelative", fn := fun _ => fun
  | [d1, d2] => { results := [.lit (.bool true)], args := [d1, d2] }
  | _ => none }
def epipolarRelativeRow : OpenClaim := { program := "ytbkocjmmbkifjaagreat", sum := "ed396200f9653b2dbe7acc4189c671e69593ebd78d7a81e5077b07673fbe4829", func := "fiducial/fiduciallaw28.EpipolarRelative", spec := "epipolarRelative", unfollowed := true, recurses := true, apart := false }
def EpipolarRelativeSaid : Prop := epipolarRelativeRow.holds Tryz.pinned (OpenSpec.ofChange epipolarRelativeSpec)

/-- ITS FALSE NEIGHBOUR: 'it returns false'. Refute it at one input. -/
def epipolarRelativeWrong : ChangeSpec := { name := "epipolarRelative", fn := fun _ => fun
  | [d1, d2] => { results := [.lit (.bool false)], args := [d1, d2] }
  | _ => none }
def EpipolarRelativeWrongFalsely : Prop := epipolarRelativeRow.holds Tryz.pinned (OpenSpec.ofChange epipolarRelativeWrong)

/-- 'fiduciallaw28.EpipolarMatrices': WHATEVER THE INPUT: true; the input reads as it did. -/
def epipolarMatricesSpec : ChangeSpec := { name := "epipolarMatrices", fn := fun _ => fun
  | [d1, d2] => { results := [.lit (.bool true)], args := [d1, d2] }
  | _ => none }
def epipolarMatricesRow : OpenClaim := { program := "ytbkocjmmbkifjaagreat", sum := "ed396200f9653b2dbe7acc4189c671e69593ebd78d7a81e5077b07673fbe4829", func := "fiducial/fiduciallaw28.EpipolarMatrices", spec := "epipolarMatrices", unfollowed := true, recurses := true, apart := false }
def EpipolarMatricesSaid : Prop := epipolarMatricesRow.holds Tryz.pinned (OpenSpec.ofChange epipolarMatricesSpec)

/-- ITS FALSE NEIGHBOUR: 'it returns false'. Refute it at one input. -/
def epipolarMatricesWrong : ChangeSpec := { name := "epipolarMatrices", fn := fun _ => fun
  | [d1, d2] => { results := [.lit (.bool false)], args := [d1, d2] }
  | _ => none }
def EpipolarMatricesWrongFalsely : Prop := epipolarMatricesRow.holds Tryz.pinned (OpenSpec.ofChange epipolarMatricesWrong)

/-- 'fiduciallaw28.EpipolarInliers': WHATEVER THE INPUT: true; the input reads as it did. -/
def epipolarInliersSpec : ChangeSpec := { name := "epipolarInliers", fn := fun _ => fun
  | [d1, d2, d3] => { results := [.lit (.bool true)], args := [d1, d2, d3] }
  | _ => none }
def epipolarInliersRow : OpenClaim := { program := "ytbkocjmmbkifjaagreat", sum := "ed396200f9653b2dbe7acc4189c671e69593ebd78d7a81e5077b07673fbe4829", func := "fiducial/fiduciallaw28.EpipolarInliers", spec := "epipolarInliers", unfollowed := true, recurses := true, apart := false }
def EpipolarInliersSaid : Prop := epipolarInliersRow.holds Tryz.pinned (OpenSpec.ofChange epipolarInliersSpec)

/-- ITS FALSE NEIGHBOUR: 'it returns false'. Refute it at one input. -/
def epipolarInliersWrong : ChangeSpec := { name := "epipolarInliers", fn := fun _ => fun
  | [d1, d2, d3] => { results := [.lit (.bool false)], args := [d1, d2, d3] }
  | _ => none }
def EpipolarInliersWrongFalsely : Prop := epipolarInliersRow.holds Tryz.pinned (OpenSpec.ofChange epipolarInliersWrong)

/-- 'fiduciallaw28.EpipolarEight': WHATEVER THE INPUT: true; the input reads as it did. -/
def epipolarEightSpec : ChangeSpec := { name := "epipolarEight", fn := fun _ => fun
  | [d] => { results := [.lit (.bool true)], args := [d] }
  | _ => none }
def epipolarEightRow : OpenClaim := { program := "ytbkocjmmbkifjaagreat", sum := "ed396200f9653b2dbe7acc4189c671e69593ebd78d7a81e5077b07673fbe4829", func := "fiducial/fiduciallaw28.EpipolarEight", spec := "epipolarEight", unfollowed := true, recurses := true, apart := false }
def EpipolarEightSaid : Prop := epipolarEightRow.holds Tryz.pinned (OpenSpec.ofChange epipolarEightSpec)

/-- ITS FALSE NEIGHBOUR: 'it returns false'. Refute it at one input. -/
def epipolarEightWrong : ChangeSpec := { name := "epipolarEight", fn := fun _ => fun
  | [d] => { results := [.lit (.bool false)], args := [d] }
  | _ => none }
def EpipolarEightWrongFalsely : Prop := epipolarEightRow.holds Tryz.pinned (OpenSpec.ofChange epipolarEightWrong)

/-- 'fiduciallaw28.EpipolarRecovers': WHATEVER THE INPUT: true; the input reads as it did. -/
def epipolarRecoversSpec : ChangeSpec := { name := "epipolarRecovers", fn := fun _ => fun
  | [d1, d2, d3] => { results := [.lit (.bool true)], args := [d1, d2, d3] }
  | _ => none }
def epipolarRecoversRow : OpenClaim := { program := "ytbkocjmmbkifjaagreat", sum := "ed396200f9653b2dbe7acc4189c671e69593ebd78d7a81e5077b07673fbe4829", func := "fiducial/fiduciallaw28.EpipolarRecovers", spec := "epipolarRecovers", unfollowed := true, recurses := true, apart := false }
def EpipolarRecoversSaid : Prop := epipolarRecoversRow.holds Tryz.pinned (OpenSpec.ofChange epipolarRecoversSpec)

/-- ITS FALSE NEIGHBOUR: 'it returns false'. Refute it at one input. -/
def epipolarRecoversWrong : ChangeSpec := { name := "epipolarRecovers", fn := fun _ => fun
  | [d1, d2, d3] => { results := [.lit (.bool false)], args := [d1, d2, d3] }
  | _ => none }
def EpipolarRecoversWrongFalsely : Prop := epipolarRecoversRow.holds Tryz.pinned (OpenSpec.ofChange epipolarRecoversWrong)

/- THE SECOND FORM. 'bulk': how many values and letters a reading holds, each counted each time it is reached (what is shared counts as often as it is met; a slice's spare places count too). A statement '..UptoSaid' is the law's where the arguments, and the package variables that the reading takes, are together of bulk at most 1048576: NARROWER than '..Said'. Prove '..Said' where nothing that the law and all that it calls make is longer than what came in: it says more and counts as full. Else prove '..UptoSaid'. A law counts once. -/
mutual
def uptoBulk {H : Type} : DataW H → Nat
  | .lit (.string bytes) => bytes.length + 1
  | .lit _ => 1
  | .nil => 1
  | .ptr d => uptoBulk d + 1
  | .slice elems spare => uptoBulkAll elems + uptoBulkAll spare + 1
  | .agg parts => uptoBulkAll parts + 1
  | .iface _ d => uptoBulk d + 1
  | .map entries => uptoBulkEntries entries + 1
  | .held _ => 1
def uptoBulkAll {H : Type} : List (DataW H) → Nat
  | [] => 0
  | d :: r => uptoBulk d + uptoBulkAll r
def uptoBulkEntries {H : Type} : List (Lit × DataW H) → Nat
  | [] => 0
  | x :: r => uptoBulkEntry x + uptoBulkEntries r
def uptoBulkEntry {H : Type} : Lit × DataW H → Nat
  | (.string bytes, d) => bytes.length + uptoBulk d + 1
  | (_, d) => uptoBulk d + 1
 end
def uptoSmall : (H : Type) → List (DataW H) → Bool := fun _ ds => decide (uptoBulkAll ds ≤ 1048576)
def OpenSpec.upto (s : _root_.Go.ChangeSpec) : _root_.Go.OpenSpec := { _root_.Go.OpenSpec.ofChange s with cond := some uptoSmall }

/-- 'fiduciallaw28.EpipolarStations', WHERE WHAT IT READS IS OF BULK AT MOST 1048576: true; the input reads as it did. -/
def epipolarStationsUptoRow : OpenClaim := { program := "ytbkocjmmbkifjaagreat", sum := "ed396200f9653b2dbe7acc4189c671e69593ebd78d7a81e5077b07673fbe4829", func := "fiducial/fiduciallaw28.EpipolarStations", spec := "epipolarStations", unfollowed := true, recurses := true, apart := false, narrowed := true }
def EpipolarStationsUptoSaid : Prop := epipolarStationsUptoRow.holds Tryz.pinned (OpenSpec.upto epipolarStationsSpec)

/-- 'fiduciallaw28.EpipolarDecomposes', WHERE WHAT IT READS IS OF BULK AT MOST 1048576: true; the input reads as it did. -/
def epipolarDecomposesUptoRow : OpenClaim := { program := "ytbkocjmmbkifjaagreat", sum := "ed396200f9653b2dbe7acc4189c671e69593ebd78d7a81e5077b07673fbe4829", func := "fiducial/fiduciallaw28.EpipolarDecomposes", spec := "epipolarDecomposes", unfollowed := true, recurses := true, apart := false, narrowed := true }
def EpipolarDecomposesUptoSaid : Prop := epipolarDecomposesUptoRow.holds Tryz.pinned (OpenSpec.upto epipolarDecomposesSpec)

/-- 'fiduciallaw28.EpipolarRelative', WHERE WHAT IT READS IS OF BULK AT MOST 1048576: true; the input reads as it did. -/
def epipolarRelativeUptoRow : OpenClaim := { program := "ytbkocjmmbkifjaagreat", sum := "ed396200f9653b2dbe7acc4189c671e69593ebd78d7a81e5077b07673fbe4829", func := "fiducial/fiduciallaw28.EpipolarRelative", spec := "epipolarRelative", unfollowed := true, recurses := true, apart := false, narrowed := true }
def EpipolarRelativeUptoSaid : Prop := epipolarRelativeUptoRow.holds Tryz.pinned (OpenSpec.upto epipolarRelativeSpec)

/-- 'fiduciallaw28.EpipolarMatrices', WHERE WHAT IT READS IS OF BULK AT MOST 1048576: true; the input reads as it did. -/
def epipolarMatricesUptoRow : OpenClaim := { program := "ytbkocjmmbkifjaagreat", sum := "ed396200f9653b2dbe7acc4189c671e69593ebd78d7a81e5077b07673fbe4829", func := "fiducial/fiduciallaw28.EpipolarMatrices", spec := "epipolarMatrices", unfollowed := true, recurses := true, apart := false, narrowed := true }
def EpipolarMatricesUptoSaid : Prop := epipolarMatricesUptoRow.holds Tryz.pinned (OpenSpec.upto epipolarMatricesSpec)

/-- 'fiduciallaw28.EpipolarInliers', WHERE WHAT IT READS IS OF BULK AT MOST 1048576: true; the input reads as it did. -/
def epipolarInliersUptoRow : OpenClaim := { program := "ytbkocjmmbkifjaagreat", sum := "ed396200f9653b2dbe7acc4189c671e69593ebd78d7a81e5077b07673fbe4829", func := "fiducial/fiduciallaw28.EpipolarInliers", spec := "epipolarInliers", unfollowed := true, recurses := true, apart := false, narrowed := true }
def EpipolarInliersUptoSaid : Prop := epipolarInliersUptoRow.holds Tryz.pinned (OpenSpec.upto epipolarInliersSpec)

/-- 'fiduciallaw28.EpipolarEight', WHERE WHAT IT READS IS OF BULK AT MOST 1048576: true; the input reads as it did. -/
def epipolarEightUptoRow : OpenClaim := { program := "ytbkocjmmbkifjaagreat", sum := "ed396200f9653b2dbe7acc4189c671e69593ebd78d7a81e5077b07673fbe4829", func := "fiducial/fiduciallaw28.EpipolarEight", spec := "epipolarEight", unfollowed := true, recurses := true, apart := false, narrowed := true }
def EpipolarEightUptoSaid : Prop := epipolarEightUptoRow.holds Tryz.pinned (OpenSpec.upto epipolarEightSpec)

/-- 'fiduciallaw28.EpipolarRecovers', WHERE WHAT IT READS IS OF BULK AT MOST 1048576: true; the input reads as it did. -/
def epipolarRecoversUptoRow : OpenClaim := { program := "ytbkocjmmbkifjaagreat", sum := "ed396200f9653b2dbe7acc4189c671e69593ebd78d7a81e5077b07673fbe4829", func := "fiducial/fiduciallaw28.EpipolarRecovers", spec := "epipolarRecovers", unfollowed := true, recurses := true, apart := false, narrowed := true }
def EpipolarRecoversUptoSaid : Prop := epipolarRecoversUptoRow.holds Tryz.pinned (OpenSpec.upto epipolarRecoversSpec)

end Rows
end Go.Proofs.YtbkocjmmbkifjaaGreat
