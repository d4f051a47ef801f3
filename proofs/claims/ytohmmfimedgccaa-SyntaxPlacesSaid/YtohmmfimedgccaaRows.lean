/-
  NARROWER THAN 'FOR EVERY INPUT', by the rows' own cells (each row's printed sentence says how): CheckNames: loops · CheckFinds: loops · FlatMakes: loops · FlatRight: loops · SyntaxPlaces: loops.
  DERIVED. THE GIVEN ROWS OF THIS SEAT. 6 by the template 'for every input the law returns true; each argument reads behind the call as it read before'; 0 by the template 'total and deterministic' (their statements: YtohmmfimedgccaaTotals.lean).
  GIVEN WITH THE SEED: the statements are not yours to turn. If you find one false, say at which input.
  Laid BY PROGRAM, IN A SANDBOX (cutbox-rows.mjs): the forced cells as the released guide's own fill.sh prints them over the translation 05e341af01d38866… (all of the seat's roots in one cut). By AI agents, Wed Nov 11 2026. No macro, syntax, notation, axiom, sorry.
-/
import Derived.Test.YtohmmfimedgccaaChecked
import GoSem.Claim
import GoSem.ClaimJoined
import GoSem.ClaimMapViews
import Derived.JoinedTies
import Derived.KernelRfl
namespace Go.Proofs.Ytohmmfimedgccaa
/- THE CELL 'sum', in the pinned program and in every row, IS THE sha256 OF THE DUMP (.gsa) THAT YtohmmfimedgccaaProg.lean LOADS. Nothing in Lean hashes anything: it is a label: what it is worth is what the hold of that sum in a sandbox is worth. -/
noncomputable def Try.pinned : Pinned := { name := "ytohmmfimedgccaa", sum := "05e341af01d388660a06647b09c79bc630413180832198eb41d4207bb8dd7497", checked := Try.checked }
namespace Rows
def none {H : Type} : Left H := { results := [], args := [] }

/-- 'horariumlaw06.CheckNames': WHATEVER THE INPUT: true; the input reads as it did. -/
def checkNamesSpec : ChangeSpec := { name := "checkNames", fn := fun _ => fun
  | [d] => { results := [.lit (.bool true)], args := [d] }
  | _ => none }
def checkNamesRow : OpenClaim := { program := "ytohmmfimedgccaa", sum := "05e341af01d388660a06647b09c79bc630413180832198eb41d4207bb8dd7497", func := "horarium/horariumlaw06.CheckNames", spec := "checkNames", unfollowed := true, recurses := true, loops := true, apart := false }
def CheckNamesSaid : Prop := checkNamesRow.holds Try.pinned (OpenSpec.ofChange checkNamesSpec)

/-- ITS FALSE NEIGHBOUR: 'it returns false'. Refute it at one input. -/
def checkNamesWrong : ChangeSpec := { name := "checkNames", fn := fun _ => fun
  | [d] => { results := [.lit (.bool false)], args := [d] }
  | _ => none }
def CheckNamesWrongFalsely : Prop := checkNamesRow.holds Try.pinned (OpenSpec.ofChange checkNamesWrong)

/-- 'horariumlaw06.CheckFinds': WHATEVER THE INPUT: true; the input reads as it did. -/
def checkFindsSpec : ChangeSpec := { name := "checkFinds", fn := fun _ => fun
  | [d] => { results := [.lit (.bool true)], args := [d] }
  | _ => none }
def checkFindsRow : OpenClaim := { program := "ytohmmfimedgccaa", sum := "05e341af01d388660a06647b09c79bc630413180832198eb41d4207bb8dd7497", func := "horarium/horariumlaw06.CheckFinds", spec := "checkFinds", unfollowed := true, recurses := true, loops := true, apart := false }
def CheckFindsSaid : Prop := checkFindsRow.holds Try.pinned (OpenSpec.ofChange checkFindsSpec)

/-- ITS FALSE NEIGHBOUR: 'it returns false'. Refute it at one input. -/
def checkFindsWrong : ChangeSpec := { name := "checkFinds", fn := fun _ => fun
  | [d] => { results := [.lit (.bool false)], args := [d] }
  | _ => none }
def CheckFindsWrongFalsely : Prop := checkFindsRow.holds Try.pinned (OpenSpec.ofChange checkFindsWrong)

/-- 'horariumlaw08.FlatMakes': WHATEVER THE INPUT: true; the input reads as it did. -/
def flatMakesSpec : ChangeSpec := { name := "flatMakes", fn := fun _ => fun
  | [d] => { results := [.lit (.bool true)], args := [d] }
  | _ => none }
def flatMakesRow : OpenClaim := { program := "ytohmmfimedgccaa", sum := "05e341af01d388660a06647b09c79bc630413180832198eb41d4207bb8dd7497", func := "horarium/horariumlaw08.FlatMakes", spec := "flatMakes", unfollowed := true, recurses := true, loops := true, apart := false }
def FlatMakesSaid : Prop := flatMakesRow.holds Try.pinned (OpenSpec.ofChange flatMakesSpec)

/-- ITS FALSE NEIGHBOUR: 'it returns false'. Refute it at one input. -/
def flatMakesWrong : ChangeSpec := { name := "flatMakes", fn := fun _ => fun
  | [d] => { results := [.lit (.bool false)], args := [d] }
  | _ => none }
def FlatMakesWrongFalsely : Prop := flatMakesRow.holds Try.pinned (OpenSpec.ofChange flatMakesWrong)

/-- 'horariumlaw08.FlatRight': WHATEVER THE INPUT: true; the input reads as it did. -/
def flatRightSpec : ChangeSpec := { name := "flatRight", fn := fun _ => fun
  | [d1, d2, d3] => { results := [.lit (.bool true)], args := [d1, d2, d3] }
  | _ => none }
def flatRightRow : OpenClaim := { program := "ytohmmfimedgccaa", sum := "05e341af01d388660a06647b09c79bc630413180832198eb41d4207bb8dd7497", func := "horarium/horariumlaw08.FlatRight", spec := "flatRight", unfollowed := true, recurses := true, loops := true, apart := false }
def FlatRightSaid : Prop := flatRightRow.holds Try.pinned (OpenSpec.ofChange flatRightSpec)

/-- ITS FALSE NEIGHBOUR: 'it returns false'. Refute it at one input. -/
def flatRightWrong : ChangeSpec := { name := "flatRight", fn := fun _ => fun
  | [d1, d2, d3] => { results := [.lit (.bool false)], args := [d1, d2, d3] }
  | _ => none }
def FlatRightWrongFalsely : Prop := flatRightRow.holds Try.pinned (OpenSpec.ofChange flatRightWrong)

/-- 'horariumlaw04.SyntaxPlaces': WHATEVER THE INPUT: true; the input reads as it did. -/
def syntaxPlacesSpec : ChangeSpec := { name := "syntaxPlaces", fn := fun _ => fun
  | [d1, d2, d3] => { results := [.lit (.bool true)], args := [d1, d2, d3] }
  | _ => none }
def syntaxPlacesRow : OpenClaim := { program := "ytohmmfimedgccaa", sum := "05e341af01d388660a06647b09c79bc630413180832198eb41d4207bb8dd7497", func := "horarium/horariumlaw04.SyntaxPlaces", spec := "syntaxPlaces", inPlace := ["internal/bytealg.IndexByteString"], unfollowed := true, recurses := true, loops := true, apart := false }
def SyntaxPlacesSaid : Prop := syntaxPlacesRow.holds Try.pinned (OpenSpec.ofChange syntaxPlacesSpec)

/-- ITS FALSE NEIGHBOUR: 'it returns false'. Refute it at one input. -/
def syntaxPlacesWrong : ChangeSpec := { name := "syntaxPlaces", fn := fun _ => fun
  | [d1, d2, d3] => { results := [.lit (.bool false)], args := [d1, d2, d3] }
  | _ => none }
def SyntaxPlacesWrongFalsely : Prop := syntaxPlacesRow.holds Try.pinned (OpenSpec.ofChange syntaxPlacesWrong)

/-- 'horariumlaw04.SyntaxDepth': WHATEVER THE INPUT: true; the input reads as it did. -/
def syntaxDepthSpec : ChangeSpec := { name := "syntaxDepth", fn := fun _ => fun
  | [d1, d2, d3] => { results := [.lit (.bool true)], args := [d1, d2, d3] }
  | _ => none }
def syntaxDepthRow : OpenClaim := { program := "ytohmmfimedgccaa", sum := "05e341af01d388660a06647b09c79bc630413180832198eb41d4207bb8dd7497", func := "horarium/horariumlaw04.SyntaxDepth", spec := "syntaxDepth", inPlace := ["internal/bytealg.IndexByteString"], unfollowed := true, recurses := true, apart := false }
def SyntaxDepthSaid : Prop := syntaxDepthRow.holds Try.pinned (OpenSpec.ofChange syntaxDepthSpec)

/-- ITS FALSE NEIGHBOUR: 'it returns false'. Refute it at one input. -/
def syntaxDepthWrong : ChangeSpec := { name := "syntaxDepth", fn := fun _ => fun
  | [d1, d2, d3] => { results := [.lit (.bool false)], args := [d1, d2, d3] }
  | _ => none }
def SyntaxDepthWrongFalsely : Prop := syntaxDepthRow.holds Try.pinned (OpenSpec.ofChange syntaxDepthWrong)

/- THE SECOND FORM. 'bulk': how many values and letters a reading holds, each counted each time it is reached (what is shared counts as often as it is met; a slice's spare places count too). A statement '..UptoSaid' is the law's where the arguments, and the package variables that the reading takes, are together of bulk at most 1048576: NARROWER than '..Said'. Prove '..Said' where nothing that the law and all that it calls make is longer than what came in: it says more and counts as full. Else prove '..UptoSaid'. A law counts once. -/
mutual
def uptoBulk {H : Type} : DataW H → Nat
  | .lit (.string bytes) => bytes.length + 1
  | .lit _ => 1
  | .nil => 1
  | .ptr d => uptoBulk d + 1
  | .slice elems spare => uptoBulkAll elems + uptoBulkAll spare + 1
  | .agg parts => uptoBulkAll parts + 1
  | .iface _ d => uptoBulk d + 1
  | .map entries => uptoBulkEntries entries + 1
  | .held _ => 1
def uptoBulkAll {H : Type} : List (DataW H) → Nat
  | [] => 0
  | d :: r => uptoBulk d + uptoBulkAll r
def uptoBulkEntries {H : Type} : List (Lit × DataW H) → Nat
  | [] => 0
  | x :: r => uptoBulkEntry x + uptoBulkEntries r
def uptoBulkEntry {H : Type} : Lit × DataW H → Nat
  | (.string bytes, d) => bytes.length + uptoBulk d + 1
  | (_, d) => uptoBulk d + 1
 end
def uptoSmall : (H : Type) → List (DataW H) → Bool := fun _ ds => decide (uptoBulkAll ds ≤ 1048576)
def OpenSpec.upto (s : _root_.Go.ChangeSpec) : _root_.Go.OpenSpec := { _root_.Go.OpenSpec.ofChange s with cond := some uptoSmall }

/-- 'horariumlaw06.CheckNames', WHERE WHAT IT READS IS OF BULK AT MOST 1048576: true; the input reads as it did. -/
def checkNamesUptoRow : OpenClaim := { program := "ytohmmfimedgccaa", sum := "05e341af01d388660a06647b09c79bc630413180832198eb41d4207bb8dd7497", func := "horarium/horariumlaw06.CheckNames", spec := "checkNames", unfollowed := true, recurses := true, loops := true, apart := false, narrowed := true }
def CheckNamesUptoSaid : Prop := checkNamesUptoRow.holds Try.pinned (OpenSpec.upto checkNamesSpec)

/-- 'horariumlaw06.CheckFinds', WHERE WHAT IT READS IS OF BULK AT MOST 1048576: true; the input reads as it did. -/
def checkFindsUptoRow : OpenClaim := { program := "ytohmmfimedgccaa", sum := "05e341af01d388660a06647b09c79bc630413180832198eb41d4207bb8dd7497", func := "horarium/horariumlaw06.CheckFinds", spec := "checkFinds", unfollowed := true, recurses := true, loops := true, apart := false, narrowed := true }
def CheckFindsUptoSaid : Prop := checkFindsUptoRow.holds Try.pinned (OpenSpec.upto checkFindsSpec)

/-- 'horariumlaw08.FlatMakes', WHERE WHAT IT READS IS OF BULK AT MOST 1048576: true; the input reads as it did. -/
def flatMakesUptoRow : OpenClaim := { program := "ytohmmfimedgccaa", sum := "05e341af01d388660a06647b09c79bc630413180832198eb41d4207bb8dd7497", func := "horarium/horariumlaw08.FlatMakes", spec := "flatMakes", unfollowed := true, recurses := true, loops := true, apart := false, narrowed := true }
def FlatMakesUptoSaid : Prop := flatMakesUptoRow.holds Try.pinned (OpenSpec.upto flatMakesSpec)

/-- 'horariumlaw08.FlatRight', WHERE WHAT IT READS IS OF BULK AT MOST 1048576: true; the input reads as it did. -/
def flatRightUptoRow : OpenClaim := { program := "ytohmmfimedgccaa", sum := "05e341af01d388660a06647b09c79bc630413180832198eb41d4207bb8dd7497", func := "horarium/horariumlaw08.FlatRight", spec := "flatRight", unfollowed := true, recurses := true, loops := true, apart := false, narrowed := true }
def FlatRightUptoSaid : Prop := flatRightUptoRow.holds Try.pinned (OpenSpec.upto flatRightSpec)

/-- 'horariumlaw04.SyntaxPlaces', WHERE WHAT IT READS IS OF BULK AT MOST 1048576: true; the input reads as it did. -/
def syntaxPlacesUptoRow : OpenClaim := { program := "ytohmmfimedgccaa", sum := "05e341af01d388660a06647b09c79bc630413180832198eb41d4207bb8dd7497", func := "horarium/horariumlaw04.SyntaxPlaces", spec := "syntaxPlaces", inPlace := ["internal/bytealg.IndexByteString"], unfollowed := true, recurses := true, loops := true, apart := false, narrowed := true }
def SyntaxPlacesUptoSaid : Prop := syntaxPlacesUptoRow.holds Try.pinned (OpenSpec.upto syntaxPlacesSpec)

/-- 'horariumlaw04.SyntaxDepth', WHERE WHAT IT READS IS OF BULK AT MOST 1048576: true; the input reads as it did. -/
def syntaxDepthUptoRow : OpenClaim := { program := "ytohmmfimedgccaa", sum := "05e341af01d388660a06647b09c79bc630413180832198eb41d4207bb8dd7497", func := "horarium/horariumlaw04.SyntaxDepth", spec := "syntaxDepth", inPlace := ["internal/bytealg.IndexByteString"], unfollowed := true, recurses := true, apart := false, narrowed := true }
def SyntaxDepthUptoSaid : Prop := syntaxDepthUptoRow.holds Try.pinned (OpenSpec.upto syntaxDepthSpec)

end Rows
end Go.Proofs.Ytohmmfimedgccaa
