/-
  NARROWER THAN 'FOR EVERY INPUT', by the rows' own cells (each row's printed sentence says how): BodyValues: loops.
  DERIVED. THE GIVEN ROWS OF THIS SEAT. 13 by the template 'for every input the law returns true; each argument reads behind the call as it read before'; 0 by the template 'total and deterministic' (their statements: YtkiaglpkijhbmaaTotals.lean).
  GIVEN WITH THE SEED: the statements are not yours to turn. If you find one false, say at which input.
  Laid BY PROGRAM, IN A SANDBOX (cutbox-rows.mjs): the forced cells as the released guide's own fill.sh prints them over the translation bea536863ad4b4b5… (all of the seat's roots in one cut). By AI agents, Wed Nov 11 2026. No macro, syntax, notation, axiom, sorry.
-/
import Derived.Test.YtkiaglpkijhbmaaChecked
import GoSem.Claim
import GoSem.ClaimJoined
import GoSem.ClaimMapViews
import Derived.JoinedTies
import Derived.KernelRfl
namespace Go.Proofs.Ytkiaglpkijhbmaa
/- THE CELL 'sum', in the pinned program and in every row, IS THE sha256 OF THE DUMP (.gsa) THAT YtkiaglpkijhbmaaProg.lean LOADS. Nothing in Lean hashes anything: it is a label: what it is worth is what the hold of that sum in a sandbox is worth. -/
noncomputable def Try.pinned : Pinned := { name := "ytkiaglpkijhbmaa", sum := "bea536863ad4b4b58b92d8d5189a8ef15c811de9b6c1427950afe6e9d2db6dd7", checked := Try.checked }
namespace Rows
def none {H : Type} : Left H := { results := [], args := [] }

/-- 'horariumlaw05.BodyOps': WHATEVER THE INPUT: true; the input reads as it did. -/
def bodyOpsSpec : ChangeSpec := { name := "bodyOps", fn := fun _ => fun
  | [d1, d2, d3] => { results := [.lit (.bool true)], args := [d1, d2, d3] }
  | _ => none }
def bodyOpsRow : OpenClaim := { program := "ytkiaglpkijhbmaa", sum := "bea536863ad4b4b58b92d8d5189a8ef15c811de9b6c1427950afe6e9d2db6dd7", func := "horarium/horariumlaw05.BodyOps", spec := "bodyOps", apart := false }
def BodyOpsSaid : Prop := bodyOpsRow.holds Try.pinned (OpenSpec.ofChange bodyOpsSpec)

/-- ITS FALSE NEIGHBOUR: 'it returns false'. Refute it at one input. -/
def bodyOpsWrong : ChangeSpec := { name := "bodyOps", fn := fun _ => fun
  | [d1, d2, d3] => { results := [.lit (.bool false)], args := [d1, d2, d3] }
  | _ => none }
def BodyOpsWrongFalsely : Prop := bodyOpsRow.holds Try.pinned (OpenSpec.ofChange bodyOpsWrong)

/-- 'horariumlaw01.ArithGcd': WHATEVER THE INPUT: true; the input reads as it did. -/
def arithGcdSpec : ChangeSpec := { name := "arithGcd", fn := fun _ => fun
  | [d1, d2] => { results := [.lit (.bool true)], args := [d1, d2] }
  | _ => none }
def arithGcdRow : OpenClaim := { program := "ytkiaglpkijhbmaa", sum := "bea536863ad4b4b58b92d8d5189a8ef15c811de9b6c1427950afe6e9d2db6dd7", func := "horarium/horariumlaw01.ArithGcd", spec := "arithGcd", apart := false }
def ArithGcdSaid : Prop := arithGcdRow.holds Try.pinned (OpenSpec.ofChange arithGcdSpec)

/-- ITS FALSE NEIGHBOUR: 'it returns false'. Refute it at one input. -/
def arithGcdWrong : ChangeSpec := { name := "arithGcd", fn := fun _ => fun
  | [d1, d2] => { results := [.lit (.bool false)], args := [d1, d2] }
  | _ => none }
def ArithGcdWrongFalsely : Prop := arithGcdRow.holds Try.pinned (OpenSpec.ofChange arithGcdWrong)

/-- 'horariumlaw01.ArithLcm': WHATEVER THE INPUT: true; the input reads as it did. -/
def arithLcmSpec : ChangeSpec := { name := "arithLcm", fn := fun _ => fun
  | [d] => { results := [.lit (.bool true)], args := [d] }
  | _ => none }
def arithLcmRow : OpenClaim := { program := "ytkiaglpkijhbmaa", sum := "bea536863ad4b4b58b92d8d5189a8ef15c811de9b6c1427950afe6e9d2db6dd7", func := "horarium/horariumlaw01.ArithLcm", spec := "arithLcm", apart := false }
def ArithLcmSaid : Prop := arithLcmRow.holds Try.pinned (OpenSpec.ofChange arithLcmSpec)

/-- ITS FALSE NEIGHBOUR: 'it returns false'. Refute it at one input. -/
def arithLcmWrong : ChangeSpec := { name := "arithLcm", fn := fun _ => fun
  | [d] => { results := [.lit (.bool false)], args := [d] }
  | _ => none }
def ArithLcmWrongFalsely : Prop := arithLcmRow.holds Try.pinned (OpenSpec.ofChange arithLcmWrong)

/-- 'horariumlaw01.ArithSums': WHATEVER THE INPUT: true; the input reads as it did. -/
def arithSumsSpec : ChangeSpec := { name := "arithSums", fn := fun _ => fun
  | [d1, d2] => { results := [.lit (.bool true)], args := [d1, d2] }
  | _ => none }
def arithSumsRow : OpenClaim := { program := "ytkiaglpkijhbmaa", sum := "bea536863ad4b4b58b92d8d5189a8ef15c811de9b6c1427950afe6e9d2db6dd7", func := "horarium/horariumlaw01.ArithSums", spec := "arithSums", apart := false }
def ArithSumsSaid : Prop := arithSumsRow.holds Try.pinned (OpenSpec.ofChange arithSumsSpec)

/-- ITS FALSE NEIGHBOUR: 'it returns false'. Refute it at one input. -/
def arithSumsWrong : ChangeSpec := { name := "arithSums", fn := fun _ => fun
  | [d1, d2] => { results := [.lit (.bool false)], args := [d1, d2] }
  | _ => none }
def ArithSumsWrongFalsely : Prop := arithSumsRow.holds Try.pinned (OpenSpec.ofChange arithSumsWrong)

/-- 'horariumlaw01.ArithFloor': WHATEVER THE INPUT: true; the input reads as it did. -/
def arithFloorSpec : ChangeSpec := { name := "arithFloor", fn := fun _ => fun
  | [d1, d2] => { results := [.lit (.bool true)], args := [d1, d2] }
  | _ => none }
def arithFloorRow : OpenClaim := { program := "ytkiaglpkijhbmaa", sum := "bea536863ad4b4b58b92d8d5189a8ef15c811de9b6c1427950afe6e9d2db6dd7", func := "horarium/horariumlaw01.ArithFloor", spec := "arithFloor", apart := false }
def ArithFloorSaid : Prop := arithFloorRow.holds Try.pinned (OpenSpec.ofChange arithFloorSpec)

/-- ITS FALSE NEIGHBOUR: 'it returns false'. Refute it at one input. -/
def arithFloorWrong : ChangeSpec := { name := "arithFloor", fn := fun _ => fun
  | [d1, d2] => { results := [.lit (.bool false)], args := [d1, d2] }
  | _ => none }
def ArithFloorWrongFalsely : Prop := arithFloorRow.holds Try.pinned (OpenSpec.ofChange arithFloorWrong)

/-- 'horariumlaw07.IndexJoins': WHATEVER THE INPUT: true; the input reads as it did. -/
def indexJoinsSpec : ChangeSpec := { name := "indexJoins", fn := fun _ => fun
  | [d1, d2, d3] => { results := [.lit (.bool true)], args := [d1, d2, d3] }
  | _ => none }
def indexJoinsRow : OpenClaim := { program := "ytkiaglpkijhbmaa", sum := "bea536863ad4b4b58b92d8d5189a8ef15c811de9b6c1427950afe6e9d2db6dd7", func := "horarium/horariumlaw07.IndexJoins", spec := "indexJoins", unfollowed := true, recurses := true, apart := false }
def IndexJoinsSaid : Prop := indexJoinsRow.holds Try.pinned (OpenSpec.ofChange indexJoinsSpec)

/-- ITS FALSE NEIGHBOUR: 'it returns false'. Refute it at one input. -/
def indexJoinsWrong : ChangeSpec := { name := "indexJoins", fn := fun _ => fun
  | [d1, d2, d3] => { results := [.lit (.bool false)], args := [d1, d2, d3] }
  | _ => none }
def IndexJoinsWrongFalsely : Prop := indexJoinsRow.holds Try.pinned (OpenSpec.ofChange indexJoinsWrong)

/-- 'horariumlaw07.IndexStreams': WHATEVER THE INPUT: true; the input reads as it did. -/
def indexStreamsSpec : ChangeSpec := { name := "indexStreams", fn := fun _ => fun
  | [d] => { results := [.lit (.bool true)], args := [d] }
  | _ => none }
def indexStreamsRow : OpenClaim := { program := "ytkiaglpkijhbmaa", sum := "bea536863ad4b4b58b92d8d5189a8ef15c811de9b6c1427950afe6e9d2db6dd7", func := "horarium/horariumlaw07.IndexStreams", spec := "indexStreams", unfollowed := true, recurses := true, apart := false }
def IndexStreamsSaid : Prop := indexStreamsRow.holds Try.pinned (OpenSpec.ofChange indexStreamsSpec)

/-- ITS FALSE NEIGHBOUR: 'it returns false'. Refute it at one input. -/
def indexStreamsWrong : ChangeSpec := { name := "indexStreams", fn := fun _ => fun
  | [d] => { results := [.lit (.bool false)], args := [d] }
  | _ => none }
def IndexStreamsWrongFalsely : Prop := indexStreamsRow.holds Try.pinned (OpenSpec.ofChange indexStreamsWrong)

/-- 'horariumlaw07.IndexBack': WHATEVER THE INPUT: true; the input reads as it did. -/
def indexBackSpec : ChangeSpec := { name := "indexBack", fn := fun _ => fun
  | [d1, d2] => { results := [.lit (.bool true)], args := [d1, d2] }
  | _ => none }
def indexBackRow : OpenClaim := { program := "ytkiaglpkijhbmaa", sum := "bea536863ad4b4b58b92d8d5189a8ef15c811de9b6c1427950afe6e9d2db6dd7", func := "horarium/horariumlaw07.IndexBack", spec := "indexBack", unfollowed := true, recurses := true, apart := false }
def IndexBackSaid : Prop := indexBackRow.holds Try.pinned (OpenSpec.ofChange indexBackSpec)

/-- ITS FALSE NEIGHBOUR: 'it returns false'. Refute it at one input. -/
def indexBackWrong : ChangeSpec := { name := "indexBack", fn := fun _ => fun
  | [d1, d2] => { results := [.lit (.bool false)], args := [d1, d2] }
  | _ => none }
def IndexBackWrongFalsely : Prop := indexBackRow.holds Try.pinned (OpenSpec.ofChange indexBackWrong)

/-- 'horariumlaw02.ClockDates': WHATEVER THE INPUT: true; the input reads as it did. -/
def clockDatesSpec : ChangeSpec := { name := "clockDates", fn := fun _ => fun
  | [d1, d2] => { results := [.lit (.bool true)], args := [d1, d2] }
  | _ => none }
def clockDatesRow : OpenClaim := { program := "ytkiaglpkijhbmaa", sum := "bea536863ad4b4b58b92d8d5189a8ef15c811de9b6c1427950afe6e9d2db6dd7", func := "horarium/horariumlaw02.ClockDates", spec := "clockDates", apart := false }
def ClockDatesSaid : Prop := clockDatesRow.holds Try.pinned (OpenSpec.ofChange clockDatesSpec)

/-- ITS FALSE NEIGHBOUR: 'it returns false'. Refute it at one input. -/
def clockDatesWrong : ChangeSpec := { name := "clockDates", fn := fun _ => fun
  | [d1, d2] => { results := [.lit (.bool false)], args := [d1, d2] }
  | _ => none }
def ClockDatesWrongFalsely : Prop := clockDatesRow.holds Try.pinned (OpenSpec.ofChange clockDatesWrong)

/-- 'horariumlaw02.ClockBack': WHATEVER THE INPUT: true; the input reads as it did. -/
def clockBackSpec : ChangeSpec := { name := "clockBack", fn := fun _ => fun
  | [d1, d2] => { results := [.lit (.bool true)], args := [d1, d2] }
  | _ => none }
def clockBackRow : OpenClaim := { program := "ytkiaglpkijhbmaa", sum := "bea536863ad4b4b58b92d8d5189a8ef15c811de9b6c1427950afe6e9d2db6dd7", func := "horarium/horariumlaw02.ClockBack", spec := "clockBack", apart := false }
def ClockBackSaid : Prop := clockBackRow.holds Try.pinned (OpenSpec.ofChange clockBackSpec)

/-- ITS FALSE NEIGHBOUR: 'it returns false'. Refute it at one input. -/
def clockBackWrong : ChangeSpec := { name := "clockBack", fn := fun _ => fun
  | [d1, d2] => { results := [.lit (.bool false)], args := [d1, d2] }
  | _ => none }
def ClockBackWrongFalsely : Prop := clockBackRow.holds Try.pinned (OpenSpec.ofChange clockBackWrong)

/-- 'horariumlaw05.BodyValues': WHATEVER THE INPUT: true; the input reads as it did. -/
def bodyValuesSpec : ChangeSpec := { name := "bodyValues", fn := fun _ => fun
  | [d1, d2, d3] => { results := [.lit (.bool true)], args := [d1, d2, d3] }
  | _ => none }
def bodyValuesRow : OpenClaim := { program := "ytkiaglpkijhbmaa", sum := "bea536863ad4b4b58b92d8d5189a8ef15c811de9b6c1427950afe6e9d2db6dd7", func := "horarium/horariumlaw05.BodyValues", spec := "bodyValues", unfollowed := true, recurses := true, loops := true, apart := false }
def BodyValuesSaid : Prop := bodyValuesRow.holds Try.pinned (OpenSpec.ofChange bodyValuesSpec)

/-- ITS FALSE NEIGHBOUR: 'it returns false'. Refute it at one input. -/
def bodyValuesWrong : ChangeSpec := { name := "bodyValues", fn := fun _ => fun
  | [d1, d2, d3] => { results := [.lit (.bool false)], args := [d1, d2, d3] }
  | _ => none }
def BodyValuesWrongFalsely : Prop := bodyValuesRow.holds Try.pinned (OpenSpec.ofChange bodyValuesWrong)

/-- 'horariumlaw02.ClockDivides': WHATEVER THE INPUT: true; the input reads as it did. -/
def clockDividesSpec : ChangeSpec := { name := "clockDivides", fn := fun _ => fun
  | [d] => { results := [.lit (.bool true)], args := [d] }
  | _ => none }
def clockDividesRow : OpenClaim := { program := "ytkiaglpkijhbmaa", sum := "bea536863ad4b4b58b92d8d5189a8ef15c811de9b6c1427950afe6e9d2db6dd7", func := "horarium/horariumlaw02.ClockDivides", spec := "clockDivides", apart := false }
def ClockDividesSaid : Prop := clockDividesRow.holds Try.pinned (OpenSpec.ofChange clockDividesSpec)

/-- ITS FALSE NEIGHBOUR: 'it returns false'. Refute it at one input. -/
def clockDividesWrong : ChangeSpec := { name := "clockDivides", fn := fun _ => fun
  | [d] => { results := [.lit (.bool false)], args := [d] }
  | _ => none }
def ClockDividesWrongFalsely : Prop := clockDividesRow.holds Try.pinned (OpenSpec.ofChange clockDividesWrong)

/-- 'horariumlaw07.IndexDates': WHATEVER THE INPUT: true; the input reads as it did. -/
def indexDatesSpec : ChangeSpec := { name := "indexDates", fn := fun _ => fun
  | [d1, d2, d3] => { results := [.lit (.bool true)], args := [d1, d2, d3] }
  | _ => none }
def indexDatesRow : OpenClaim := { program := "ytkiaglpkijhbmaa", sum := "bea536863ad4b4b58b92d8d5189a8ef15c811de9b6c1427950afe6e9d2db6dd7", func := "horarium/horariumlaw07.IndexDates", spec := "indexDates", unfollowed := true, recurses := true, apart := false }
def IndexDatesSaid : Prop := indexDatesRow.holds Try.pinned (OpenSpec.ofChange indexDatesSpec)

/-- ITS FALSE NEIGHBOUR: 'it returns false'. Refute it at one input. -/
def indexDatesWrong : ChangeSpec := { name := "indexDates", fn := fun _ => fun
  | [d1, d2, d3] => { results := [.lit (.bool false)], args := [d1, d2, d3] }
  | _ => none }
def IndexDatesWrongFalsely : Prop := indexDatesRow.holds Try.pinned (OpenSpec.ofChange indexDatesWrong)

/- THE SECOND FORM. 'bulk': how many values and letters a reading holds, each counted each time it is reached (what is shared counts as often as it is met; a slice's spare places count too). A statement '..UptoSaid' is the law's where the arguments, and the package variables that the reading takes, are together of bulk at most 1048576: NARROWER than '..Said'. Prove '..Said' where nothing that the law and all that it calls make is longer than what came in: it says more and counts as full. Else prove '..UptoSaid'. A law counts once. -/
mutual
def uptoBulk {H : Type} : DataW H → Nat
  | .lit (.string bytes) => bytes.length + 1
  | .lit _ => 1
  | .nil => 1
  | .ptr d => uptoBulk d + 1
  | .slice elems spare => uptoBulkAll elems + uptoBulkAll spare + 1
  | .agg parts => uptoBulkAll parts + 1
  | .iface _ d => uptoBulk d + 1
  | .map entries => uptoBulkEntries entries + 1
  | .held _ => 1
def uptoBulkAll {H : Type} : List (DataW H) → Nat
  | [] => 0
  | d :: r => uptoBulk d + uptoBulkAll r
def uptoBulkEntries {H : Type} : List (Lit × DataW H) → Nat
  | [] => 0
  | x :: r => uptoBulkEntry x + uptoBulkEntries r
def uptoBulkEntry {H : Type} : Lit × DataW H → Nat
  | (.string bytes, d) => bytes.length + uptoBulk d + 1
  | (_, d) => uptoBulk d + 1
 end
def uptoSmall : (H : Type) → List (DataW H) → Bool := fun _ ds => decide (uptoBulkAll ds ≤ 1048576)
def OpenSpec.upto (s : _root_.Go.ChangeSpec) : _root_.Go.OpenSpec := { _root_.Go.OpenSpec.ofChange s with cond := some uptoSmall }

/-- 'horariumlaw05.BodyOps', WHERE WHAT IT READS IS OF BULK AT MOST 1048576: true; the input reads as it did. -/
def bodyOpsUptoRow : OpenClaim := { program := "ytkiaglpkijhbmaa", sum := "bea536863ad4b4b58b92d8d5189a8ef15c811de9b6c1427950afe6e9d2db6dd7", func := "horarium/horariumlaw05.BodyOps", spec := "bodyOps", apart := false, narrowed := true }
def BodyOpsUptoSaid : Prop := bodyOpsUptoRow.holds Try.pinned (OpenSpec.upto bodyOpsSpec)

/-- 'horariumlaw01.ArithGcd', WHERE WHAT IT READS IS OF BULK AT MOST 1048576: true; the input reads as it did. -/
def arithGcdUptoRow : OpenClaim := { program := "ytkiaglpkijhbmaa", sum := "bea536863ad4b4b58b92d8d5189a8ef15c811de9b6c1427950afe6e9d2db6dd7", func := "horarium/horariumlaw01.ArithGcd", spec := "arithGcd", apart := false, narrowed := true }
def ArithGcdUptoSaid : Prop := arithGcdUptoRow.holds Try.pinned (OpenSpec.upto arithGcdSpec)

/-- 'horariumlaw01.ArithLcm', WHERE WHAT IT READS IS OF BULK AT MOST 1048576: true; the input reads as it did. -/
def arithLcmUptoRow : OpenClaim := { program := "ytkiaglpkijhbmaa", sum := "bea536863ad4b4b58b92d8d5189a8ef15c811de9b6c1427950afe6e9d2db6dd7", func := "horarium/horariumlaw01.ArithLcm", spec := "arithLcm", apart := false, narrowed := true }
def ArithLcmUptoSaid : Prop := arithLcmUptoRow.holds Try.pinned (OpenSpec.upto arithLcmSpec)

/-- 'horariumlaw01.ArithSums', WHERE WHAT IT READS IS OF BULK AT MOST 1048576: true; the input reads as it did. -/
def arithSumsUptoRow : OpenClaim := { program := "ytkiaglpkijhbmaa", sum := "bea536863ad4b4b58b92d8d5189a8ef15c811de9b6c1427950afe6e9d2db6dd7", func := "horarium/horariumlaw01.ArithSums", spec := "arithSums", apart := false, narrowed := true }
def ArithSumsUptoSaid : Prop := arithSumsUptoRow.holds Try.pinned (OpenSpec.upto arithSumsSpec)

/-- 'horariumlaw01.ArithFloor', WHERE WHAT IT READS IS OF BULK AT MOST 1048576: true; the input reads as it did. -/
def arithFloorUptoRow : OpenClaim := { program := "ytkiaglpkijhbmaa", sum := "bea536863ad4b4b58b92d8d5189a8ef15c811de9b6c1427950afe6e9d2db6dd7", func := "horarium/horariumlaw01.ArithFloor", spec := "arithFloor", apart := false, narrowed := true }
def ArithFloorUptoSaid : Prop := arithFloorUptoRow.holds Try.pinned (OpenSpec.upto arithFloorSpec)

/-- 'horariumlaw07.IndexJoins', WHERE WHAT IT READS IS OF BULK AT MOST 1048576: true; the input reads as it did. -/
def indexJoinsUptoRow : OpenClaim := { program := "ytkiaglpkijhbmaa", sum := "bea536863ad4b4b58b92d8d5189a8ef15c811de9b6c1427950afe6e9d2db6dd7", func := "horarium/horariumlaw07.IndexJoins", spec := "indexJoins", unfollowed := true, recurses := true, apart := false, narrowed := true }
def IndexJoinsUptoSaid : Prop := indexJoinsUptoRow.holds Try.pinned (OpenSpec.upto indexJoinsSpec)

/-- 'horariumlaw07.IndexStreams', WHERE WHAT IT READS IS OF BULK AT MOST 1048576: true; the input reads as it did. -/
def indexStreamsUptoRow : OpenClaim := { program := "ytkiaglpkijhbmaa", sum := "bea536863ad4b4b58b92d8d5189a8ef15c811de9b6c1427950afe6e9d2db6dd7", func := "horarium/horariumlaw07.IndexStreams", spec := "indexStreams", unfollowed := true, recurses := true, apart := false, narrowed := true }
def IndexStreamsUptoSaid : Prop := indexStreamsUptoRow.holds Try.pinned (OpenSpec.upto indexStreamsSpec)

/-- 'horariumlaw07.IndexBack', WHERE WHAT IT READS IS OF BULK AT MOST 1048576: true; the input reads as it did. -/
def indexBackUptoRow : OpenClaim := { program := "ytkiaglpkijhbmaa", sum := "bea536863ad4b4b58b92d8d5189a8ef15c811de9b6c1427950afe6e9d2db6dd7", func := "horarium/horariumlaw07.IndexBack", spec := "indexBack", unfollowed := true, recurses := true, apart := false, narrowed := true }
def IndexBackUptoSaid : Prop := indexBackUptoRow.holds Try.pinned (OpenSpec.upto indexBackSpec)

/-- 'horariumlaw02.ClockDates', WHERE WHAT IT READS IS OF BULK AT MOST 1048576: true; the input reads as it did. -/
def clockDatesUptoRow : OpenClaim := { program := "ytkiaglpkijhbmaa", sum := "bea536863ad4b4b58b92d8d5189a8ef15c811de9b6c1427950afe6e9d2db6dd7", func := "horarium/horariumlaw02.ClockDates", spec := "clockDates", apart := false, narrowed := true }
def ClockDatesUptoSaid : Prop := clockDatesUptoRow.holds Try.pinned (OpenSpec.upto clockDatesSpec)

/-- 'horariumlaw02.ClockBack', WHERE WHAT IT READS IS OF BULK AT MOST 1048576: true; the input reads as it did. -/
def clockBackUptoRow : OpenClaim := { program := "ytkiaglpkijhbmaa", sum := "bea536863ad4b4b58b92d8d5189a8ef15c811de9b6c1427950afe6e9d2db6dd7", func := "horarium/horariumlaw02.ClockBack", spec := "clockBack", apart := false, narrowed := true }
def ClockBackUptoSaid : Prop := clockBackUptoRow.holds Try.pinned (OpenSpec.upto clockBackSpec)

/-- 'horariumlaw05.BodyValues', WHERE WHAT IT READS IS OF BULK AT MOST 1048576: true; the input reads as it did. -/
def bodyValuesUptoRow : OpenClaim := { program := "ytkiaglpkijhbmaa", sum := "bea536863ad4b4b58b92d8d5189a8ef15c811de9b6c1427950afe6e9d2db6dd7", func := "horarium/horariumlaw05.BodyValues", spec := "bodyValues", unfollowed := true, recurses := true, loops := true, apart := false, narrowed := true }
def BodyValuesUptoSaid : Prop := bodyValuesUptoRow.holds Try.pinned (OpenSpec.upto bodyValuesSpec)

/-- 'horariumlaw02.ClockDivides', WHERE WHAT IT READS IS OF BULK AT MOST 1048576: true; the input reads as it did. -/
def clockDividesUptoRow : OpenClaim := { program := "ytkiaglpkijhbmaa", sum := "bea536863ad4b4b58b92d8d5189a8ef15c811de9b6c1427950afe6e9d2db6dd7", func := "horarium/horariumlaw02.ClockDivides", spec := "clockDivides", apart := false, narrowed := true }
def ClockDividesUptoSaid : Prop := clockDividesUptoRow.holds Try.pinned (OpenSpec.upto clockDividesSpec)

/-- 'horariumlaw07.IndexDates', WHERE WHAT IT READS IS OF BULK AT MOST 1048576: true; the input reads as it did. -/
def indexDatesUptoRow : OpenClaim := { program := "ytkiaglpkijhbmaa", sum := "bea536863ad4b4b58b92d8d5189a8ef15c811de9b6c1427950afe6e9d2db6dd7", func := "horarium/horariumlaw07.IndexDates", spec := "indexDates", unfollowed := true, recurses := true, apart := false, narrowed := true }
def IndexDatesUptoSaid : Prop := indexDatesUptoRow.holds Try.pinned (OpenSpec.upto indexDatesSpec)

end Rows
end Go.Proofs.Ytkiaglpkijhbmaa
