/-
  No cell of these rows narrows 'for every input' (looked for: loops, veiled, ifaces, maps, wideKeys, modest, calm, conditions, laid).
  DERIVED. THE GIVEN ROWS OF THIS SEAT. 5 by the template 'for every input the law returns true; each argument reads behind the call as it read before'; 0 by the template 'total and deterministic' (their statements: YtdpdjchblajbbaaTotals.lean).
  GIVEN WITH THE SEED: the statements are not yours to turn. If you find one false, say at which input.
  Laid BY PROGRAM, IN A SANDBOX (cutbox-rows.mjs): the forced cells as the released guide's own fill.sh prints them over the translation 60ee260e63e99a35… (all of the seat's roots in one cut). By AI agents, Wed Nov 11 2026. No macro, syntax, notation, axiom, sorry.
-/
import Derived.Test.YtdpdjchblajbbaaChecked
import GoSem.Claim
import GoSem.ClaimJoined
import GoSem.ClaimMapViews
import Derived.JoinedTies
import Derived.KernelRfl
namespace Go.Proofs.Ytdpdjchblajbbaa
/- THE CELL 'sum', in the pinned program and in every row, IS THE sha256 OF THE DUMP (.gsa) THAT YtdpdjchblajbbaaProg.lean LOADS. Nothing in Lean hashes anything: it is a label: what it is worth is what the hold of that sum in a sandbox is worth. -/
noncomputable def Try.pinned : Pinned := { name := "ytdpdjchblajbbaa", sum := "60ee260e63e99a3573debaa7269ad3d8b722d4bc956d55cd5138f7a0281fad70", checked := Try.checked }
namespace Rows
def none {H : Type} : Left H := { results := [], args := [] }

/-- 'pacesetterlaw17.WindowStays': WHATEVER THE INPUT: true; the input reads as it did. -/
def windowStaysSpec : ChangeSpec := { name := "windowStays", fn := fun _ => fun
  | [d1, d2, d3] => { results := [.lit (.bool true)], args := [d1, d2, d3] }
  | _ => none }
def windowStaysRow : OpenClaim := { program := "ytdpdjchblajbbaa", sum := "60ee260e63e99a3573debaa7269ad3d8b722d4bc956d55cd5138f7a0281fad70", func := "pacesetter/pacesetterlaw17.WindowStays", spec := "windowStays", inPlace := ["math.archTrunc", "math.Float64bits", "math.Float64frombits"], apart := false }
def WindowStaysSaid : Prop := windowStaysRow.holds Try.pinned (OpenSpec.ofChange windowStaysSpec)

/-- ITS FALSE NEIGHBOUR: 'it returns false'. Refute it at one input. -/
def windowStaysWrong : ChangeSpec := { name := "windowStays", fn := fun _ => fun
  | [d1, d2, d3] => { results := [.lit (.bool false)], args := [d1, d2, d3] }
  | _ => none }
def WindowStaysWrongFalsely : Prop := windowStaysRow.holds Try.pinned (OpenSpec.ofChange windowStaysWrong)

/-- 'pacesetterlaw17.WindowMerges': WHATEVER THE INPUT: true; the input reads as it did. -/
def windowMergesSpec : ChangeSpec := { name := "windowMerges", fn := fun _ => fun
  | [d1, d2] => { results := [.lit (.bool true)], args := [d1, d2] }
  | _ => none }
def windowMergesRow : OpenClaim := { program := "ytdpdjchblajbbaa", sum := "60ee260e63e99a3573debaa7269ad3d8b722d4bc956d55cd5138f7a0281fad70", func := "pacesetter/pacesetterlaw17.WindowMerges", spec := "windowMerges", inPlace := ["math.archTrunc", "math.Float64bits", "math.Float64frombits"], apart := false }
def WindowMergesSaid : Prop := windowMergesRow.holds Try.pinned (OpenSpec.ofChange windowMergesSpec)

/-- ITS FALSE NEIGHBOUR: 'it returns false'. Refute it at one input. -/
def windowMergesWrong : ChangeSpec := { name := "windowMerges", fn := fun _ => fun
  | [d1, d2] => { results := [.lit (.bool false)], args := [d1, d2] }
  | _ => none }
def WindowMergesWrongFalsely : Prop := windowMergesRow.holds Try.pinned (OpenSpec.ofChange windowMergesWrong)

/-- 'pacesetterlaw17.WindowSums': WHATEVER THE INPUT: true; the input reads as it did. -/
def windowSumsSpec : ChangeSpec := { name := "windowSums", fn := fun _ => fun
  | [d1, d2] => { results := [.lit (.bool true)], args := [d1, d2] }
  | _ => none }
def windowSumsRow : OpenClaim := { program := "ytdpdjchblajbbaa", sum := "60ee260e63e99a3573debaa7269ad3d8b722d4bc956d55cd5138f7a0281fad70", func := "pacesetter/pacesetterlaw17.WindowSums", spec := "windowSums", inPlace := ["math.archTrunc", "math.Float64bits", "math.Float64frombits"], apart := false }
def WindowSumsSaid : Prop := windowSumsRow.holds Try.pinned (OpenSpec.ofChange windowSumsSpec)

/-- ITS FALSE NEIGHBOUR: 'it returns false'. Refute it at one input. -/
def windowSumsWrong : ChangeSpec := { name := "windowSums", fn := fun _ => fun
  | [d1, d2] => { results := [.lit (.bool false)], args := [d1, d2] }
  | _ => none }
def WindowSumsWrongFalsely : Prop := windowSumsRow.holds Try.pinned (OpenSpec.ofChange windowSumsWrong)

/-- 'pacesetterlaw17.WindowPlays': WHATEVER THE INPUT: true; the input reads as it did. -/
def windowPlaysSpec : ChangeSpec := { name := "windowPlays", fn := fun _ => fun
  | [d1, d2, d3] => { results := [.lit (.bool true)], args := [d1, d2, d3] }
  | _ => none }
def windowPlaysRow : OpenClaim := { program := "ytdpdjchblajbbaa", sum := "60ee260e63e99a3573debaa7269ad3d8b722d4bc956d55cd5138f7a0281fad70", func := "pacesetter/pacesetterlaw17.WindowPlays", spec := "windowPlays", inPlace := ["math.archTrunc", "math.Float64bits", "math.Float64frombits"], apart := false }
def WindowPlaysSaid : Prop := windowPlaysRow.holds Try.pinned (OpenSpec.ofChange windowPlaysSpec)

/-- ITS FALSE NEIGHBOUR: 'it returns false'. Refute it at one input. -/
def windowPlaysWrong : ChangeSpec := { name := "windowPlays", fn := fun _ => fun
  | [d1, d2, d3] => { results := [.lit (.bool false)], args := [d1, d2, d3] }
  | _ => none }
def WindowPlaysWrongFalsely : Prop := windowPlaysRow.holds Try.pinned (OpenSpec.ofChange windowPlaysWrong)

/-- 'pacesetterlaw17.WindowNil': WHATEVER THE INPUT: true; the input reads as it did. -/
def windowNilSpec : ChangeSpec := { name := "windowNil", fn := fun _ => fun
  | [d1, d2] => { results := [.lit (.bool true)], args := [d1, d2] }
  | _ => none }
def windowNilRow : OpenClaim := { program := "ytdpdjchblajbbaa", sum := "60ee260e63e99a3573debaa7269ad3d8b722d4bc956d55cd5138f7a0281fad70", func := "pacesetter/pacesetterlaw17.WindowNil", spec := "windowNil", inPlace := ["math.archTrunc", "math.Float64bits", "math.Float64frombits"], apart := false }
def WindowNilSaid : Prop := windowNilRow.holds Try.pinned (OpenSpec.ofChange windowNilSpec)

/-- ITS FALSE NEIGHBOUR: 'it returns false'. Refute it at one input. -/
def windowNilWrong : ChangeSpec := { name := "windowNil", fn := fun _ => fun
  | [d1, d2] => { results := [.lit (.bool false)], args := [d1, d2] }
  | _ => none }
def WindowNilWrongFalsely : Prop := windowNilRow.holds Try.pinned (OpenSpec.ofChange windowNilWrong)

/- THE SECOND FORM. 'bulk': how many values and letters a reading holds, each counted each time it is reached (what is shared counts as often as it is met; a slice's spare places count too). A statement '..UptoSaid' is the law's where the arguments, and the package variables that the reading takes, are together of bulk at most 1048576: NARROWER than '..Said'. Prove '..Said' where nothing that the law and all that it calls make is longer than what came in: it says more and counts as full. Else prove '..UptoSaid'. A law counts once. -/
mutual
def uptoBulk {H : Type} : DataW H → Nat
  | .lit (.string bytes) => bytes.length + 1
  | .lit _ => 1
  | .nil => 1
  | .ptr d => uptoBulk d + 1
  | .slice elems spare => uptoBulkAll elems + uptoBulkAll spare + 1
  | .agg parts => uptoBulkAll parts + 1
  | .iface _ d => uptoBulk d + 1
  | .map entries => uptoBulkEntries entries + 1
  | .held _ => 1
def uptoBulkAll {H : Type} : List (DataW H) → Nat
  | [] => 0
  | d :: r => uptoBulk d + uptoBulkAll r
def uptoBulkEntries {H : Type} : List (Lit × DataW H) → Nat
  | [] => 0
  | x :: r => uptoBulkEntry x + uptoBulkEntries r
def uptoBulkEntry {H : Type} : Lit × DataW H → Nat
  | (.string bytes, d) => bytes.length + uptoBulk d + 1
  | (_, d) => uptoBulk d + 1
 end
def uptoSmall : (H : Type) → List (DataW H) → Bool := fun _ ds => decide (uptoBulkAll ds ≤ 1048576)
def OpenSpec.upto (s : _root_.Go.ChangeSpec) : _root_.Go.OpenSpec := { _root_.Go.OpenSpec.ofChange s with cond := some uptoSmall }

/-- 'pacesetterlaw17.WindowStays', WHERE WHAT IT READS IS OF BULK AT MOST 1048576: true; the input reads as it did. -/
def windowStaysUptoRow : OpenClaim := { program := "ytdpdjchblajbbaa", sum := "60ee260e63e99a3573debaa7269ad3d8b722d4bc956d55cd5138f7a0281fad70", func := "pacesetter/pacesetterlaw17.WindowStays", spec := "windowStays", inPlace := ["math.archTrunc", "math.Float64bits", "math.Float64frombits"], apart := false, narrowed := true }
def WindowStaysUptoSaid : Prop := windowStaysUptoRow.holds Try.pinned (OpenSpec.upto windowStaysSpec)

/-- 'pacesetterlaw17.WindowMerges', WHERE WHAT IT READS IS OF BULK AT MOST 1048576: true; the input reads as it did. -/
def windowMergesUptoRow : OpenClaim := { program := "ytdpdjchblajbbaa", sum := "60ee260e63e99a3573debaa7269ad3d8b722d4bc956d55cd5138f7a0281fad70", func := "pacesetter/pacesetterlaw17.WindowMerges", spec := "windowMerges", inPlace := ["math.archTrunc", "math.Float64bits", "math.Float64frombits"], apart := false, narrowed := true }
def WindowMergesUptoSaid : Prop := windowMergesUptoRow.holds Try.pinned (OpenSpec.upto windowMergesSpec)

/-- 'pacesetterlaw17.WindowSums', WHERE WHAT IT READS IS OF BULK AT MOST 1048576: true; the input reads as it did. -/
def windowSumsUptoRow : OpenClaim := { program := "ytdpdjchblajbbaa", sum := "60ee260e63e99a3573debaa7269ad3d8b722d4bc956d55cd5138f7a0281fad70", func := "pacesetter/pacesetterlaw17.WindowSums", spec := "windowSums", inPlace := ["math.archTrunc", "math.Float64bits", "math.Float64frombits"], apart := false, narrowed := true }
def WindowSumsUptoSaid : Prop := windowSumsUptoRow.holds Try.pinned (OpenSpec.upto windowSumsSpec)

/-- 'pacesetterlaw17.WindowPlays', WHERE WHAT IT READS IS OF BULK AT MOST 1048576: true; the input reads as it did. -/
def windowPlaysUptoRow : OpenClaim := { program := "ytdpdjchblajbbaa", sum := "60ee260e63e99a3573debaa7269ad3d8b722d4bc956d55cd5138f7a0281fad70", func := "pacesetter/pacesetterlaw17.WindowPlays", spec := "windowPlays", inPlace := ["math.archTrunc", "math.Float64bits", "math.Float64frombits"], apart := false, narrowed := true }
def WindowPlaysUptoSaid : Prop := windowPlaysUptoRow.holds Try.pinned (OpenSpec.upto windowPlaysSpec)

/-- 'pacesetterlaw17.WindowNil', WHERE WHAT IT READS IS OF BULK AT MOST 1048576: true; the input reads as it did. -/
def windowNilUptoRow : OpenClaim := { program := "ytdpdjchblajbbaa", sum := "60ee260e63e99a3573debaa7269ad3d8b722d4bc956d55cd5138f7a0281fad70", func := "pacesetter/pacesetterlaw17.WindowNil", spec := "windowNil", inPlace := ["math.archTrunc", "math.Float64bits", "math.Float64frombits"], apart := false, narrowed := true }
def WindowNilUptoSaid : Prop := windowNilUptoRow.holds Try.pinned (OpenSpec.upto windowNilSpec)

end Rows
end Go.Proofs.Ytdpdjchblajbbaa
