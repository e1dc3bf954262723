/-
  No cell of these rows narrows 'for every input' (looked for: loops, veiled, ifaces, maps, wideKeys, modest, calm, conditions, laid).
  DERIVED. THE GIVEN ROWS OF THIS SEAT. 5 by the template 'for every input the law returns true; each argument reads behind the call as it read before'; 0 by the template 'total and deterministic' (their statements: YtcfppmjlljdaiaaTotals.lean).
  GIVEN WITH THE SEED: the statements are not yours to turn. If you find one false, say at which input.
  Laid BY PROGRAM, IN A SANDBOX (cutbox-rows.mjs): the forced cells as the released guide's own fill.sh prints them over the translation 0f34215d5121cedc… (all of the seat's roots in one cut). By AI agents, Wed Nov 11 2026. No macro, syntax, notation, axiom, sorry.
-/
import Derived.Test.YtcfppmjlljdaiaaChecked
import GoSem.Claim
import GoSem.ClaimJoined
import GoSem.ClaimMapViews
import Derived.JoinedTies
import Derived.KernelRfl
namespace Go.Proofs.Ytcfppmjlljdaiaa
/- THE CELL 'sum', in the pinned program and in every row, IS THE sha256 OF THE DUMP (.gsa) THAT YtcfppmjlljdaiaaProg.lean LOADS. Nothing in Lean hashes anything: it is a label: what it is worth is what the hold of that sum in a sandbox is worth. -/
noncomputable def Try.pinned : Pinned := { name := "ytcfppmjlljdaiaa", sum := "0f34215d5121cedc31c3b425760a1b10b843d47ab9188558507b1e55f82608e7", checked := Try.checked }
namespace Rows
def none {H : Type} : Left H := { results := [], args := [] }

/-- 'pacesetterlaw11.PhaseWalks': WHATEVER THE INPUT: true; the input reads as it did. -/
def phaseWalksSpec : ChangeSpec := { name := "phaseWalks", fn := fun _ => fun
  | [d1, d2, d3] => { results := [.lit (.bool true)], args := [d1, d2, d3] }
  | _ => none }
def phaseWalksRow : OpenClaim := { program := "ytcfppmjlljdaiaa", sum := "0f34215d5121cedc31c3b425760a1b10b843d47ab9188558507b1e55f82608e7", func := "pacesetter/pacesetterlaw11.PhaseWalks", spec := "phaseWalks", apart := false }
def PhaseWalksSaid : Prop := phaseWalksRow.holds Try.pinned (OpenSpec.ofChange phaseWalksSpec)

/-- ITS FALSE NEIGHBOUR: 'it returns false'. Refute it at one input. -/
def phaseWalksWrong : ChangeSpec := { name := "phaseWalks", fn := fun _ => fun
  | [d1, d2, d3] => { results := [.lit (.bool false)], args := [d1, d2, d3] }
  | _ => none }
def PhaseWalksWrongFalsely : Prop := phaseWalksRow.holds Try.pinned (OpenSpec.ofChange phaseWalksWrong)

/-- 'pacesetterlaw11.PhaseWays': WHATEVER THE INPUT: true; the input reads as it did. -/
def phaseWaysSpec : ChangeSpec := { name := "phaseWays", fn := fun _ => fun
  | [d1, d2] => { results := [.lit (.bool true)], args := [d1, d2] }
  | _ => none }
def phaseWaysRow : OpenClaim := { program := "ytcfppmjlljdaiaa", sum := "0f34215d5121cedc31c3b425760a1b10b843d47ab9188558507b1e55f82608e7", func := "pacesetter/pacesetterlaw11.PhaseWays", spec := "phaseWays", apart := false }
def PhaseWaysSaid : Prop := phaseWaysRow.holds Try.pinned (OpenSpec.ofChange phaseWaysSpec)

/-- ITS FALSE NEIGHBOUR: 'it returns false'. Refute it at one input. -/
def phaseWaysWrong : ChangeSpec := { name := "phaseWays", fn := fun _ => fun
  | [d1, d2] => { results := [.lit (.bool false)], args := [d1, d2] }
  | _ => none }
def PhaseWaysWrongFalsely : Prop := phaseWaysRow.holds Try.pinned (OpenSpec.ofChange phaseWaysWrong)

/-- 'pacesetterlaw11.PhaseOpen': WHATEVER THE INPUT: true; the input reads as it did. -/
def phaseOpenSpec : ChangeSpec := { name := "phaseOpen", fn := fun _ => fun
  | [d1, d2] => { results := [.lit (.bool true)], args := [d1, d2] }
  | _ => none }
def phaseOpenRow : OpenClaim := { program := "ytcfppmjlljdaiaa", sum := "0f34215d5121cedc31c3b425760a1b10b843d47ab9188558507b1e55f82608e7", func := "pacesetter/pacesetterlaw11.PhaseOpen", spec := "phaseOpen", apart := false }
def PhaseOpenSaid : Prop := phaseOpenRow.holds Try.pinned (OpenSpec.ofChange phaseOpenSpec)

/-- ITS FALSE NEIGHBOUR: 'it returns false'. Refute it at one input. -/
def phaseOpenWrong : ChangeSpec := { name := "phaseOpen", fn := fun _ => fun
  | [d1, d2] => { results := [.lit (.bool false)], args := [d1, d2] }
  | _ => none }
def PhaseOpenWrongFalsely : Prop := phaseOpenRow.holds Try.pinned (OpenSpec.ofChange phaseOpenWrong)

/-- 'pacesetterlaw11.PhaseNext': WHATEVER THE INPUT: true; the input reads as it did. -/
def phaseNextSpec : ChangeSpec := { name := "phaseNext", fn := fun _ => fun
  | [d1, d2, d3] => { results := [.lit (.bool true)], args := [d1, d2, d3] }
  | _ => none }
def phaseNextRow : OpenClaim := { program := "ytcfppmjlljdaiaa", sum := "0f34215d5121cedc31c3b425760a1b10b843d47ab9188558507b1e55f82608e7", func := "pacesetter/pacesetterlaw11.PhaseNext", spec := "phaseNext", apart := false }
def PhaseNextSaid : Prop := phaseNextRow.holds Try.pinned (OpenSpec.ofChange phaseNextSpec)

/-- ITS FALSE NEIGHBOUR: 'it returns false'. Refute it at one input. -/
def phaseNextWrong : ChangeSpec := { name := "phaseNext", fn := fun _ => fun
  | [d1, d2, d3] => { results := [.lit (.bool false)], args := [d1, d2, d3] }
  | _ => none }
def PhaseNextWrongFalsely : Prop := phaseNextRow.holds Try.pinned (OpenSpec.ofChange phaseNextWrong)

/-- 'pacesetterlaw11.PhaseNames': WHATEVER THE INPUT: true; the input reads as it did. -/
def phaseNamesSpec : ChangeSpec := { name := "phaseNames", fn := fun _ => fun
  | [d1, d2] => { results := [.lit (.bool true)], args := [d1, d2] }
  | _ => none }
def phaseNamesRow : OpenClaim := { program := "ytcfppmjlljdaiaa", sum := "0f34215d5121cedc31c3b425760a1b10b843d47ab9188558507b1e55f82608e7", func := "pacesetter/pacesetterlaw11.PhaseNames", spec := "phaseNames", apart := false }
def PhaseNamesSaid : Prop := phaseNamesRow.holds Try.pinned (OpenSpec.ofChange phaseNamesSpec)

/-- ITS FALSE NEIGHBOUR: 'it returns false'. Refute it at one input. -/
def phaseNamesWrong : ChangeSpec := { name := "phaseNames", fn := fun _ => fun
  | [d1, d2] => { results := [.lit (.bool false)], args := [d1, d2] }
  | _ => none }
def PhaseNamesWrongFalsely : Prop := phaseNamesRow.holds Try.pinned (OpenSpec.ofChange phaseNamesWrong)

/- THE SECOND FORM. 'bulk': how many values and letters a reading holds, each counted each time it is reached (what is shared counts as often as it is met; a slice's spare places count too). A statement '..UptoSaid' is the law's where the arguments, and the package variables that the reading takes, are together of bulk at most 1048576: NARROWER than '..Said'. Prove '..Said' where nothing that the law and all that it calls make is longer than what came in: it says more and counts as full. Else prove '..UptoSaid'. A law counts once. -/
mutual
def uptoBulk {H : Type} : DataW H → Nat
  | .lit (.string bytes) => bytes.length + 1
  | .lit _ => 1
  | .nil => 1
  | .ptr d => uptoBulk d + 1
  | .slice elems spare => uptoBulkAll elems + uptoBulkAll spare + 1
  | .agg parts => uptoBulkAll parts + 1
  | .iface _ d => uptoBulk d + 1
  | .map entries => uptoBulkEntries entries + 1
  | .held _ => 1
def uptoBulkAll {H : Type} : List (DataW H) → Nat
  | [] => 0
  | d :: r => uptoBulk d + uptoBulkAll r
def uptoBulkEntries {H : Type} : List (Lit × DataW H) → Nat
  | [] => 0
  | x :: r => uptoBulkEntry x + uptoBulkEntries r
def uptoBulkEntry {H : Type} : Lit × DataW H → Nat
  | (.string bytes, d) => bytes.length + uptoBulk d + 1
  | (_, d) => uptoBulk d + 1
 end
def uptoSmall : (H : Type) → List (DataW H) → Bool := fun _ ds => decide (uptoBulkAll ds ≤ 1048576)
def OpenSpec.upto (s : _root_.Go.ChangeSpec) : _root_.Go.OpenSpec := { _root_.Go.OpenSpec.ofChange s with cond := some uptoSmall }

/-- 'pacesetterlaw11.PhaseWalks', WHERE WHAT IT READS IS OF BULK AT MOST 1048576: true; the input reads as it did. -/
def phaseWalksUptoRow : OpenClaim := { program := "ytcfppmjlljdaiaa", sum := "0f34215d5121cedc31c3b425760a1b10b843d47ab9188558507b1e55f82608e7", func := "pacesetter/pacesetterlaw11.PhaseWalks", spec := "phaseWalks", apart := false, narrowed := true }
def PhaseWalksUptoSaid : Prop := phaseWalksUptoRow.holds Try.pinned (OpenSpec.upto phaseWalksSpec)

/-- 'pacesetterlaw11.PhaseWays', WHERE WHAT IT READS IS OF BULK AT MOST 1048576: true; the input reads as it did. -/
def phaseWaysUptoRow : OpenClaim := { program := "ytcfppmjlljdaiaa", sum := "0f34215d5121cedc31c3b425760a1b10b843d47ab9188558507b1e55f82608e7", func := "pacesetter/pacesetterlaw11.PhaseWays", spec := "phaseWays", apart := false, narrowed := true }
def PhaseWaysUptoSaid : Prop := phaseWaysUptoRow.holds Try.pinned (OpenSpec.upto phaseWaysSpec)

/-- 'pacesetterlaw11.PhaseOpen', WHERE WHAT IT READS IS OF BULK AT MOST 1048576: true; the input reads as it did. -/
def phaseOpenUptoRow : OpenClaim := { program := "ytcfppmjlljdaiaa", sum := "0f34215d5121cedc31c3b425760a1b10b843d47ab9188558507b1e55f82608e7", func := "pacesetter/pacesetterlaw11.PhaseOpen", spec := "phaseOpen", apart := false, narrowed := true }
def PhaseOpenUptoSaid : Prop := phaseOpenUptoRow.holds Try.pinned (OpenSpec.upto phaseOpenSpec)

/-- 'pacesetterlaw11.PhaseNext', WHERE WHAT IT READS IS OF BULK AT MOST 1048576: true; the input reads as it did. -/
def phaseNextUptoRow : OpenClaim := { program := "ytcfppmjlljdaiaa", sum := "0f34215d5121cedc31c3b425760a1b10b843d47ab9188558507b1e55f82608e7", func := "pacesetter/pacesetterlaw11.PhaseNext", spec := "phaseNext", apart := false, narrowed := true }
def PhaseNextUptoSaid : Prop := phaseNextUptoRow.holds Try.pinned (OpenSpec.upto phaseNextSpec)

/-- 'pacesetterlaw11.PhaseNames', WHERE WHAT IT READS IS OF BULK AT MOST 1048576: true; the input reads as it did. -/
def phaseNamesUptoRow : OpenClaim := { program := "ytcfppmjlljdaiaa", sum := "0f34215d5121cedc31c3b425760a1b10b843d47ab9188558507b1e55f82608e7", func := "pacesetter/pacesetterlaw11.PhaseNames", spec := "phaseNames", apart := false, narrowed := true }
def PhaseNamesUptoSaid : Prop := phaseNamesUptoRow.holds Try.pinned (OpenSpec.upto phaseNamesSpec)

end Rows
end Go.Proofs.Ytcfppmjlljdaiaa
