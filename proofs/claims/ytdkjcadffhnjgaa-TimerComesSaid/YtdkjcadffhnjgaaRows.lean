/-
  No cell of these rows narrows 'for every input' (looked for: loops, veiled, ifaces, maps, wideKeys, modest, calm, conditions, laid).
  DERIVED. THE GIVEN ROWS OF THIS SEAT. 4 by the template 'for every input the law returns true; each argument reads behind the call as it read before'; 0 by the template 'total and deterministic' (their statements: YtdkjcadffhnjgaaTotals.lean).
  GIVEN WITH THE SEED: the statements are not yours to turn. If you find one false, say at which input.
  Laid BY PROGRAM, IN A SANDBOX (cutbox-rows.mjs): the forced cells as the released guide's own fill.sh prints them over the translation b37bf8711b00a9f7… (all of the seat's roots in one cut). By AI agents, Wed Nov 11 2026. No macro, syntax, notation, axiom, sorry.
-/
import Derived.Test.YtdkjcadffhnjgaaChecked
import GoSem.Claim
import GoSem.ClaimJoined
import GoSem.ClaimMapViews
import Derived.JoinedTies
import Derived.KernelRfl
namespace Go.Proofs.Ytdkjcadffhnjgaa
/- THE CELL 'sum', in the pinned program and in every row, IS THE sha256 OF THE DUMP (.gsa) THAT YtdkjcadffhnjgaaProg.lean LOADS. Nothing in Lean hashes anything: it is a label: what it is worth is what the hold of that sum in a sandbox is worth. -/
noncomputable def Try.pinned : Pinned := { name := "ytdkjcadffhnjgaa", sum := "b37bf8711b00a9f77655e685409fc51de464feef0ce3141c6f344e6a5ab960cb", checked := Try.checked }
namespace Rows
def none {H : Type} : Left H := { results := [], args := [] }

/-- 'vinerylaw13.TimerAgain': WHATEVER THE INPUT: true; the input reads as it did. -/
def timerAgainSpec : ChangeSpec := { name := "timerAgain", fn := fun _ => fun
  | [d1, d2, d3] => { results := [.lit (.bool true)], args := [d1, d2, d3] }
  | _ => none }
def timerAgainRow : OpenClaim := { program := "ytdkjcadffhnjgaa", sum := "b37bf8711b00a9f77655e685409fc51de464feef0ce3141c6f344e6a5ab960cb", func := "vinery/vinerylaw13.TimerAgain", spec := "timerAgain", recurses := true, apart := false }
def TimerAgainSaid : Prop := timerAgainRow.holds Try.pinned (OpenSpec.ofChange timerAgainSpec)

/-- ITS FALSE NEIGHBOUR: 'it returns false'. Refute it at one input. -/
def timerAgainWrong : ChangeSpec := { name := "timerAgain", fn := fun _ => fun
  | [d1, d2, d3] => { results := [.lit (.bool false)], args := [d1, d2, d3] }
  | _ => none }
def TimerAgainWrongFalsely : Prop := timerAgainRow.holds Try.pinned (OpenSpec.ofChange timerAgainWrong)

/-- 'vinerylaw13.TimerPlays': WHATEVER THE INPUT: true; the input reads as it did. -/
def timerPlaysSpec : ChangeSpec := { name := "timerPlays", fn := fun _ => fun
  | [d] => { results := [.lit (.bool true)], args := [d] }
  | _ => none }
def timerPlaysRow : OpenClaim := { program := "ytdkjcadffhnjgaa", sum := "b37bf8711b00a9f77655e685409fc51de464feef0ce3141c6f344e6a5ab960cb", func := "vinery/vinerylaw13.TimerPlays", spec := "timerPlays", recurses := true, apart := false }
def TimerPlaysSaid : Prop := timerPlaysRow.holds Try.pinned (OpenSpec.ofChange timerPlaysSpec)

/-- ITS FALSE NEIGHBOUR: 'it returns false'. Refute it at one input. -/
def timerPlaysWrong : ChangeSpec := { name := "timerPlays", fn := fun _ => fun
  | [d] => { results := [.lit (.bool false)], args := [d] }
  | _ => none }
def TimerPlaysWrongFalsely : Prop := timerPlaysRow.holds Try.pinned (OpenSpec.ofChange timerPlaysWrong)

/-- 'vinerylaw13.TimerComes': WHATEVER THE INPUT: true; the input reads as it did. -/
def timerComesSpec : ChangeSpec := { name := "timerComes", fn := fun _ => fun
  | [d1, d2, d3, d4] => { results := [.lit (.bool true)], args := [d1, d2, d3, d4] }
  | _ => none }
def timerComesRow : OpenClaim := { program := "ytdkjcadffhnjgaa", sum := "b37bf8711b00a9f77655e685409fc51de464feef0ce3141c6f344e6a5ab960cb", func := "vinery/vinerylaw13.TimerComes", spec := "timerComes", recurses := true, apart := false }
def TimerComesSaid : Prop := timerComesRow.holds Try.pinned (OpenSpec.ofChange timerComesSpec)

/-- ITS FALSE NEIGHBOUR: 'it returns false'. Refute it at one input. -/
def timerComesWrong : ChangeSpec := { name := "timerComes", fn := fun _ => fun
  | [d1, d2, d3, d4] => { results := [.lit (.bool false)], args := [d1, d2, d3, d4] }
  | _ => none }
def TimerComesWrongFalsely : Prop := timerComesRow.holds Try.pinned (OpenSpec.ofChange timerComesWrong)

/-- 'vinerylaw13.TimerFirst': WHATEVER THE INPUT: true; the input reads as it did. -/
def timerFirstSpec : ChangeSpec := { name := "timerFirst", fn := fun _ => fun
  | [d] => { results := [.lit (.bool true)], args := [d] }
  | _ => none }
def timerFirstRow : OpenClaim := { program := "ytdkjcadffhnjgaa", sum := "b37bf8711b00a9f77655e685409fc51de464feef0ce3141c6f344e6a5ab960cb", func := "vinery/vinerylaw13.TimerFirst", spec := "timerFirst", recurses := true, apart := false }
def TimerFirstSaid : Prop := timerFirstRow.holds Try.pinned (OpenSpec.ofChange timerFirstSpec)

/-- ITS FALSE NEIGHBOUR: 'it returns false'. Refute it at one input. -/
def timerFirstWrong : ChangeSpec := { name := "timerFirst", fn := fun _ => fun
  | [d] => { results := [.lit (.bool false)], args := [d] }
  | _ => none }
def TimerFirstWrongFalsely : Prop := timerFirstRow.holds Try.pinned (OpenSpec.ofChange timerFirstWrong)

/- THE SECOND FORM. 'bulk': how many values and letters a reading holds, each counted each time it is reached (what is shared counts as often as it is met; a slice's spare places count too). A statement '..UptoSaid' is the law's where the arguments, and the package variables that the reading takes, are together of bulk at most 1048576: NARROWER than '..Said'. Prove '..Said' where nothing that the law and all that it calls make is longer than what came in: it says more and counts as full. Else prove '..UptoSaid'. A law counts once. -/
mutual
def uptoBulk {H : Type} : DataW H → Nat
  | .lit (.string bytes) => bytes.length + 1
  | .lit _ => 1
  | .nil => 1
  | .ptr d => uptoBulk d + 1
  | .slice elems spare => uptoBulkAll elems + uptoBulkAll spare + 1
  | .agg parts => uptoBulkAll parts + 1
  | .iface _ d => uptoBulk d + 1
  | .map entries => uptoBulkEntries entries + 1
  | .held _ => 1
def uptoBulkAll {H : Type} : List (DataW H) → Nat
  | [] => 0
  | d :: r => uptoBulk d + uptoBulkAll r
def uptoBulkEntries {H : Type} : List (Lit × DataW H) → Nat
  | [] => 0
  | x :: r => uptoBulkEntry x + uptoBulkEntries r
def uptoBulkEntry {H : Type} : Lit × DataW H → Nat
  | (.string bytes, d) => bytes.length + uptoBulk d + 1
  | (_, d) => uptoBulk d + 1
 end
def uptoSmall : (H : Type) → List (DataW H) → Bool := fun _ ds => decide (uptoBulkAll ds ≤ 1048576)
def OpenSpec.upto (s : _root_.Go.ChangeSpec) : _root_.Go.OpenSpec := { _root_.Go.OpenSpec.ofChange s with cond := some uptoSmall }

/-- 'vinerylaw13.TimerAgain', WHERE WHAT IT READS IS OF BULK AT MOST 1048576: true; the input reads as it did. -/
def timerAgainUptoRow : OpenClaim := { program := "ytdkjcadffhnjgaa", sum := "b37bf8711b00a9f77655e685409fc51de464feef0ce3141c6f344e6a5ab960cb", func := "vinery/vinerylaw13.TimerAgain", spec := "timerAgain", recurses := true, apart := false, narrowed := true }
def TimerAgainUptoSaid : Prop := timerAgainUptoRow.holds Try.pinned (OpenSpec.upto timerAgainSpec)

/-- 'vinerylaw13.TimerPlays', WHERE WHAT IT READS IS OF BULK AT MOST 1048576: true; the input reads as it did. -/
def timerPlaysUptoRow : OpenClaim := { program := "ytdkjcadffhnjgaa", sum := "b37bf8711b00a9f77655e685409fc51de464feef0ce3141c6f344e6a5ab960cb", func := "vinery/vinerylaw13.TimerPlays", spec := "timerPlays", recurses := true, apart := false, narrowed := true }
def TimerPlaysUptoSaid : Prop := timerPlaysUptoRow.holds Try.pinned (OpenSpec.upto timerPlaysSpec)

/-- 'vinerylaw13.TimerComes', WHERE WHAT IT READS IS OF BULK AT MOST 1048576: true; the input reads as it did. -/
def timerComesUptoRow : OpenClaim := { program := "ytdkjcadffhnjgaa", sum := "b37bf8711b00a9f77655e685409fc51de464feef0ce3141c6f344e6a5ab960cb", func := "vinery/vinerylaw13.TimerComes", spec := "timerComes", recurses := true, apart := false, narrowed := true }
def TimerComesUptoSaid : Prop := timerComesUptoRow.holds Try.pinned (OpenSpec.upto timerComesSpec)

/-- 'vinerylaw13.TimerFirst', WHERE WHAT IT READS IS OF BULK AT MOST 1048576: true; the input reads as it did. -/
def timerFirstUptoRow : OpenClaim := { program := "ytdkjcadffhnjgaa", sum := "b37bf8711b00a9f77655e685409fc51de464feef0ce3141c6f344e6a5ab960cb", func := "vinery/vinerylaw13.TimerFirst", spec := "timerFirst", recurses := true, apart := false, narrowed := true }
def TimerFirstUptoSaid : Prop := timerFirstUptoRow.holds Try.pinned (OpenSpec.upto timerFirstSpec)

end Rows
end Go.Proofs.Ytdkjcadffhnjgaa
