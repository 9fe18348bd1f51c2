/-
  No cell of these rows narrows 'for every input' (looked for: loops, veiled, ifaces, maps, wideKeys, modest, calm, conditions, laid).
  DERIVED. THE GIVEN ROWS OF THIS SEAT. 3 by the template 'for every input the law returns true; each argument reads behind the call as it read before'; 0 by the template 'total and deterministic' (their statements: YtfbjhioefkimbaaTotals.lean).
  GIVEN WITH THE SEED: the statements are not yours to turn. If you find one false, say at which input.
  Laid BY PROGRAM, IN A SANDBOX (cutbox-rows.mjs): the forced cells as the released guide's own fill.sh prints them over the translation 67cf7492b38cf826… (all of the seat's roots in one cut). By AI agents, Wed Nov 11 2026. No macro, syntax, notation, axiom, sorry.
-/
import Derived.Test.YtfbjhioefkimbaaChecked
import GoSem.Claim
import GoSem.ClaimJoined
import GoSem.ClaimMapViews
import Derived.JoinedTies
import Derived.KernelRfl
namespace Go.Proofs.Ytfbjhioefkimbaa
/- THE CELL 'sum', in the pinned program and in every row, IS THE sha256 OF THE DUMP (.gsa) THAT YtfbjhioefkimbaaProg.lean LOADS. Nothing in Lean hashes anything: it is a label: what it is worth is what the hold of that sum in a sandbox is worth. -/
noncomputable def Try.pinned : Pinned := { name := "ytfbjhioefkimbaa", sum := "67cf7492b38cf8268436c2d2bbac830a0827ee0730ff219d697fcb6433bb3421", checked := Try.checked }
namespace Rows
def none {H : Type} : Left H := { results := [], args := [] }

/-- 'paviorlaw05.TlbStays': WHATEVER THE INPUT: true; the input reads as it did. -/
def tlbStaysSpec : ChangeSpec := { name := "tlbStays", fn := fun _ => fun
  | [d] => { results := [.lit (.bool true)], args := [d] }
  | _ => none }
def tlbStaysRow : OpenClaim := { program := "ytfbjhioefkimbaa", sum := "67cf7492b38cf8268436c2d2bbac830a0827ee0730ff219d697fcb6433bb3421", func := "pavior/paviorlaw05.TlbStays", spec := "tlbStays", unfollowed := true, recurses := true, apart := false }
def TlbStaysSaid : Prop := tlbStaysRow.holds Try.pinned (OpenSpec.ofChange tlbStaysSpec)

/-- ITS FALSE NEIGHBOUR: 'it returns false'. Refute it at one input. -/
def tlbStaysWrong : ChangeSpec := { name := "tlbStays", fn := fun _ => fun
  | [d] => { results := [.lit (.bool false)], args := [d] }
  | _ => none }
def TlbStaysWrongFalsely : Prop := tlbStaysRow.holds Try.pinned (OpenSpec.ofChange tlbStaysWrong)

/-- 'paviorlaw05.TlbOne': WHATEVER THE INPUT: true; the input reads as it did. -/
def tlbOneSpec : ChangeSpec := { name := "tlbOne", fn := fun _ => fun
  | [d1, d2, d3] => { results := [.lit (.bool true)], args := [d1, d2, d3] }
  | _ => none }
def tlbOneRow : OpenClaim := { program := "ytfbjhioefkimbaa", sum := "67cf7492b38cf8268436c2d2bbac830a0827ee0730ff219d697fcb6433bb3421", func := "pavior/paviorlaw05.TlbOne", spec := "tlbOne", unfollowed := true, recurses := true, apart := false }
def TlbOneSaid : Prop := tlbOneRow.holds Try.pinned (OpenSpec.ofChange tlbOneSpec)

/-- ITS FALSE NEIGHBOUR: 'it returns false'. Refute it at one input. -/
def tlbOneWrong : ChangeSpec := { name := "tlbOne", fn := fun _ => fun
  | [d1, d2, d3] => { results := [.lit (.bool false)], args := [d1, d2, d3] }
  | _ => none }
def TlbOneWrongFalsely : Prop := tlbOneRow.holds Try.pinned (OpenSpec.ofChange tlbOneWrong)

/-- 'paviorlaw05.TlbPlays': WHATEVER THE INPUT: true; the input reads as it did. -/
def tlbPlaysSpec : ChangeSpec := { name := "tlbPlays", fn := fun _ => fun
  | [d] => { results := [.lit (.bool true)], args := [d] }
  | _ => none }
def tlbPlaysRow : OpenClaim := { program := "ytfbjhioefkimbaa", sum := "67cf7492b38cf8268436c2d2bbac830a0827ee0730ff219d697fcb6433bb3421", func := "pavior/paviorlaw05.TlbPlays", spec := "tlbPlays", unfollowed := true, recurses := true, apart := false }
def TlbPlaysSaid : Prop := tlbPlaysRow.holds Try.pinned (OpenSpec.ofChange tlbPlaysSpec)

/-- ITS FALSE NEIGHBOUR: 'it returns false'. Refute it at one input. -/
def tlbPlaysWrong : ChangeSpec := { name := "tlbPlays", fn := fun _ => fun
  | [d] => { results := [.lit (.bool false)], args := [d] }
  | _ => none }
def TlbPlaysWrongFalsely : Prop := tlbPlaysRow.holds Try.pinned (OpenSpec.ofChange tlbPlaysWrong)

/- THE SECOND FORM. 'bulk': how many values and letters a reading holds, each counted each time it is reached (what is shared counts as often as it is met; a slice's spare places count too). A statement '..UptoSaid' is the law's where the arguments, and the package variables that the reading takes, are together of bulk at most 1048576: NARROWER than '..Said'. Prove '..Said' where nothing that the law and all that it calls make is longer than what came in: it says more and counts as full. Else prove '..UptoSaid'. A law counts once. -/
mutual
def uptoBulk {H : Type} : DataW H → Nat
  | .lit (.string bytes) => bytes.length + 1
  | .lit _ => 1
  | .nil => 1
  | .ptr d => uptoBulk d + 1
  | .slice elems spare => uptoBulkAll elems + uptoBulkAll spare + 1
  | .agg parts => uptoBulkAll parts + 1
  | .iface _ d => uptoBulk d + 1
  | .map entries => uptoBulkEntries entries + 1
  | .held _ => 1
def uptoBulkAll {H : Type} : List (DataW H) → Nat
  | [] => 0
  | d :: r => uptoBulk d + uptoBulkAll r
def uptoBulkEntries {H : Type} : List (Lit × DataW H) → Nat
  | [] => 0
  | x :: r => uptoBulkEntry x + uptoBulkEntries r
def uptoBulkEntry {H : Type} : Lit × DataW H → Nat
  | (.string bytes, d) => bytes.length + uptoBulk d + 1
  | (_, d) => uptoBulk d + 1
 end
def uptoSmall : (H : Type) → List (DataW H) → Bool := fun _ ds => decide (uptoBulkAll ds ≤ 1048576)
def OpenSpec.upto (s : _root_.Go.ChangeSpec) : _root_.Go.OpenSpec := { _root_.Go.OpenSpec.ofChange s with cond := some uptoSmall }

/-- 'paviorlaw05.TlbStays', WHERE WHAT IT READS IS OF BULK AT MOST 1048576: true; the input reads as it did. -/
def tlbStaysUptoRow : OpenClaim := { program := "ytfbjhioefkimbaa", sum := "67cf7492b38cf8268436c2d2bbac830a0827ee0730ff219d697fcb6433bb3421", func := "pavior/paviorlaw05.TlbStays", spec := "tlbStays", unfollowed := true, recurses := true, apart := false, narrowed := true }
def TlbStaysUptoSaid : Prop := tlbStaysUptoRow.holds Try.pinned (OpenSpec.upto tlbStaysSpec)

/-- 'paviorlaw05.TlbOne', WHERE WHAT IT READS IS OF BULK AT MOST 1048576: true; the input reads as it did. -/
def tlbOneUptoRow : OpenClaim := { program := "ytfbjhioefkimbaa", sum := "67cf7492b38cf8268436c2d2bbac830a0827ee0730ff219d697fcb6433bb3421", func := "pavior/paviorlaw05.TlbOne", spec := "tlbOne", unfollowed := true, recurses := true, apart := false, narrowed := true }
def TlbOneUptoSaid : Prop := tlbOneUptoRow.holds Try.pinned (OpenSpec.upto tlbOneSpec)

/-- 'paviorlaw05.TlbPlays', WHERE WHAT IT READS IS OF BULK AT MOST 1048576: true; the input reads as it did. -/
def tlbPlaysUptoRow : OpenClaim := { program := "ytfbjhioefkimbaa", sum := "67cf7492b38cf8268436c2d2bbac830a0827ee0730ff219d697fcb6433bb3421", func := "pavior/paviorlaw05.TlbPlays", spec := "tlbPlays", unfollowed := true, recurses := true, apart := false, narrowed := true }
def TlbPlaysUptoSaid : Prop := tlbPlaysUptoRow.holds Try.pinned (OpenSpec.upto tlbPlaysSpec)

end Rows
end Go.Proofs.Ytfbjhioefkimbaa
