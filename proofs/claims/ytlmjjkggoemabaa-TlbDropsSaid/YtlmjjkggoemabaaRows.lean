/-
  No cell of these rows narrows 'for every input' (looked for: loops, veiled, ifaces, maps, wideKeys, modest, calm, conditions, laid).
  DERIVED. THE GIVEN ROWS OF THIS SEAT. 9 by the template 'for every input the law returns true; each argument reads behind the call as it read before'; 0 by the template 'total and deterministic' (their statements: YtlmjjkggoemabaaTotals.lean).
  GIVEN WITH THE SEED: the statements are not yours to turn. If you find one false, say at which input.
  Laid BY PROGRAM, IN A SANDBOX (cutbox-rows.mjs): the forced cells as the released guide's own fill.sh prints them over the translation f2cfe6dfb1118a17… (all of the seat's roots in one cut). By AI agents, Wed Nov 11 2026. No macro, syntax, notation, axiom, sorry.
-/
import Derived.Test.YtlmjjkggoemabaaChecked
import GoSem.Claim
import GoSem.ClaimJoined
import GoSem.ClaimMapViews
import Derived.JoinedTies
import Derived.KernelRfl
namespace Go.Proofs.Ytlmjjkggoemabaa
/- THE CELL 'sum', in the pinned program and in every row, IS THE sha256 OF THE DUMP (.gsa) THAT YtlmjjkggoemabaaProg.lean LOADS. Nothing in Lean hashes anything: it is a label: what it is worth is what the hold of that sum in a sandbox is worth. -/
noncomputable def Try.pinned : Pinned := { name := "ytlmjjkggoemabaa", sum := "f2cfe6dfb1118a17674e5c59d28acccb54d568b4cfb0dfd55a155b5d8dee7867", checked := Try.checked }
namespace Rows
def none {H : Type} : Left H := { results := [], args := [] }

/-- 'paviorlaw19.ScanPairs': WHATEVER THE INPUT: true; the input reads as it did. -/
def scanPairsSpec : ChangeSpec := { name := "scanPairs", fn := fun _ => fun
  | [d1, d2, d3] => { results := [.lit (.bool true)], args := [d1, d2, d3] }
  | _ => none }
def scanPairsRow : OpenClaim := { program := "ytlmjjkggoemabaa", sum := "f2cfe6dfb1118a17674e5c59d28acccb54d568b4cfb0dfd55a155b5d8dee7867", func := "pavior/paviorlaw19.ScanPairs", spec := "scanPairs", apart := false }
def ScanPairsSaid : Prop := scanPairsRow.holds Try.pinned (OpenSpec.ofChange scanPairsSpec)

/-- ITS FALSE NEIGHBOUR: 'it returns false'. Refute it at one input. -/
def scanPairsWrong : ChangeSpec := { name := "scanPairs", fn := fun _ => fun
  | [d1, d2, d3] => { results := [.lit (.bool false)], args := [d1, d2, d3] }
  | _ => none }
def ScanPairsWrongFalsely : Prop := scanPairsRow.holds Try.pinned (OpenSpec.ofChange scanPairsWrong)

/-- 'paviorlaw19.ScanBroken': WHATEVER THE INPUT: true; the input reads as it did. -/
def scanBrokenSpec : ChangeSpec := { name := "scanBroken", fn := fun _ => fun
  | [d1, d2, d3] => { results := [.lit (.bool true)], args := [d1, d2, d3] }
  | _ => none }
def scanBrokenRow : OpenClaim := { program := "ytlmjjkggoemabaa", sum := "f2cfe6dfb1118a17674e5c59d28acccb54d568b4cfb0dfd55a155b5d8dee7867", func := "pavior/paviorlaw19.ScanBroken", spec := "scanBroken", unfollowed := true, recurses := true, apart := false }
def ScanBrokenSaid : Prop := scanBrokenRow.holds Try.pinned (OpenSpec.ofChange scanBrokenSpec)

/-- ITS FALSE NEIGHBOUR: 'it returns false'. Refute it at one input. -/
def scanBrokenWrong : ChangeSpec := { name := "scanBroken", fn := fun _ => fun
  | [d1, d2, d3] => { results := [.lit (.bool false)], args := [d1, d2, d3] }
  | _ => none }
def ScanBrokenWrongFalsely : Prop := scanBrokenRow.holds Try.pinned (OpenSpec.ofChange scanBrokenWrong)

/-- 'paviorlaw19.ScanStays': WHATEVER THE INPUT: true; the input reads as it did. -/
def scanStaysSpec : ChangeSpec := { name := "scanStays", fn := fun _ => fun
  | [d1, d2, d3] => { results := [.lit (.bool true)], args := [d1, d2, d3] }
  | _ => none }
def scanStaysRow : OpenClaim := { program := "ytlmjjkggoemabaa", sum := "f2cfe6dfb1118a17674e5c59d28acccb54d568b4cfb0dfd55a155b5d8dee7867", func := "pavior/paviorlaw19.ScanStays", spec := "scanStays", unfollowed := true, recurses := true, apart := false }
def ScanStaysSaid : Prop := scanStaysRow.holds Try.pinned (OpenSpec.ofChange scanStaysSpec)

/-- ITS FALSE NEIGHBOUR: 'it returns false'. Refute it at one input. -/
def scanStaysWrong : ChangeSpec := { name := "scanStays", fn := fun _ => fun
  | [d1, d2, d3] => { results := [.lit (.bool false)], args := [d1, d2, d3] }
  | _ => none }
def ScanStaysWrongFalsely : Prop := scanStaysRow.holds Try.pinned (OpenSpec.ofChange scanStaysWrong)

/-- 'paviorlaw19.ScanTurns': WHATEVER THE INPUT: true; the input reads as it did. -/
def scanTurnsSpec : ChangeSpec := { name := "scanTurns", fn := fun _ => fun
  | [d1, d2, d3, d4] => { results := [.lit (.bool true)], args := [d1, d2, d3, d4] }
  | _ => none }
def scanTurnsRow : OpenClaim := { program := "ytlmjjkggoemabaa", sum := "f2cfe6dfb1118a17674e5c59d28acccb54d568b4cfb0dfd55a155b5d8dee7867", func := "pavior/paviorlaw19.ScanTurns", spec := "scanTurns", unfollowed := true, recurses := true, apart := false }
def ScanTurnsSaid : Prop := scanTurnsRow.holds Try.pinned (OpenSpec.ofChange scanTurnsSpec)

/-- ITS FALSE NEIGHBOUR: 'it returns false'. Refute it at one input. -/
def scanTurnsWrong : ChangeSpec := { name := "scanTurns", fn := fun _ => fun
  | [d1, d2, d3, d4] => { results := [.lit (.bool false)], args := [d1, d2, d3, d4] }
  | _ => none }
def ScanTurnsWrongFalsely : Prop := scanTurnsRow.holds Try.pinned (OpenSpec.ofChange scanTurnsWrong)

/-- 'paviorlaw05.TlbFull': WHATEVER THE INPUT: true; the input reads as it did. -/
def tlbFullSpec : ChangeSpec := { name := "tlbFull", fn := fun _ => fun
  | [d1, d2] => { results := [.lit (.bool true)], args := [d1, d2] }
  | _ => none }
def tlbFullRow : OpenClaim := { program := "ytlmjjkggoemabaa", sum := "f2cfe6dfb1118a17674e5c59d28acccb54d568b4cfb0dfd55a155b5d8dee7867", func := "pavior/paviorlaw05.TlbFull", spec := "tlbFull", unfollowed := true, recurses := true, apart := false }
def TlbFullSaid : Prop := tlbFullRow.holds Try.pinned (OpenSpec.ofChange tlbFullSpec)

/-- ITS FALSE NEIGHBOUR: 'it returns false'. Refute it at one input. -/
def tlbFullWrong : ChangeSpec := { name := "tlbFull", fn := fun _ => fun
  | [d1, d2] => { results := [.lit (.bool false)], args := [d1, d2] }
  | _ => none }
def TlbFullWrongFalsely : Prop := tlbFullRow.holds Try.pinned (OpenSpec.ofChange tlbFullWrong)

/-- 'paviorlaw05.TlbStays': WHATEVER THE INPUT: true; the input reads as it did. -/
def tlbStaysSpec : ChangeSpec := { name := "tlbStays", fn := fun _ => fun
  | [d] => { results := [.lit (.bool true)], args := [d] }
  | _ => none }
def tlbStaysRow : OpenClaim := { program := "ytlmjjkggoemabaa", sum := "f2cfe6dfb1118a17674e5c59d28acccb54d568b4cfb0dfd55a155b5d8dee7867", func := "pavior/paviorlaw05.TlbStays", spec := "tlbStays", unfollowed := true, recurses := true, apart := false }
def TlbStaysSaid : Prop := tlbStaysRow.holds Try.pinned (OpenSpec.ofChange tlbStaysSpec)

/-- ITS FALSE NEIGHBOUR: 'it returns false'. Refute it at one input. -/
def tlbStaysWrong : ChangeSpec := { name := "tlbStays", fn := fun _ => fun
  | [d] => { results := [.lit (.bool false)], args := [d] }
  | _ => none }
def TlbStaysWrongFalsely : Prop := tlbStaysRow.holds Try.pinned (OpenSpec.ofChange tlbStaysWrong)

/-- 'paviorlaw05.TlbDrops': WHATEVER THE INPUT: true; the input reads as it did. -/
def tlbDropsSpec : ChangeSpec := { name := "tlbDrops", fn := fun _ => fun
  | [d1, d2, d3, d4] => { results := [.lit (.bool true)], args := [d1, d2, d3, d4] }
  | _ => none }
def tlbDropsRow : OpenClaim := { program := "ytlmjjkggoemabaa", sum := "f2cfe6dfb1118a17674e5c59d28acccb54d568b4cfb0dfd55a155b5d8dee7867", func := "pavior/paviorlaw05.TlbDrops", spec := "tlbDrops", unfollowed := true, recurses := true, apart := false }
def TlbDropsSaid : Prop := tlbDropsRow.holds Try.pinned (OpenSpec.ofChange tlbDropsSpec)

/-- ITS FALSE NEIGHBOUR: 'it returns false'. Refute it at one input. -/
def tlbDropsWrong : ChangeSpec := { name := "tlbDrops", fn := fun _ => fun
  | [d1, d2, d3, d4] => { results := [.lit (.bool false)], args := [d1, d2, d3, d4] }
  | _ => none }
def TlbDropsWrongFalsely : Prop := tlbDropsRow.holds Try.pinned (OpenSpec.ofChange tlbDropsWrong)

/-- 'paviorlaw05.TlbOne': WHATEVER THE INPUT: true; the input reads as it did. -/
def tlbOneSpec : ChangeSpec := { name := "tlbOne", fn := fun _ => fun
  | [d1, d2, d3] => { results := [.lit (.bool true)], args := [d1, d2, d3] }
  | _ => none }
def tlbOneRow : OpenClaim := { program := "ytlmjjkggoemabaa", sum := "f2cfe6dfb1118a17674e5c59d28acccb54d568b4cfb0dfd55a155b5d8dee7867", func := "pavior/paviorlaw05.TlbOne", spec := "tlbOne", unfollowed := true, recurses := true, apart := false }
def TlbOneSaid : Prop := tlbOneRow.holds Try.pinned (OpenSpec.ofChange tlbOneSpec)

/-- ITS FALSE NEIGHBOUR: 'it returns false'. Refute it at one input. -/
def tlbOneWrong : ChangeSpec := { name := "tlbOne", fn := fun _ => fun
  | [d1, d2, d3] => { results := [.lit (.bool false)], args := [d1, d2, d3] }
  | _ => none }
def TlbOneWrongFalsely : Prop := tlbOneRow.holds Try.pinned (OpenSpec.ofChange tlbOneWrong)

/-- 'paviorlaw05.TlbPlays': WHATEVER THE INPUT: true; the input reads as it did. -/
def tlbPlaysSpec : ChangeSpec := { name := "tlbPlays", fn := fun _ => fun
  | [d] => { results := [.lit (.bool true)], args := [d] }
  | _ => none }
def tlbPlaysRow : OpenClaim := { program := "ytlmjjkggoemabaa", sum := "f2cfe6dfb1118a17674e5c59d28acccb54d568b4cfb0dfd55a155b5d8dee7867", func := "pavior/paviorlaw05.TlbPlays", spec := "tlbPlays", unfollowed := true, recurses := true, apart := false }
def TlbPlaysSaid : Prop := tlbPlaysRow.holds Try.pinned (OpenSpec.ofChange tlbPlaysSpec)

/-- ITS FALSE NEIGHBOUR: 'it returns false'. Refute it at one input. -/
def tlbPlaysWrong : ChangeSpec := { name := "tlbPlays", fn := fun _ => fun
  | [d] => { results := [.lit (.bool false)], args := [d] }
  | _ => none }
def TlbPlaysWrongFalsely : Prop := tlbPlaysRow.holds Try.pinned (OpenSpec.ofChange tlbPlaysWrong)

/- THE SECOND FORM. 'bulk': how many values and letters a reading holds, each counted each time it is reached (what is shared counts as often as it is met; a slice's spare places count too). A statement '..UptoSaid' is the law's where the arguments, and the package variables that the reading takes, are together of bulk at most 1048576: NARROWER than '..Said'. Prove '..Said' where nothing that the law and all that it calls make is longer than what came in: it says more and counts as full. Else prove '..UptoSaid'. A law counts once. -/
mutual
def uptoBulk {H : Type} : DataW H → Nat
  | .lit (.string bytes) => bytes.length + 1
  | .lit _ => 1
  | .nil => 1
  | .ptr d => uptoBulk d + 1
  | .slice elems spare => uptoBulkAll elems + uptoBulkAll spare + 1
  | .agg parts => uptoBulkAll parts + 1
  | .iface _ d => uptoBulk d + 1
  | .map entries => uptoBulkEntries entries + 1
  | .held _ => 1
def uptoBulkAll {H : Type} : List (DataW H) → Nat
  | [] => 0
  | d :: r => uptoBulk d + uptoBulkAll r
def uptoBulkEntries {H : Type} : List (Lit × DataW H) → Nat
  | [] => 0
  | x :: r => uptoBulkEntry x + uptoBulkEntries r
def uptoBulkEntry {H : Type} : Lit × DataW H → Nat
  | (.string bytes, d) => bytes.length + uptoBulk d + 1
  | (_, d) => uptoBulk d + 1
 end
def uptoSmall : (H : Type) → List (DataW H) → Bool := fun _ ds => decide (uptoBulkAll ds ≤ 1048576)
def OpenSpec.upto (s : _root_.Go.ChangeSpec) : _root_.Go.OpenSpec := { _root_.Go.OpenSpec.ofChange s with cond := some uptoSmall }

/-- 'paviorlaw19.ScanPairs', WHERE WHAT IT READS IS OF BULK AT MOST 1048576: true; the input reads as it did. -/
def scanPairsUptoRow : OpenClaim := { program := "ytlmjjkggoemabaa", sum := "f2cfe6dfb1118a17674e5c59d28acccb54d568b4cfb0dfd55a155b5d8dee7867", func := "pavior/paviorlaw19.ScanPairs", spec := "scanPairs", apart := false, narrowed := true }
def ScanPairsUptoSaid : Prop := scanPairsUptoRow.holds Try.pinned (OpenSpec.upto scanPairsSpec)

/-- 'paviorlaw19.ScanBroken', WHERE WHAT IT READS IS OF BULK AT MOST 1048576: true; the input reads as it did. -/
def scanBrokenUptoRow : OpenClaim := { program := "ytlmjjkggoemabaa", sum := "f2cfe6dfb1118a17674e5c59d28acccb54d568b4cfb0dfd55a155b5d8dee7867", func := "pavior/paviorlaw19.ScanBroken", spec := "scanBroken", unfollowed := true, recurses := true, apart := false, narrowed := true }
def ScanBrokenUptoSaid : Prop := scanBrokenUptoRow.holds Try.pinned (OpenSpec.upto scanBrokenSpec)

/-- 'paviorlaw19.ScanStays', WHERE WHAT IT READS IS OF BULK AT MOST 1048576: true; the input reads as it did. -/
def scanStaysUptoRow : OpenClaim := { program := "ytlmjjkggoemabaa", sum := "f2cfe6dfb1118a17674e5c59d28acccb54d568b4cfb0dfd55a155b5d8dee7867", func := "pavior/paviorlaw19.ScanStays", spec := "scanStays", unfollowed := true, recurses := true, apart := false, narrowed := true }
def ScanStaysUptoSaid : Prop := scanStaysUptoRow.holds Try.pinned (OpenSpec.upto scanStaysSpec)

/-- 'paviorlaw19.ScanTurns', WHERE WHAT IT READS IS OF BULK AT MOST 1048576: true; the input reads as it did. -/
def scanTurnsUptoRow : OpenClaim := { program := "ytlmjjkggoemabaa", sum := "f2cfe6dfb1118a17674e5c59d28acccb54d568b4cfb0dfd55a155b5d8dee7867", func := "pavior/paviorlaw19.ScanTurns", spec := "scanTurns", unfollowed := true, recurses := true, apart := false, narrowed := true }
def ScanTurnsUptoSaid : Prop := scanTurnsUptoRow.holds Try.pinned (OpenSpec.upto scanTurnsSpec)

/-- 'paviorlaw05.TlbFull', WHERE WHAT IT READS IS OF BULK AT MOST 1048576: true; the input reads as it did. -/
def tlbFullUptoRow : OpenClaim := { program := "ytlmjjkggoemabaa", sum := "f2cfe6dfb1118a17674e5c59d28acccb54d568b4cfb0dfd55a155b5d8dee7867", func := "pavior/paviorlaw05.TlbFull", spec := "tlbFull", unfollowed := true, recurses := true, apart := false, narrowed := true }
def TlbFullUptoSaid : Prop := tlbFullUptoRow.holds Try.pinned (OpenSpec.upto tlbFullSpec)

/-- 'paviorlaw05.TlbStays', WHERE WHAT IT READS IS OF BULK AT MOST 1048576: true; the input reads as it did. -/
def tlbStaysUptoRow : OpenClaim := { program := "ytlmjjkggoemabaa", sum := "f2cfe6dfb1118a17674e5c59d28acccb54d568b4cfb0dfd55a155b5d8dee7867", func := "pavior/paviorlaw05.TlbStays", spec := "tlbStays", unfollowed := true, recurses := true, apart := false, narrowed := true }
def TlbStaysUptoSaid : Prop := tlbStaysUptoRow.holds Try.pinned (OpenSpec.upto tlbStaysSpec)

/-- 'paviorlaw05.TlbDrops', WHERE WHAT IT READS IS OF BULK AT MOST 1048576: true; the input reads as it did. -/
def tlbDropsUptoRow : OpenClaim := { program := "ytlmjjkggoemabaa", sum := "f2cfe6dfb1118a17674e5c59d28acccb54d568b4cfb0dfd55a155b5d8dee7867", func := "pavior/paviorlaw05.TlbDrops", spec := "tlbDrops", unfollowed := true, recurses := true, apart := false, narrowed := true }
def TlbDropsUptoSaid : Prop := tlbDropsUptoRow.holds Try.pinned (OpenSpec.upto tlbDropsSpec)

/-- 'paviorlaw05.TlbOne', WHERE WHAT IT READS IS OF BULK AT MOST 1048576: true; the input reads as it did. -/
def tlbOneUptoRow : OpenClaim := { program := "ytlmjjkggoemabaa", sum := "f2cfe6dfb1118a17674e5c59d28acccb54d568b4cfb0dfd55a155b5d8dee7867", func := "pavior/paviorlaw05.TlbOne", spec := "tlbOne", unfollowed := true, recurses := true, apart := false, narrowed := true }
def TlbOneUptoSaid : Prop := tlbOneUptoRow.holds Try.pinned (OpenSpec.upto tlbOneSpec)

/-- 'paviorlaw05.TlbPlays', WHERE WHAT IT READS IS OF BULK AT MOST 1048576: true; the input reads as it did. -/
def tlbPlaysUptoRow : OpenClaim := { program := "ytlmjjkggoemabaa", sum := "f2cfe6dfb1118a17674e5c59d28acccb54d568b4cfb0dfd55a155b5d8dee7867", func := "pavior/paviorlaw05.TlbPlays", spec := "tlbPlays", unfollowed := true, recurses := true, apart := false, narrowed := true }
def TlbPlaysUptoSaid : Prop := tlbPlaysUptoRow.holds Try.pinned (OpenSpec.upto tlbPlaysSpec)

end Rows
end Go.Proofs.Ytlmjjkggoemabaa
