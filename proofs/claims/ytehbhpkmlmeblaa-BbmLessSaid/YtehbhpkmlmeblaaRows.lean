/-
  No cell of these rows narrows 'for every input' (looked for: loops, veiled, ifaces, maps, wideKeys, modest, calm, conditions, laid).
  DERIVED. THE GIVEN ROWS OF THIS SEAT. 3 by the template 'for every input the law returns true; each argument reads behind the call as it read before'; 0 by the template 'total and deterministic' (their statements: YtehbhpkmlmeblaaTotals.lean).
  GIVEN WITH THE SEED: the statements are not yours to turn. If you find one false, say at which input.
  Laid BY PROGRAM, IN A SANDBOX (cutbox-rows.mjs): the forced cells as the released guide's own fill.sh prints them over the translation 1b0b944db7e8e071… (all of the seat's roots in one cut). By AI agents, Wed Nov 11 2026. No macro, syntax, notation, axiom, sorry.
-/
import Derived.Test.YtehbhpkmlmeblaaChecked
import GoSem.Claim
import GoSem.ClaimJoined
import GoSem.ClaimMapViews
import Derived.JoinedTies
import Derived.KernelRfl
namespace Go.Proofs.Ytehbhpkmlmeblaa
/- THE CELL 'sum', in the pinned program and in every row, IS THE sha256 OF THE DUMP (.gsa) THAT YtehbhpkmlmeblaaProg.lean LOADS. Nothing in Lean hashes anything: it is a label: what it is worth is what the hold of that sum in a sandbox is worth. -/
noncomputable def Try.pinned : Pinned := { name := "ytehbhpkmlmeblaa", sum := "1b0b944db7e8e071e549192e34c98f835309a0580336bc998f2514cee11ca877", checked := Try.checked }
namespace Rows
def none {H : Type} : Left H := { results := [], args := [] }

/-- 'paviorlaw06.BbmKeeps': WHATEVER THE INPUT: true; the input reads as it did. -/
def bbmKeepsSpec : ChangeSpec := { name := "bbmKeeps", fn := fun _ => fun
  | [d1, d2, d3, d4, d5, d6, d7] => { results := [.lit (.bool true)], args := [d1, d2, d3, d4, d5, d6, d7] }
  | _ => none }
def bbmKeepsRow : OpenClaim := { program := "ytehbhpkmlmeblaa", sum := "1b0b944db7e8e071e549192e34c98f835309a0580336bc998f2514cee11ca877", func := "pavior/paviorlaw06.BbmKeeps", spec := "bbmKeeps", plainKeys := false, apart := false }
def BbmKeepsSaid : Prop := bbmKeepsRow.holds Try.pinned (OpenSpec.ofChange bbmKeepsSpec)

/-- ITS FALSE NEIGHBOUR: 'it returns false'. Refute it at one input. -/
def bbmKeepsWrong : ChangeSpec := { name := "bbmKeeps", fn := fun _ => fun
  | [d1, d2, d3, d4, d5, d6, d7] => { results := [.lit (.bool false)], args := [d1, d2, d3, d4, d5, d6, d7] }
  | _ => none }
def BbmKeepsWrongFalsely : Prop := bbmKeepsRow.holds Try.pinned (OpenSpec.ofChange bbmKeepsWrong)

/-- 'paviorlaw06.BbmLess': WHATEVER THE INPUT: true; the input reads as it did. -/
def bbmLessSpec : ChangeSpec := { name := "bbmLess", fn := fun _ => fun
  | [d1, d2, d3, d4, d5, d6, d7, d8] => { results := [.lit (.bool true)], args := [d1, d2, d3, d4, d5, d6, d7, d8] }
  | _ => none }
def bbmLessRow : OpenClaim := { program := "ytehbhpkmlmeblaa", sum := "1b0b944db7e8e071e549192e34c98f835309a0580336bc998f2514cee11ca877", func := "pavior/paviorlaw06.BbmLess", spec := "bbmLess", plainKeys := false, apart := false }
def BbmLessSaid : Prop := bbmLessRow.holds Try.pinned (OpenSpec.ofChange bbmLessSpec)

/-- ITS FALSE NEIGHBOUR: 'it returns false'. Refute it at one input. -/
def bbmLessWrong : ChangeSpec := { name := "bbmLess", fn := fun _ => fun
  | [d1, d2, d3, d4, d5, d6, d7, d8] => { results := [.lit (.bool false)], args := [d1, d2, d3, d4, d5, d6, d7, d8] }
  | _ => none }
def BbmLessWrongFalsely : Prop := bbmLessRow.holds Try.pinned (OpenSpec.ofChange bbmLessWrong)

/-- 'paviorlaw06.BbmOthers': WHATEVER THE INPUT: true; the input reads as it did. -/
def bbmOthersSpec : ChangeSpec := { name := "bbmOthers", fn := fun _ => fun
  | [d1, d2, d3, d4, d5, d6, d7, d8] => { results := [.lit (.bool true)], args := [d1, d2, d3, d4, d5, d6, d7, d8] }
  | _ => none }
def bbmOthersRow : OpenClaim := { program := "ytehbhpkmlmeblaa", sum := "1b0b944db7e8e071e549192e34c98f835309a0580336bc998f2514cee11ca877", func := "pavior/paviorlaw06.BbmOthers", spec := "bbmOthers", plainKeys := false, apart := false }
def BbmOthersSaid : Prop := bbmOthersRow.holds Try.pinned (OpenSpec.ofChange bbmOthersSpec)

/-- ITS FALSE NEIGHBOUR: 'it returns false'. Refute it at one input. -/
def bbmOthersWrong : ChangeSpec := { name := "bbmOthers", fn := fun _ => fun
  | [d1, d2, d3, d4, d5, d6, d7, d8] => { results := [.lit (.bool false)], args := [d1, d2, d3, d4, d5, d6, d7, d8] }
  | _ => none }
def BbmOthersWrongFalsely : Prop := bbmOthersRow.holds Try.pinned (OpenSpec.ofChange bbmOthersWrong)

/- THE SECOND FORM. 'bulk': how many values and letters a reading holds, each counted each time it is reached (what is shared counts as often as it is met; a slice's spare places count too). A statement '..UptoSaid' is the law's where the arguments, and the package variables that the reading takes, are together of bulk at most 1048576: NARROWER than '..Said'. Prove '..Said' where nothing that the law and all that it calls make is longer than what came in: it says more and counts as full. Else prove '..UptoSaid'. A law counts once. -/
mutual
def uptoBulk {H : Type} : DataW H → Nat
  | .lit (.string bytes) => bytes.length + 1
  | .lit _ => 1
  | .nil => 1
  | .ptr d => uptoBulk d + 1
  | .slice elems spare => uptoBulkAll elems + uptoBulkAll spare + 1
  | .agg parts => uptoBulkAll parts + 1
  | .iface _ d => uptoBulk d + 1
  | .map entries => uptoBulkEntries entries + 1
  | .held _ => 1
def uptoBulkAll {H : Type} : List (DataW H) → Nat
  | [] => 0
  | d :: r => uptoBulk d + uptoBulkAll r
def uptoBulkEntries {H : Type} : List (Lit × DataW H) → Nat
  | [] => 0
  | x :: r => uptoBulkEntry x + uptoBulkEntries r
def uptoBulkEntry {H : Type} : Lit × DataW H → Nat
  | (.string bytes, d) => bytes.length + uptoBulk d + 1
  | (_, d) => uptoBulk d + 1
 end
def uptoSmall : (H : Type) → List (DataW H) → Bool := fun _ ds => decide (uptoBulkAll ds ≤ 1048576)
def OpenSpec.upto (s : _root_.Go.ChangeSpec) : _root_.Go.OpenSpec := { _root_.Go.OpenSpec.ofChange s with cond := some uptoSmall }

/-- 'paviorlaw06.BbmKeeps', WHERE WHAT IT READS IS OF BULK AT MOST 1048576: true; the input reads as it did. -/
def bbmKeepsUptoRow : OpenClaim := { program := "ytehbhpkmlmeblaa", sum := "1b0b944db7e8e071e549192e34c98f835309a0580336bc998f2514cee11ca877", func := "pavior/paviorlaw06.BbmKeeps", spec := "bbmKeeps", plainKeys := false, apart := false, narrowed := true }
def BbmKeepsUptoSaid : Prop := bbmKeepsUptoRow.holds Try.pinned (OpenSpec.upto bbmKeepsSpec)

/-- 'paviorlaw06.BbmLess', WHERE WHAT IT READS IS OF BULK AT MOST 1048576: true; the input reads as it did. -/
def bbmLessUptoRow : OpenClaim := { program := "ytehbhpkmlmeblaa", sum := "1b0b944db7e8e071e549192e34c98f835309a0580336bc998f2514cee11ca877", func := "pavior/paviorlaw06.BbmLess", spec := "bbmLess", plainKeys := false, apart := false, narrowed := true }
def BbmLessUptoSaid : Prop := bbmLessUptoRow.holds Try.pinned (OpenSpec.upto bbmLessSpec)

/-- 'paviorlaw06.BbmOthers', WHERE WHAT IT READS IS OF BULK AT MOST 1048576: true; the input reads as it did. -/
def bbmOthersUptoRow : OpenClaim := { program := "ytehbhpkmlmeblaa", sum := "1b0b944db7e8e071e549192e34c98f835309a0580336bc998f2514cee11ca877", func := "pavior/paviorlaw06.BbmOthers", spec := "bbmOthers", plainKeys := false, apart := false, narrowed := true }
def BbmOthersUptoSaid : Prop := bbmOthersUptoRow.holds Try.pinned (OpenSpec.upto bbmOthersSpec)

end Rows
end Go.Proofs.Ytehbhpkmlmeblaa
