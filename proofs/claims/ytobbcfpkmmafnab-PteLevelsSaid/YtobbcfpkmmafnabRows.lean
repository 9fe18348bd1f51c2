/-
  No cell of these rows narrows 'for every input' (looked for: loops, veiled, ifaces, maps, wideKeys, modest, calm, conditions, laid).
  DERIVED. THE GIVEN ROWS OF THIS SEAT. 7 by the template 'for every input the law returns true; each argument reads behind the call as it read before'; 0 by the template 'total and deterministic' (their statements: YtobbcfpkmmafnabTotals.lean).
  GIVEN WITH THE SEED: the statements are not yours to turn. If you find one false, say at which input.
  Laid BY PROGRAM, IN A SANDBOX (cutbox-rows.mjs): the forced cells as the released guide's own fill.sh prints them over the translation 684bcc8fb01a22b0… (all of the seat's roots in one cut). By AI agents, Wed Nov 11 2026. No macro, syntax, notation, axiom, sorry.
-/
import Derived.Test.YtobbcfpkmmafnabChecked
import GoSem.Claim
import GoSem.ClaimJoined
import GoSem.ClaimMapViews
import Derived.JoinedTies
import Derived.KernelRfl
namespace Go.Proofs.Ytobbcfpkmmafnab
/- THE CELL 'sum', in the pinned program and in every row, IS THE sha256 OF THE DUMP (.gsa) THAT YtobbcfpkmmafnabProg.lean LOADS. Nothing in Lean hashes anything: it is a label: what it is worth is what the hold of that sum in a sandbox is worth. -/
noncomputable def Try.pinned : Pinned := { name := "ytobbcfpkmmafnab", sum := "684bcc8fb01a22b0971a4431fc4f5f97558bd28d105d1ca852afce6ac0ae8f4e", checked := Try.checked }
namespace Rows
def none {H : Type} : Left H := { results := [], args := [] }

/-- 'paviorlaw02.PteDecodes': WHATEVER THE INPUT: true; the input reads as it did. -/
def pteDecodesSpec : ChangeSpec := { name := "pteDecodes", fn := fun _ => fun
  | [d1, d2] => { results := [.lit (.bool true)], args := [d1, d2] }
  | _ => none }
def pteDecodesRow : OpenClaim := { program := "ytobbcfpkmmafnab", sum := "684bcc8fb01a22b0971a4431fc4f5f97558bd28d105d1ca852afce6ac0ae8f4e", func := "pavior/paviorlaw02.PteDecodes", spec := "pteDecodes", apart := false }
def PteDecodesSaid : Prop := pteDecodesRow.holds Try.pinned (OpenSpec.ofChange pteDecodesSpec)

/-- ITS FALSE NEIGHBOUR: 'it returns false'. Refute it at one input. -/
def pteDecodesWrong : ChangeSpec := { name := "pteDecodes", fn := fun _ => fun
  | [d1, d2] => { results := [.lit (.bool false)], args := [d1, d2] }
  | _ => none }
def PteDecodesWrongFalsely : Prop := pteDecodesRow.holds Try.pinned (OpenSpec.ofChange pteDecodesWrong)

/-- 'paviorlaw02.PteEncodes': WHATEVER THE INPUT: true; the input reads as it did. -/
def pteEncodesSpec : ChangeSpec := { name := "pteEncodes", fn := fun _ => fun
  | [d1, d2] => { results := [.lit (.bool true)], args := [d1, d2] }
  | _ => none }
def pteEncodesRow : OpenClaim := { program := "ytobbcfpkmmafnab", sum := "684bcc8fb01a22b0971a4431fc4f5f97558bd28d105d1ca852afce6ac0ae8f4e", func := "pavior/paviorlaw02.PteEncodes", spec := "pteEncodes", apart := false }
def PteEncodesSaid : Prop := pteEncodesRow.holds Try.pinned (OpenSpec.ofChange pteEncodesSpec)

/-- ITS FALSE NEIGHBOUR: 'it returns false'. Refute it at one input. -/
def pteEncodesWrong : ChangeSpec := { name := "pteEncodes", fn := fun _ => fun
  | [d1, d2] => { results := [.lit (.bool false)], args := [d1, d2] }
  | _ => none }
def PteEncodesWrongFalsely : Prop := pteEncodesRow.holds Try.pinned (OpenSpec.ofChange pteEncodesWrong)

/-- 'paviorlaw02.PteBack': WHATEVER THE INPUT: true; the input reads as it did. -/
def pteBackSpec : ChangeSpec := { name := "pteBack", fn := fun _ => fun
  | [d1, d2, d3] => { results := [.lit (.bool true)], args := [d1, d2, d3] }
  | _ => none }
def pteBackRow : OpenClaim := { program := "ytobbcfpkmmafnab", sum := "684bcc8fb01a22b0971a4431fc4f5f97558bd28d105d1ca852afce6ac0ae8f4e", func := "pavior/paviorlaw02.PteBack", spec := "pteBack", apart := false }
def PteBackSaid : Prop := pteBackRow.holds Try.pinned (OpenSpec.ofChange pteBackSpec)

/-- ITS FALSE NEIGHBOUR: 'it returns false'. Refute it at one input. -/
def pteBackWrong : ChangeSpec := { name := "pteBack", fn := fun _ => fun
  | [d1, d2, d3] => { results := [.lit (.bool false)], args := [d1, d2, d3] }
  | _ => none }
def PteBackWrongFalsely : Prop := pteBackRow.holds Try.pinned (OpenSpec.ofChange pteBackWrong)

/-- 'paviorlaw02.PteUnlike': WHATEVER THE INPUT: true; the input reads as it did. -/
def pteUnlikeSpec : ChangeSpec := { name := "pteUnlike", fn := fun _ => fun
  | [d1, d2, d3] => { results := [.lit (.bool true)], args := [d1, d2, d3] }
  | _ => none }
def pteUnlikeRow : OpenClaim := { program := "ytobbcfpkmmafnab", sum := "684bcc8fb01a22b0971a4431fc4f5f97558bd28d105d1ca852afce6ac0ae8f4e", func := "pavior/paviorlaw02.PteUnlike", spec := "pteUnlike", apart := false }
def PteUnlikeSaid : Prop := pteUnlikeRow.holds Try.pinned (OpenSpec.ofChange pteUnlikeSpec)

/-- ITS FALSE NEIGHBOUR: 'it returns false'. Refute it at one input. -/
def pteUnlikeWrong : ChangeSpec := { name := "pteUnlike", fn := fun _ => fun
  | [d1, d2, d3] => { results := [.lit (.bool false)], args := [d1, d2, d3] }
  | _ => none }
def PteUnlikeWrongFalsely : Prop := pteUnlikeRow.holds Try.pinned (OpenSpec.ofChange pteUnlikeWrong)

/-- 'paviorlaw02.PteLevels': WHATEVER THE INPUT: true; the input reads as it did. -/
def pteLevelsSpec : ChangeSpec := { name := "pteLevels", fn := fun _ => fun
  | [d1, d2, d3] => { results := [.lit (.bool true)], args := [d1, d2, d3] }
  | _ => none }
def pteLevelsRow : OpenClaim := { program := "ytobbcfpkmmafnab", sum := "684bcc8fb01a22b0971a4431fc4f5f97558bd28d105d1ca852afce6ac0ae8f4e", func := "pavior/paviorlaw02.PteLevels", spec := "pteLevels", apart := false }
def PteLevelsSaid : Prop := pteLevelsRow.holds Try.pinned (OpenSpec.ofChange pteLevelsSpec)

/-- ITS FALSE NEIGHBOUR: 'it returns false'. Refute it at one input. -/
def pteLevelsWrong : ChangeSpec := { name := "pteLevels", fn := fun _ => fun
  | [d1, d2, d3] => { results := [.lit (.bool false)], args := [d1, d2, d3] }
  | _ => none }
def PteLevelsWrongFalsely : Prop := pteLevelsRow.holds Try.pinned (OpenSpec.ofChange pteLevelsWrong)

/-- 'paviorlaw02.PteChanges': WHATEVER THE INPUT: true; the input reads as it did. -/
def pteChangesSpec : ChangeSpec := { name := "pteChanges", fn := fun _ => fun
  | [d1, d2, d3] => { results := [.lit (.bool true)], args := [d1, d2, d3] }
  | _ => none }
def pteChangesRow : OpenClaim := { program := "ytobbcfpkmmafnab", sum := "684bcc8fb01a22b0971a4431fc4f5f97558bd28d105d1ca852afce6ac0ae8f4e", func := "pavior/paviorlaw02.PteChanges", spec := "pteChanges", apart := false }
def PteChangesSaid : Prop := pteChangesRow.holds Try.pinned (OpenSpec.ofChange pteChangesSpec)

/-- ITS FALSE NEIGHBOUR: 'it returns false'. Refute it at one input. -/
def pteChangesWrong : ChangeSpec := { name := "pteChanges", fn := fun _ => fun
  | [d1, d2, d3] => { results := [.lit (.bool false)], args := [d1, d2, d3] }
  | _ => none }
def PteChangesWrongFalsely : Prop := pteChangesRow.holds Try.pinned (OpenSpec.ofChange pteChangesWrong)

/-- 'paviorlaw02.PteBoth': WHATEVER THE INPUT: true; the input reads as it did. -/
def pteBothSpec : ChangeSpec := { name := "pteBoth", fn := fun _ => fun
  | [d1, d2, d3] => { results := [.lit (.bool true)], args := [d1, d2, d3] }
  | _ => none }
def pteBothRow : OpenClaim := { program := "ytobbcfpkmmafnab", sum := "684bcc8fb01a22b0971a4431fc4f5f97558bd28d105d1ca852afce6ac0ae8f4e", func := "pavior/paviorlaw02.PteBoth", spec := "pteBoth", apart := false }
def PteBothSaid : Prop := pteBothRow.holds Try.pinned (OpenSpec.ofChange pteBothSpec)

/-- ITS FALSE NEIGHBOUR: 'it returns false'. Refute it at one input. -/
def pteBothWrong : ChangeSpec := { name := "pteBoth", fn := fun _ => fun
  | [d1, d2, d3] => { results := [.lit (.bool false)], args := [d1, d2, d3] }
  | _ => none }
def PteBothWrongFalsely : Prop := pteBothRow.holds Try.pinned (OpenSpec.ofChange pteBothWrong)

/- THE SECOND FORM. 'bulk': how many values and letters a reading holds, each counted each time it is reached (what is shared counts as often as it is met; a slice's spare places count too). A statement '..UptoSaid' is the law's where the arguments, and the package variables that the reading takes, are together of bulk at most 1048576: NARROWER than '..Said'. Prove '..Said' where nothing that the law and all that it calls make is longer than what came in: it says more and counts as full. Else prove '..UptoSaid'. A law counts once. -/
mutual
def uptoBulk {H : Type} : DataW H → Nat
  | .lit (.string bytes) => bytes.length + 1
  | .lit _ => 1
  | .nil => 1
  | .ptr d => uptoBulk d + 1
  | .slice elems spare => uptoBulkAll elems + uptoBulkAll spare + 1
  | .agg parts => uptoBulkAll parts + 1
  | .iface _ d => uptoBulk d + 1
  | .map entries => uptoBulkEntries entries + 1
  | .held _ => 1
def uptoBulkAll {H : Type} : List (DataW H) → Nat
  | [] => 0
  | d :: r => uptoBulk d + uptoBulkAll r
def uptoBulkEntries {H : Type} : List (Lit × DataW H) → Nat
  | [] => 0
  | x :: r => uptoBulkEntry x + uptoBulkEntries r
def uptoBulkEntry {H : Type} : Lit × DataW H → Nat
  | (.string bytes, d) => bytes.length + uptoBulk d + 1
  | (_, d) => uptoBulk d + 1
 end
def uptoSmall : (H : Type) → List (DataW H) → Bool := fun _ ds => decide (uptoBulkAll ds ≤ 1048576)
def OpenSpec.upto (s : _root_.Go.ChangeSpec) : _root_.Go.OpenSpec := { _root_.Go.OpenSpec.ofChange s with cond := some uptoSmall }

/-- 'paviorlaw02.PteDecodes', WHERE WHAT IT READS IS OF BULK AT MOST 1048576: true; the input reads as it did. -/
def pteDecodesUptoRow : OpenClaim := { program := "ytobbcfpkmmafnab", sum := "684bcc8fb01a22b0971a4431fc4f5f97558bd28d105d1ca852afce6ac0ae8f4e", func := "pavior/paviorlaw02.PteDecodes", spec := "pteDecodes", apart := false, narrowed := true }
def PteDecodesUptoSaid : Prop := pteDecodesUptoRow.holds Try.pinned (OpenSpec.upto pteDecodesSpec)

/-- 'paviorlaw02.PteEncodes', WHERE WHAT IT READS IS OF BULK AT MOST 1048576: true; the input reads as it did. -/
def pteEncodesUptoRow : OpenClaim := { program := "ytobbcfpkmmafnab", sum := "684bcc8fb01a22b0971a4431fc4f5f97558bd28d105d1ca852afce6ac0ae8f4e", func := "pavior/paviorlaw02.PteEncodes", spec := "pteEncodes", apart := false, narrowed := true }
def PteEncodesUptoSaid : Prop := pteEncodesUptoRow.holds Try.pinned (OpenSpec.upto pteEncodesSpec)

/-- 'paviorlaw02.PteBack', WHERE WHAT IT READS IS OF BULK AT MOST 1048576: true; the input reads as it did. -/
def pteBackUptoRow : OpenClaim := { program := "ytobbcfpkmmafnab", sum := "684bcc8fb01a22b0971a4431fc4f5f97558bd28d105d1ca852afce6ac0ae8f4e", func := "pavior/paviorlaw02.PteBack", spec := "pteBack", apart := false, narrowed := true }
def PteBackUptoSaid : Prop := pteBackUptoRow.holds Try.pinned (OpenSpec.upto pteBackSpec)

/-- 'paviorlaw02.PteUnlike', WHERE WHAT IT READS IS OF BULK AT MOST 1048576: true; the input reads as it did. -/
def pteUnlikeUptoRow : OpenClaim := { program := "ytobbcfpkmmafnab", sum := "684bcc8fb01a22b0971a4431fc4f5f97558bd28d105d1ca852afce6ac0ae8f4e", func := "pavior/paviorlaw02.PteUnlike", spec := "pteUnlike", apart := false, narrowed := true }
def PteUnlikeUptoSaid : Prop := pteUnlikeUptoRow.holds Try.pinned (OpenSpec.upto pteUnlikeSpec)

/-- 'paviorlaw02.PteLevels', WHERE WHAT IT READS IS OF BULK AT MOST 1048576: true; the input reads as it did. -/
def pteLevelsUptoRow : OpenClaim := { program := "ytobbcfpkmmafnab", sum := "684bcc8fb01a22b0971a4431fc4f5f97558bd28d105d1ca852afce6ac0ae8f4e", func := "pavior/paviorlaw02.PteLevels", spec := "pteLevels", apart := false, narrowed := true }
def PteLevelsUptoSaid : Prop := pteLevelsUptoRow.holds Try.pinned (OpenSpec.upto pteLevelsSpec)

/-- 'paviorlaw02.PteChanges', WHERE WHAT IT READS IS OF BULK AT MOST 1048576: true; the input reads as it did. -/
def pteChangesUptoRow : OpenClaim := { program := "ytobbcfpkmmafnab", sum := "684bcc8fb01a22b0971a4431fc4f5f97558bd28d105d1ca852afce6ac0ae8f4e", func := "pavior/paviorlaw02.PteChanges", spec := "pteChanges", apart := false, narrowed := true }
def PteChangesUptoSaid : Prop := pteChangesUptoRow.holds Try.pinned (OpenSpec.upto pteChangesSpec)

/-- 'paviorlaw02.PteBoth', WHERE WHAT IT READS IS OF BULK AT MOST 1048576: true; the input reads as it did. -/
def pteBothUptoRow : OpenClaim := { program := "ytobbcfpkmmafnab", sum := "684bcc8fb01a22b0971a4431fc4f5f97558bd28d105d1ca852afce6ac0ae8f4e", func := "pavior/paviorlaw02.PteBoth", spec := "pteBoth", apart := false, narrowed := true }
def PteBothUptoSaid : Prop := pteBothUptoRow.holds Try.pinned (OpenSpec.upto pteBothSpec)

end Rows
end Go.Proofs.Ytobbcfpkmmafnab
