/-
  NARROWER THAN 'FOR EVERY INPUT', by the rows' own cells (each row's printed sentence says how): WordFields: laid · WordCuts: laid · WordFound: laid · WordLies: laid · WordOne: laid · WordOrders: laid · WordAligns: laid · WordNear: laid.
  DERIVED. THE GIVEN ROWS OF THIS SEAT. 8 by the template 'for every input the law returns true; each argument reads behind the call as it read before'; 0 by the template 'total and deterministic' (their statements: YtobbcfpkmmafnaaDoorTotals.lean).
  GIVEN WITH THE SEED: the statements are not yours to turn. If you find one false, say at which input.
  Laid BY PROGRAM, IN A SANDBOX (cutbox-rows.mjs): the forced cells as the released guide's own fill.sh prints them over the translation 547f455b3bdcdad8… (all of the seat's roots in one cut). By AI agents, Wed Nov 11 2026. No macro, syntax, notation, axiom, sorry.
-/
import Derived.Test.YtobbcfpkmmafnaaDoorChecked
import GoSem.Claim
import GoSem.ClaimJoined
import GoSem.ClaimMapViews
import Derived.JoinedTies
import Derived.KernelRfl
namespace Go.Proofs.YtobbcfpkmmafnaaDoor
/- THE CELL 'sum', in the pinned program and in every row, IS THE sha256 OF THE DUMP (.gsa) THAT YtobbcfpkmmafnaaDoorProg.lean LOADS. Nothing in Lean hashes anything: it is a label: what it is worth is what the hold of that sum in a sandbox is worth. -/
noncomputable def Tryd.pinned : Pinned := { name := "ytobbcfpkmmafnaadoor", sum := "547f455b3bdcdad8c4913eafa7beabd85b0a1e112c4f9381dbc02df69614cd40", checked := Tryd.checked }
namespace Rows
def none {H : Type} : Left H := { results := [], args := [] }

/- WHAT THE LISTED PACKAGE-LEVEL VARIABLES READ AS WHEN THE CALL BEGINS. Each datum BY PROGRAM (the guide's laid-datum.mjs) off the statement by which the dump's own 'gosem.cut.vars' lays the variable. In a bare row this is a premise. The card (YtobbcfpkmmafnaaDoorCards.lean) ties it to the program's text. -/
def laid_math_bits_deBruijn32tab {H : Type} : DataW H := .agg [.lit (.int .u8 0), .lit (.int .u8 1), .lit (.int .u8 28), .lit (.int .u8 2), .lit (.int .u8 29), .lit (.int .u8 14), .lit (.int .u8 24), .lit (.int .u8 3), .lit (.int .u8 30), .lit (.int .u8 22), .lit (.int .u8 20), .lit (.int .u8 15), .lit (.int .u8 25), .lit (.int .u8 17), .lit (.int .u8 4), .lit (.int .u8 8), .lit (.int .u8 31), .lit (.int .u8 27), .lit (.int .u8 13), .lit (.int .u8 23), .lit (.int .u8 21), .lit (.int .u8 19), .lit (.int .u8 16), .lit (.int .u8 7), .lit (.int .u8 26), .lit (.int .u8 12), .lit (.int .u8 18), .lit (.int .u8 6), .lit (.int .u8 11), .lit (.int .u8 5), .lit (.int .u8 10), .lit (.int .u8 9)]
def laid_math_bits_deBruijn64tab {H : Type} : DataW H := .agg [.lit (.int .u8 0), .lit (.int .u8 1), .lit (.int .u8 56), .lit (.int .u8 2), .lit (.int .u8 57), .lit (.int .u8 49), .lit (.int .u8 28), .lit (.int .u8 3), .lit (.int .u8 61), .lit (.int .u8 58), .lit (.int .u8 42), .lit (.int .u8 50), .lit (.int .u8 38), .lit (.int .u8 29), .lit (.int .u8 17), .lit (.int .u8 4), .lit (.int .u8 62), .lit (.int .u8 47), .lit (.int .u8 59), .lit (.int .u8 36), .lit (.int .u8 45), .lit (.int .u8 43), .lit (.int .u8 51), .lit (.int .u8 22), .lit (.int .u8 53), .lit (.int .u8 39), .lit (.int .u8 33), .lit (.int .u8 30), .lit (.int .u8 24), .lit (.int .u8 18), .lit (.int .u8 12), .lit (.int .u8 5), .lit (.int .u8 63), .lit (.int .u8 55), .lit (.int .u8 48), .lit (.int .u8 27), .lit (.int .u8 60), .lit (.int .u8 41), .lit (.int .u8 37), .lit (.int .u8 16), .lit (.int .u8 46), .lit (.int .u8 35), .lit (.int .u8 44), .lit (.int .u8 21), .lit (.int .u8 52), .lit (.int .u8 32), .lit (.int .u8 23), .lit (.int .u8 11), .lit (.int .u8 54), .lit (.int .u8 26), .lit (.int .u8 40), .lit (.int .u8 15), .lit (.int .u8 34), .lit (.int .u8 20), .lit (.int .u8 31), .lit (.int .u8 10), .lit (.int .u8 25), .lit (.int .u8 14), .lit (.int .u8 19), .lit (.int .u8 9), .lit (.int .u8 13), .lit (.int .u8 8), .lit (.int .u8 7), .lit (.int .u8 6)]

/-- 'paviorlaw01.WordFields': WHATEVER THE INPUT: true; the input reads as it did. -/
def wordFieldsSpec : ChangeSpec := { name := "wordFields", fn := fun _ => fun
  | [d1, d2, d3, d4] => { results := [.lit (.bool true)], args := [d1, d2, d3, d4] }
  | _ => none }
def wordFieldsRow : OpenClaim := { program := "ytobbcfpkmmafnaadoor", sum := "547f455b3bdcdad8c4913eafa7beabd85b0a1e112c4f9381dbc02df69614cd40", func := "pavior/paviorlaw01.WordFields", spec := "wordFields", named := ["math/bits.deBruijn32tab", "math/bits.deBruijn64tab"], apart := false, laid := [("math/bits.deBruijn32tab", laid_math_bits_deBruijn32tab), ("math/bits.deBruijn64tab", laid_math_bits_deBruijn64tab)] }
def WordFieldsSaid : Prop := wordFieldsRow.holds Tryd.pinned (OpenSpec.ofChange wordFieldsSpec)

/-- ITS FALSE NEIGHBOUR: 'it returns false'. Refute it at one input. -/
def wordFieldsWrong : ChangeSpec := { name := "wordFields", fn := fun _ => fun
  | [d1, d2, d3, d4] => { results := [.lit (.bool false)], args := [d1, d2, d3, d4] }
  | _ => none }
def WordFieldsWrongFalsely : Prop := wordFieldsRow.holds Tryd.pinned (OpenSpec.ofChange wordFieldsWrong)

/-- 'paviorlaw01.WordCuts': WHATEVER THE INPUT: true; the input reads as it did. -/
def wordCutsSpec : ChangeSpec := { name := "wordCuts", fn := fun _ => fun
  | [d1, d2] => { results := [.lit (.bool true)], args := [d1, d2] }
  | _ => none }
def wordCutsRow : OpenClaim := { program := "ytobbcfpkmmafnaadoor", sum := "547f455b3bdcdad8c4913eafa7beabd85b0a1e112c4f9381dbc02df69614cd40", func := "pavior/paviorlaw01.WordCuts", spec := "wordCuts", named := ["math/bits.deBruijn32tab", "math/bits.deBruijn64tab"], apart := false, laid := [("math/bits.deBruijn32tab", laid_math_bits_deBruijn32tab), ("math/bits.deBruijn64tab", laid_math_bits_deBruijn64tab)] }
def WordCutsSaid : Prop := wordCutsRow.holds Tryd.pinned (OpenSpec.ofChange wordCutsSpec)

/-- ITS FALSE NEIGHBOUR: 'it returns false'. Refute it at one input. -/
def wordCutsWrong : ChangeSpec := { name := "wordCuts", fn := fun _ => fun
  | [d1, d2] => { results := [.lit (.bool false)], args := [d1, d2] }
  | _ => none }
def WordCutsWrongFalsely : Prop := wordCutsRow.holds Tryd.pinned (OpenSpec.ofChange wordCutsWrong)

/-- 'paviorlaw01.WordFound': WHATEVER THE INPUT: true; the input reads as it did. -/
def wordFoundSpec : ChangeSpec := { name := "wordFound", fn := fun _ => fun
  | [d1, d2, d3, d4, d5, d6] => { results := [.lit (.bool true)], args := [d1, d2, d3, d4, d5, d6] }
  | _ => none }
def wordFoundRow : OpenClaim := { program := "ytobbcfpkmmafnaadoor", sum := "547f455b3bdcdad8c4913eafa7beabd85b0a1e112c4f9381dbc02df69614cd40", func := "pavior/paviorlaw01.WordFound", spec := "wordFound", named := ["math/bits.deBruijn32tab", "math/bits.deBruijn64tab"], apart := false, laid := [("math/bits.deBruijn32tab", laid_math_bits_deBruijn32tab), ("math/bits.deBruijn64tab", laid_math_bits_deBruijn64tab)] }
def WordFoundSaid : Prop := wordFoundRow.holds Tryd.pinned (OpenSpec.ofChange wordFoundSpec)

/-- ITS FALSE NEIGHBOUR: 'it returns false'. Refute it at one input. -/
def wordFoundWrong : ChangeSpec := { name := "wordFound", fn := fun _ => fun
  | [d1, d2, d3, d4, d5, d6] => { results := [.lit (.bool false)], args := [d1, d2, d3, d4, d5, d6] }
  | _ => none }
def WordFoundWrongFalsely : Prop := wordFoundRow.holds Tryd.pinned (OpenSpec.ofChange wordFoundWrong)

/-- 'paviorlaw01.WordLies': WHATEVER THE INPUT: true; the input reads as it did. -/
def wordLiesSpec : ChangeSpec := { name := "wordLies", fn := fun _ => fun
  | [d1, d2] => { results := [.lit (.bool true)], args := [d1, d2] }
  | _ => none }
def wordLiesRow : OpenClaim := { program := "ytobbcfpkmmafnaadoor", sum := "547f455b3bdcdad8c4913eafa7beabd85b0a1e112c4f9381dbc02df69614cd40", func := "pavior/paviorlaw01.WordLies", spec := "wordLies", named := ["math/bits.deBruijn32tab", "math/bits.deBruijn64tab"], apart := false, laid := [("math/bits.deBruijn32tab", laid_math_bits_deBruijn32tab), ("math/bits.deBruijn64tab", laid_math_bits_deBruijn64tab)] }
def WordLiesSaid : Prop := wordLiesRow.holds Tryd.pinned (OpenSpec.ofChange wordLiesSpec)

/-- ITS FALSE NEIGHBOUR: 'it returns false'. Refute it at one input. -/
def wordLiesWrong : ChangeSpec := { name := "wordLies", fn := fun _ => fun
  | [d1, d2] => { results := [.lit (.bool false)], args := [d1, d2] }
  | _ => none }
def WordLiesWrongFalsely : Prop := wordLiesRow.holds Tryd.pinned (OpenSpec.ofChange wordLiesWrong)

/-- 'paviorlaw01.WordOne': WHATEVER THE INPUT: true; the input reads as it did. -/
def wordOneSpec : ChangeSpec := { name := "wordOne", fn := fun _ => fun
  | [d1, d2] => { results := [.lit (.bool true)], args := [d1, d2] }
  | _ => none }
def wordOneRow : OpenClaim := { program := "ytobbcfpkmmafnaadoor", sum := "547f455b3bdcdad8c4913eafa7beabd85b0a1e112c4f9381dbc02df69614cd40", func := "pavior/paviorlaw01.WordOne", spec := "wordOne", named := ["math/bits.deBruijn32tab", "math/bits.deBruijn64tab"], apart := false, laid := [("math/bits.deBruijn32tab", laid_math_bits_deBruijn32tab), ("math/bits.deBruijn64tab", laid_math_bits_deBruijn64tab)] }
def WordOneSaid : Prop := wordOneRow.holds Tryd.pinned (OpenSpec.ofChange wordOneSpec)

/-- ITS FALSE NEIGHBOUR: 'it returns false'. Refute it at one input. -/
def wordOneWrong : ChangeSpec := { name := "wordOne", fn := fun _ => fun
  | [d1, d2] => { results := [.lit (.bool false)], args := [d1, d2] }
  | _ => none }
def WordOneWrongFalsely : Prop := wordOneRow.holds Tryd.pinned (OpenSpec.ofChange wordOneWrong)

/-- 'paviorlaw01.WordOrders': WHATEVER THE INPUT: true; the input reads as it did. -/
def wordOrdersSpec : ChangeSpec := { name := "wordOrders", fn := fun _ => fun
  | [d] => { results := [.lit (.bool true)], args := [d] }
  | _ => none }
def wordOrdersRow : OpenClaim := { program := "ytobbcfpkmmafnaadoor", sum := "547f455b3bdcdad8c4913eafa7beabd85b0a1e112c4f9381dbc02df69614cd40", func := "pavior/paviorlaw01.WordOrders", spec := "wordOrders", named := ["math/bits.deBruijn32tab", "math/bits.deBruijn64tab"], apart := false, laid := [("math/bits.deBruijn32tab", laid_math_bits_deBruijn32tab), ("math/bits.deBruijn64tab", laid_math_bits_deBruijn64tab)] }
def WordOrdersSaid : Prop := wordOrdersRow.holds Tryd.pinned (OpenSpec.ofChange wordOrdersSpec)

/-- ITS FALSE NEIGHBOUR: 'it returns false'. Refute it at one input. -/
def wordOrdersWrong : ChangeSpec := { name := "wordOrders", fn := fun _ => fun
  | [d] => { results := [.lit (.bool false)], args := [d] }
  | _ => none }
def WordOrdersWrongFalsely : Prop := wordOrdersRow.holds Tryd.pinned (OpenSpec.ofChange wordOrdersWrong)

/-- 'paviorlaw01.WordAligns': WHATEVER THE INPUT: true; the input reads as it did. -/
def wordAlignsSpec : ChangeSpec := { name := "wordAligns", fn := fun _ => fun
  | [d1, d2] => { results := [.lit (.bool true)], args := [d1, d2] }
  | _ => none }
def wordAlignsRow : OpenClaim := { program := "ytobbcfpkmmafnaadoor", sum := "547f455b3bdcdad8c4913eafa7beabd85b0a1e112c4f9381dbc02df69614cd40", func := "pavior/paviorlaw01.WordAligns", spec := "wordAligns", named := ["math/bits.deBruijn32tab", "math/bits.deBruijn64tab"], apart := false, laid := [("math/bits.deBruijn32tab", laid_math_bits_deBruijn32tab), ("math/bits.deBruijn64tab", laid_math_bits_deBruijn64tab)] }
def WordAlignsSaid : Prop := wordAlignsRow.holds Tryd.pinned (OpenSpec.ofChange wordAlignsSpec)

/-- ITS FALSE NEIGHBOUR: 'it returns false'. Refute it at one input. -/
def wordAlignsWrong : ChangeSpec := { name := "wordAligns", fn := fun _ => fun
  | [d1, d2] => { results := [.lit (.bool false)], args := [d1, d2] }
  | _ => none }
def WordAlignsWrongFalsely : Prop := wordAlignsRow.holds Tryd.pinned (OpenSpec.ofChange wordAlignsWrong)

/-- 'paviorlaw01.WordNear': WHATEVER THE INPUT: true; the input reads as it did. -/
def wordNearSpec : ChangeSpec := { name := "wordNear", fn := fun _ => fun
  | [d1, d2] => { results := [.lit (.bool true)], args := [d1, d2] }
  | _ => none }
def wordNearRow : OpenClaim := { program := "ytobbcfpkmmafnaadoor", sum := "547f455b3bdcdad8c4913eafa7beabd85b0a1e112c4f9381dbc02df69614cd40", func := "pavior/paviorlaw01.WordNear", spec := "wordNear", named := ["math/bits.deBruijn32tab", "math/bits.deBruijn64tab"], apart := false, laid := [("math/bits.deBruijn32tab", laid_math_bits_deBruijn32tab), ("math/bits.deBruijn64tab", laid_math_bits_deBruijn64tab)] }
def WordNearSaid : Prop := wordNearRow.holds Tryd.pinned (OpenSpec.ofChange wordNearSpec)

/-- ITS FALSE NEIGHBOUR: 'it returns false'. Refute it at one input. -/
def wordNearWrong : ChangeSpec := { name := "wordNear", fn := fun _ => fun
  | [d1, d2] => { results := [.lit (.bool false)], args := [d1, d2] }
  | _ => none }
def WordNearWrongFalsely : Prop := wordNearRow.holds Tryd.pinned (OpenSpec.ofChange wordNearWrong)

/- THE SECOND FORM. 'bulk': how many values and letters a reading holds, each counted each time it is reached (what is shared counts as often as it is met; a slice's spare places count too). A statement '..UptoSaid' is the law's where the arguments, and the package variables that the reading takes, are together of bulk at most 1048576: NARROWER than '..Said'. Prove '..Said' where nothing that the law and all that it calls make is longer than what came in: it says more and counts as full. Else prove '..UptoSaid'. A law counts once. -/
mutual
def uptoBulk {H : Type} : DataW H → Nat
  | .lit (.string bytes) => bytes.length + 1
  | .lit _ => 1
  | .nil => 1
  | .ptr d => uptoBulk d + 1
  | .slice elems spare => uptoBulkAll elems + uptoBulkAll spare + 1
  | .agg parts => uptoBulkAll parts + 1
  | .iface _ d => uptoBulk d + 1
  | .map entries => uptoBulkEntries entries + 1
  | .held _ => 1
def uptoBulkAll {H : Type} : List (DataW H) → Nat
  | [] => 0
  | d :: r => uptoBulk d + uptoBulkAll r
def uptoBulkEntries {H : Type} : List (Lit × DataW H) → Nat
  | [] => 0
  | x :: r => uptoBulkEntry x + uptoBulkEntries r
def uptoBulkEntry {H : Type} : Lit × DataW H → Nat
  | (.string bytes, d) => bytes.length + uptoBulk d + 1
  | (_, d) => uptoBulk d + 1
 end
def uptoSmall : (H : Type) → List (DataW H) → Bool := fun _ ds => decide (uptoBulkAll ds ≤ 1048576)
def OpenSpec.upto (s : _root_.Go.ChangeSpec) : _root_.Go.OpenSpec := { _root_.Go.OpenSpec.ofChange s with cond := some uptoSmall }

/-- 'paviorlaw01.WordFields', WHERE WHAT IT READS IS OF BULK AT MOST 1048576: true; the input reads as it did. -/
def wordFieldsUptoRow : OpenClaim := { program := "ytobbcfpkmmafnaadoor", sum := "547f455b3bdcdad8c4913eafa7beabd85b0a1e112c4f9381dbc02df69614cd40", func := "pavior/paviorlaw01.WordFields", spec := "wordFields", named := ["math/bits.deBruijn32tab", "math/bits.deBruijn64tab"], apart := false, laid := [("math/bits.deBruijn32tab", laid_math_bits_deBruijn32tab), ("math/bits.deBruijn64tab", laid_math_bits_deBruijn64tab)], narrowed := true }
def WordFieldsUptoSaid : Prop := wordFieldsUptoRow.holds Tryd.pinned (OpenSpec.upto wordFieldsSpec)

/-- 'paviorlaw01.WordCuts', WHERE WHAT IT READS IS OF BULK AT MOST 1048576: true; the input reads as it did. -/
def wordCutsUptoRow : OpenClaim := { program := "ytobbcfpkmmafnaadoor", sum := "547f455b3bdcdad8c4913eafa7beabd85b0a1e112c4f9381dbc02df69614cd40", func := "pavior/paviorlaw01.WordCuts", spec := "wordCuts", named := ["math/bits.deBruijn32tab", "math/bits.deBruijn64tab"], apart := false, laid := [("math/bits.deBruijn32tab", laid_math_bits_deBruijn32tab), ("math/bits.deBruijn64tab", laid_math_bits_deBruijn64tab)], narrowed := true }
def WordCutsUptoSaid : Prop := wordCutsUptoRow.holds Tryd.pinned (OpenSpec.upto wordCutsSpec)

/-- 'paviorlaw01.WordFound', WHERE WHAT IT READS IS OF BULK AT MOST 1048576: true; the input reads as it did. -/
def wordFoundUptoRow : OpenClaim := { program := "ytobbcfpkmmafnaadoor", sum := "547f455b3bdcdad8c4913eafa7beabd85b0a1e112c4f9381dbc02df69614cd40", func := "pavior/paviorlaw01.WordFound", spec := "wordFound", named := ["math/bits.deBruijn32tab", "math/bits.deBruijn64tab"], apart := false, laid := [("math/bits.deBruijn32tab", laid_math_bits_deBruijn32tab), ("math/bits.deBruijn64tab", laid_math_bits_deBruijn64tab)], narrowed := true }
def WordFoundUptoSaid : Prop := wordFoundUptoRow.holds Tryd.pinned (OpenSpec.upto wordFoundSpec)

/-- 'paviorlaw01.WordLies', WHERE WHAT IT READS IS OF BULK AT MOST 1048576: true; the input reads as it did. -/
def wordLiesUptoRow : OpenClaim := { program := "ytobbcfpkmmafnaadoor", sum := "547f455b3bdcdad8c4913eafa7beabd85b0a1e112c4f9381dbc02df69614cd40", func := "pavior/paviorlaw01.WordLies", spec := "wordLies", named := ["math/bits.deBruijn32tab", "math/bits.deBruijn64tab"], apart := false, laid := [("math/bits.deBruijn32tab", laid_math_bits_deBruijn32tab), ("math/bits.deBruijn64tab", laid_math_bits_deBruijn64tab)], narrowed := true }
def WordLiesUptoSaid : Prop := wordLiesUptoRow.holds Tryd.pinned (OpenSpec.upto wordLiesSpec)

/-- 'paviorlaw01.WordOne', WHERE WHAT IT READS IS OF BULK AT MOST 1048576: true; the input reads as it did. -/
def wordOneUptoRow : OpenClaim := { program := "ytobbcfpkmmafnaadoor", sum := "547f455b3bdcdad8c4913eafa7beabd85b0a1e112c4f9381dbc02df69614cd40", func := "pavior/paviorlaw01.WordOne", spec := "wordOne", named := ["math/bits.deBruijn32tab", "math/bits.deBruijn64tab"], apart := false, laid := [("math/bits.deBruijn32tab", laid_math_bits_deBruijn32tab), ("math/bits.deBruijn64tab", laid_math_bits_deBruijn64tab)], narrowed := true }
def WordOneUptoSaid : Prop := wordOneUptoRow.holds Tryd.pinned (OpenSpec.upto wordOneSpec)

/-- 'paviorlaw01.WordOrders', WHERE WHAT IT READS IS OF BULK AT MOST 1048576: true; the input reads as it did. -/
def wordOrdersUptoRow : OpenClaim := { program := "ytobbcfpkmmafnaadoor", sum := "547f455b3bdcdad8c4913eafa7beabd85b0a1e112c4f9381dbc02df69614cd40", func := "pavior/paviorlaw01.WordOrders", spec := "wordOrders", named := ["math/bits.deBruijn32tab", "math/bits.deBruijn64tab"], apart := false, laid := [("math/bits.deBruijn32tab", laid_math_bits_deBruijn32tab), ("math/bits.deBruijn64tab", laid_math_bits_deBruijn64tab)], narrowed := true }
def WordOrdersUptoSaid : Prop := wordOrdersUptoRow.holds Tryd.pinned (OpenSpec.upto wordOrdersSpec)

/-- 'paviorlaw01.WordAligns', WHERE WHAT IT READS IS OF BULK AT MOST 1048576: true; the input reads as it did. -/
def wordAlignsUptoRow : OpenClaim := { program := "ytobbcfpkmmafnaadoor", sum := "547f455b3bdcdad8c4913eafa7beabd85b0a1e112c4f9381dbc02df69614cd40", func := "pavior/paviorlaw01.WordAligns", spec := "wordAligns", named := ["math/bits.deBruijn32tab", "math/bits.deBruijn64tab"], apart := false, laid := [("math/bits.deBruijn32tab", laid_math_bits_deBruijn32tab), ("math/bits.deBruijn64tab", laid_math_bits_deBruijn64tab)], narrowed := true }
def WordAlignsUptoSaid : Prop := wordAlignsUptoRow.holds Tryd.pinned (OpenSpec.upto wordAlignsSpec)

/-- 'paviorlaw01.WordNear', WHERE WHAT IT READS IS OF BULK AT MOST 1048576: true; the input reads as it did. -/
def wordNearUptoRow : OpenClaim := { program := "ytobbcfpkmmafnaadoor", sum := "547f455b3bdcdad8c4913eafa7beabd85b0a1e112c4f9381dbc02df69614cd40", func := "pavior/paviorlaw01.WordNear", spec := "wordNear", named := ["math/bits.deBruijn32tab", "math/bits.deBruijn64tab"], apart := false, laid := [("math/bits.deBruijn32tab", laid_math_bits_deBruijn32tab), ("math/bits.deBruijn64tab", laid_math_bits_deBruijn64tab)], narrowed := true }
def WordNearUptoSaid : Prop := wordNearUptoRow.holds Tryd.pinned (OpenSpec.upto wordNearSpec)

end Rows
end Go.Proofs.YtobbcfpkmmafnaaDoor
