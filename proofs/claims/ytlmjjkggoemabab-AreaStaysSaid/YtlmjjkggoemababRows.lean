/-
  No cell of these rows narrows 'for every input' (looked for: loops, veiled, ifaces, maps, wideKeys, modest, calm, conditions, laid).
  DERIVED. THE GIVEN ROWS OF THIS SEAT. 9 by the template 'for every input the law returns true; each argument reads behind the call as it read before'; 0 by the template 'total and deterministic' (their statements: YtlmjjkggoemababTotals.lean).
  GIVEN WITH THE SEED: the statements are not yours to turn. If you find one false, say at which input.
  Laid BY PROGRAM, IN A SANDBOX (cutbox-rows.mjs): the forced cells as the released guide's own fill.sh prints them over the translation 1c2aa56aad82418d… (all of the seat's roots in one cut). By AI agents, Wed Nov 11 2026. No macro, syntax, notation, axiom, sorry.
-/
import Derived.Test.YtlmjjkggoemababChecked
import GoSem.Claim
import GoSem.ClaimJoined
import GoSem.ClaimMapViews
import Derived.JoinedTies
import Derived.KernelRfl
namespace Go.Proofs.Ytlmjjkggoemabab
/- THE CELL 'sum', in the pinned program and in every row, IS THE sha256 OF THE DUMP (.gsa) THAT YtlmjjkggoemababProg.lean LOADS. Nothing in Lean hashes anything: it is a label: what it is worth is what the hold of that sum in a sandbox is worth. -/
noncomputable def Try.pinned : Pinned := { name := "ytlmjjkggoemabab", sum := "1c2aa56aad82418dfcd9003a5285e6483f7c3902f1eaf059ee4b866cb3641f9f", checked := Try.checked }
namespace Rows
def none {H : Type} : Left H := { results := [], args := [] }

/-- 'paviorlaw09.AreaChecks': WHATEVER THE INPUT: true; the input reads as it did. -/
def areaChecksSpec : ChangeSpec := { name := "areaChecks", fn := fun _ => fun
  | [d] => { results := [.lit (.bool true)], args := [d] }
  | _ => none }
def areaChecksRow : OpenClaim := { program := "ytlmjjkggoemabab", sum := "1c2aa56aad82418dfcd9003a5285e6483f7c3902f1eaf059ee4b866cb3641f9f", func := "pavior/paviorlaw09.AreaChecks", spec := "areaChecks", unfollowed := true, recurses := true, apart := false }
def AreaChecksSaid : Prop := areaChecksRow.holds Try.pinned (OpenSpec.ofChange areaChecksSpec)

/-- ITS FALSE NEIGHBOUR: 'it returns false'. Refute it at one input. -/
def areaChecksWrong : ChangeSpec := { name := "areaChecks", fn := fun _ => fun
  | [d] => { results := [.lit (.bool false)], args := [d] }
  | _ => none }
def AreaChecksWrongFalsely : Prop := areaChecksRow.holds Try.pinned (OpenSpec.ofChange areaChecksWrong)

/-- 'paviorlaw09.AreaLays': WHATEVER THE INPUT: true; the input reads as it did. -/
def areaLaysSpec : ChangeSpec := { name := "areaLays", fn := fun _ => fun
  | [d1, d2] => { results := [.lit (.bool true)], args := [d1, d2] }
  | _ => none }
def areaLaysRow : OpenClaim := { program := "ytlmjjkggoemabab", sum := "1c2aa56aad82418dfcd9003a5285e6483f7c3902f1eaf059ee4b866cb3641f9f", func := "pavior/paviorlaw09.AreaLays", spec := "areaLays", unfollowed := true, recurses := true, apart := false }
def AreaLaysSaid : Prop := areaLaysRow.holds Try.pinned (OpenSpec.ofChange areaLaysSpec)

/-- ITS FALSE NEIGHBOUR: 'it returns false'. Refute it at one input. -/
def areaLaysWrong : ChangeSpec := { name := "areaLays", fn := fun _ => fun
  | [d1, d2] => { results := [.lit (.bool false)], args := [d1, d2] }
  | _ => none }
def AreaLaysWrongFalsely : Prop := areaLaysRow.holds Try.pinned (OpenSpec.ofChange areaLaysWrong)

/-- 'paviorlaw09.AreaOrder': WHATEVER THE INPUT: true; the input reads as it did. -/
def areaOrderSpec : ChangeSpec := { name := "areaOrder", fn := fun _ => fun
  | [d1, d2, d3] => { results := [.lit (.bool true)], args := [d1, d2, d3] }
  | _ => none }
def areaOrderRow : OpenClaim := { program := "ytlmjjkggoemabab", sum := "1c2aa56aad82418dfcd9003a5285e6483f7c3902f1eaf059ee4b866cb3641f9f", func := "pavior/paviorlaw09.AreaOrder", spec := "areaOrder", unfollowed := true, recurses := true, apart := false }
def AreaOrderSaid : Prop := areaOrderRow.holds Try.pinned (OpenSpec.ofChange areaOrderSpec)

/-- ITS FALSE NEIGHBOUR: 'it returns false'. Refute it at one input. -/
def areaOrderWrong : ChangeSpec := { name := "areaOrder", fn := fun _ => fun
  | [d1, d2, d3] => { results := [.lit (.bool false)], args := [d1, d2, d3] }
  | _ => none }
def AreaOrderWrongFalsely : Prop := areaOrderRow.holds Try.pinned (OpenSpec.ofChange areaOrderWrong)

/-- 'paviorlaw09.AreaTwice': WHATEVER THE INPUT: true; the input reads as it did. -/
def areaTwiceSpec : ChangeSpec := { name := "areaTwice", fn := fun _ => fun
  | [d1, d2] => { results := [.lit (.bool true)], args := [d1, d2] }
  | _ => none }
def areaTwiceRow : OpenClaim := { program := "ytlmjjkggoemabab", sum := "1c2aa56aad82418dfcd9003a5285e6483f7c3902f1eaf059ee4b866cb3641f9f", func := "pavior/paviorlaw09.AreaTwice", spec := "areaTwice", unfollowed := true, recurses := true, apart := false }
def AreaTwiceSaid : Prop := areaTwiceRow.holds Try.pinned (OpenSpec.ofChange areaTwiceSpec)

/-- ITS FALSE NEIGHBOUR: 'it returns false'. Refute it at one input. -/
def areaTwiceWrong : ChangeSpec := { name := "areaTwice", fn := fun _ => fun
  | [d1, d2] => { results := [.lit (.bool false)], args := [d1, d2] }
  | _ => none }
def AreaTwiceWrongFalsely : Prop := areaTwiceRow.holds Try.pinned (OpenSpec.ofChange areaTwiceWrong)

/-- 'paviorlaw09.AreaFinds': WHATEVER THE INPUT: true; the input reads as it did. -/
def areaFindsSpec : ChangeSpec := { name := "areaFinds", fn := fun _ => fun
  | [d1, d2, d3] => { results := [.lit (.bool true)], args := [d1, d2, d3] }
  | _ => none }
def areaFindsRow : OpenClaim := { program := "ytlmjjkggoemabab", sum := "1c2aa56aad82418dfcd9003a5285e6483f7c3902f1eaf059ee4b866cb3641f9f", func := "pavior/paviorlaw09.AreaFinds", spec := "areaFinds", unfollowed := true, recurses := true, apart := false }
def AreaFindsSaid : Prop := areaFindsRow.holds Try.pinned (OpenSpec.ofChange areaFindsSpec)

/-- ITS FALSE NEIGHBOUR: 'it returns false'. Refute it at one input. -/
def areaFindsWrong : ChangeSpec := { name := "areaFinds", fn := fun _ => fun
  | [d1, d2, d3] => { results := [.lit (.bool false)], args := [d1, d2, d3] }
  | _ => none }
def AreaFindsWrongFalsely : Prop := areaFindsRow.holds Try.pinned (OpenSpec.ofChange areaFindsWrong)

/-- 'paviorlaw09.AreaKeeps': WHATEVER THE INPUT: true; the input reads as it did. -/
def areaKeepsSpec : ChangeSpec := { name := "areaKeeps", fn := fun _ => fun
  | [d1, d2, d3] => { results := [.lit (.bool true)], args := [d1, d2, d3] }
  | _ => none }
def areaKeepsRow : OpenClaim := { program := "ytlmjjkggoemabab", sum := "1c2aa56aad82418dfcd9003a5285e6483f7c3902f1eaf059ee4b866cb3641f9f", func := "pavior/paviorlaw09.AreaKeeps", spec := "areaKeeps", unfollowed := true, recurses := true, apart := false }
def AreaKeepsSaid : Prop := areaKeepsRow.holds Try.pinned (OpenSpec.ofChange areaKeepsSpec)

/-- ITS FALSE NEIGHBOUR: 'it returns false'. Refute it at one input. -/
def areaKeepsWrong : ChangeSpec := { name := "areaKeeps", fn := fun _ => fun
  | [d1, d2, d3] => { results := [.lit (.bool false)], args := [d1, d2, d3] }
  | _ => none }
def AreaKeepsWrongFalsely : Prop := areaKeepsRow.holds Try.pinned (OpenSpec.ofChange areaKeepsWrong)

/-- 'paviorlaw09.AreaRooms': WHATEVER THE INPUT: true; the input reads as it did. -/
def areaRoomsSpec : ChangeSpec := { name := "areaRooms", fn := fun _ => fun
  | [d1, d2] => { results := [.lit (.bool true)], args := [d1, d2] }
  | _ => none }
def areaRoomsRow : OpenClaim := { program := "ytlmjjkggoemabab", sum := "1c2aa56aad82418dfcd9003a5285e6483f7c3902f1eaf059ee4b866cb3641f9f", func := "pavior/paviorlaw09.AreaRooms", spec := "areaRooms", unfollowed := true, recurses := true, apart := false }
def AreaRoomsSaid : Prop := areaRoomsRow.holds Try.pinned (OpenSpec.ofChange areaRoomsSpec)

/-- ITS FALSE NEIGHBOUR: 'it returns false'. Refute it at one input. -/
def areaRoomsWrong : ChangeSpec := { name := "areaRooms", fn := fun _ => fun
  | [d1, d2] => { results := [.lit (.bool false)], args := [d1, d2] }
  | _ => none }
def AreaRoomsWrongFalsely : Prop := areaRoomsRow.holds Try.pinned (OpenSpec.ofChange areaRoomsWrong)

/-- 'paviorlaw09.AreaChanges': WHATEVER THE INPUT: true; the input reads as it did. -/
def areaChangesSpec : ChangeSpec := { name := "areaChanges", fn := fun _ => fun
  | [d1, d2] => { results := [.lit (.bool true)], args := [d1, d2] }
  | _ => none }
def areaChangesRow : OpenClaim := { program := "ytlmjjkggoemabab", sum := "1c2aa56aad82418dfcd9003a5285e6483f7c3902f1eaf059ee4b866cb3641f9f", func := "pavior/paviorlaw09.AreaChanges", spec := "areaChanges", unfollowed := true, recurses := true, apart := false }
def AreaChangesSaid : Prop := areaChangesRow.holds Try.pinned (OpenSpec.ofChange areaChangesSpec)

/-- ITS FALSE NEIGHBOUR: 'it returns false'. Refute it at one input. -/
def areaChangesWrong : ChangeSpec := { name := "areaChanges", fn := fun _ => fun
  | [d1, d2] => { results := [.lit (.bool false)], args := [d1, d2] }
  | _ => none }
def AreaChangesWrongFalsely : Prop := areaChangesRow.holds Try.pinned (OpenSpec.ofChange areaChangesWrong)

/-- 'paviorlaw09.AreaStays': WHATEVER THE INPUT: true; the input reads as it did. -/
def areaStaysSpec : ChangeSpec := { name := "areaStays", fn := fun _ => fun
  | [d1, d2] => { results := [.lit (.bool true)], args := [d1, d2] }
  | _ => none }
def areaStaysRow : OpenClaim := { program := "ytlmjjkggoemabab", sum := "1c2aa56aad82418dfcd9003a5285e6483f7c3902f1eaf059ee4b866cb3641f9f", func := "pavior/paviorlaw09.AreaStays", spec := "areaStays", unfollowed := true, recurses := true, apart := false }
def AreaStaysSaid : Prop := areaStaysRow.holds Try.pinned (OpenSpec.ofChange areaStaysSpec)

/-- ITS FALSE NEIGHBOUR: 'it returns false'. Refute it at one input. -/
def areaStaysWrong : ChangeSpec := { name := "areaStays", fn := fun _ => fun
  | [d1, d2] => { results := [.lit (.bool false)], args := [d1, d2] }
  | _ => none }
def AreaStaysWrongFalsely : Prop := areaStaysRow.holds Try.pinned (OpenSpec.ofChange areaStaysWrong)

/- THE SECOND FORM. 'bulk': how many values and letters a reading holds, each counted each time it is reached (what is shared counts as often as it is met; a slice's spare places count too). A statement '..UptoSaid' is the law's where the arguments, and the package variables that the reading takes, are together of bulk at most 1048576: NARROWER than '..Said'. Prove '..Said' where nothing that the law and all that it calls make is longer than what came in: it says more and counts as full. Else prove '..UptoSaid'. A law counts once. -/
mutual
def uptoBulk {H : Type} : DataW H → Nat
  | .lit (.string bytes) => bytes.length + 1
  | .lit _ => 1
  | .nil => 1
  | .ptr d => uptoBulk d + 1
  | .slice elems spare => uptoBulkAll elems + uptoBulkAll spare + 1
  | .agg parts => uptoBulkAll parts + 1
  | .iface _ d => uptoBulk d + 1
  | .map entries => uptoBulkEntries entries + 1
  | .held _ => 1
def uptoBulkAll {H : Type} : List (DataW H) → Nat
  | [] => 0
  | d :: r => uptoBulk d + uptoBulkAll r
def uptoBulkEntries {H : Type} : List (Lit × DataW H) → Nat
  | [] => 0
  | x :: r => uptoBulkEntry x + uptoBulkEntries r
def uptoBulkEntry {H : Type} : Lit × DataW H → Nat
  | (.string bytes, d) => bytes.length + uptoBulk d + 1
  | (_, d) => uptoBulk d + 1
 end
def uptoSmall : (H : Type) → List (DataW H) → Bool := fun _ ds => decide (uptoBulkAll ds ≤ 1048576)
def OpenSpec.upto (s : _root_.Go.ChangeSpec) : _root_.Go.OpenSpec := { _root_.Go.OpenSpec.ofChange s with cond := some uptoSmall }

/-- 'paviorlaw09.AreaChecks', WHERE WHAT IT READS IS OF BULK AT MOST 1048576: true; the input reads as it did. -/
def areaChecksUptoRow : OpenClaim := { program := "ytlmjjkggoemabab", sum := "1c2aa56aad82418dfcd9003a5285e6483f7c3902f1eaf059ee4b866cb3641f9f", func := "pavior/paviorlaw09.AreaChecks", spec := "areaChecks", unfollowed := true, recurses := true, apart := false, narrowed := true }
def AreaChecksUptoSaid : Prop := areaChecksUptoRow.holds Try.pinned (OpenSpec.upto areaChecksSpec)

/-- 'paviorlaw09.AreaLays', WHERE WHAT IT READS IS OF BULK AT MOST 1048576: true; the input reads as it did. -/
def areaLaysUptoRow : OpenClaim := { program := "ytlmjjkggoemabab", sum := "1c2aa56aad82418dfcd9003a5285e6483f7c3902f1eaf059ee4b866cb3641f9f", func := "pavior/paviorlaw09.AreaLays", spec := "areaLays", unfollowed := true, recurses := true, apart := false, narrowed := true }
def AreaLaysUptoSaid : Prop := areaLaysUptoRow.holds Try.pinned (OpenSpec.upto areaLaysSpec)

/-- 'paviorlaw09.AreaOrder', WHERE WHAT IT READS IS OF BULK AT MOST 1048576: true; the input reads as it did. -/
def areaOrderUptoRow : OpenClaim := { program := "ytlmjjkggoemabab", sum := "1c2aa56aad82418dfcd9003a5285e6483f7c3902f1eaf059ee4b866cb3641f9f", func := "pavior/paviorlaw09.AreaOrder", spec := "areaOrder", unfollowed := true, recurses := true, apart := false, narrowed := true }
def AreaOrderUptoSaid : Prop := areaOrderUptoRow.holds Try.pinned (OpenSpec.upto areaOrderSpec)

/-- 'paviorlaw09.AreaTwice', WHERE WHAT IT READS IS OF BULK AT MOST 1048576: true; the input reads as it did. -/
def areaTwiceUptoRow : OpenClaim := { program := "ytlmjjkggoemabab", sum := "1c2aa56aad82418dfcd9003a5285e6483f7c3902f1eaf059ee4b866cb3641f9f", func := "pavior/paviorlaw09.AreaTwice", spec := "areaTwice", unfollowed := true, recurses := true, apart := false, narrowed := true }
def AreaTwiceUptoSaid : Prop := areaTwiceUptoRow.holds Try.pinned (OpenSpec.upto areaTwiceSpec)

/-- 'paviorlaw09.AreaFinds', WHERE WHAT IT READS IS OF BULK AT MOST 1048576: true; the input reads as it did. -/
def areaFindsUptoRow : OpenClaim := { program := "ytlmjjkggoemabab", sum := "1c2aa56aad82418dfcd9003a5285e6483f7c3902f1eaf059ee4b866cb3641f9f", func := "pavior/paviorlaw09.AreaFinds", spec := "areaFinds", unfollowed := true, recurses := true, apart := false, narrowed := true }
def AreaFindsUptoSaid : Prop := areaFindsUptoRow.holds Try.pinned (OpenSpec.upto areaFindsSpec)

/-- 'paviorlaw09.AreaKeeps', WHERE WHAT IT READS IS OF BULK AT MOST 1048576: true; the input reads as it did. -/
def areaKeepsUptoRow : OpenClaim := { program := "ytlmjjkggoemabab", sum := "1c2aa56aad82418dfcd9003a5285e6483f7c3902f1eaf059ee4b866cb3641f9f", func := "pavior/paviorlaw09.AreaKeeps", spec := "areaKeeps", unfollowed := true, recurses := true, apart := false, narrowed := true }
def AreaKeepsUptoSaid : Prop := areaKeepsUptoRow.holds Try.pinned (OpenSpec.upto areaKeepsSpec)

/-- 'paviorlaw09.AreaRooms', WHERE WHAT IT READS IS OF BULK AT MOST 1048576: true; the input reads as it did. -/
def areaRoomsUptoRow : OpenClaim := { program := "ytlmjjkggoemabab", sum := "1c2aa56aad82418dfcd9003a5285e6483f7c3902f1eaf059ee4b866cb3641f9f", func := "pavior/paviorlaw09.AreaRooms", spec := "areaRooms", unfollowed := true, recurses := true, apart := false, narrowed := true }
def AreaRoomsUptoSaid : Prop := areaRoomsUptoRow.holds Try.pinned (OpenSpec.upto areaRoomsSpec)

/-- 'paviorlaw09.AreaChanges', WHERE WHAT IT READS IS OF BULK AT MOST 1048576: true; the input reads as it did. -/
def areaChangesUptoRow : OpenClaim := { program := "ytlmjjkggoemabab", sum := "1c2aa56aad82418dfcd9003a5285e6483f7c3902f1eaf059ee4b866cb3641f9f", func := "pavior/paviorlaw09.AreaChanges", spec := "areaChanges", unfollowed := true, recurses := true, apart := false, narrowed := true }
def AreaChangesUptoSaid : Prop := areaChangesUptoRow.holds Try.pinned (OpenSpec.upto areaChangesSpec)

/-- 'paviorlaw09.AreaStays', WHERE WHAT IT READS IS OF BULK AT MOST 1048576: true; the input reads as it did. -/
def areaStaysUptoRow : OpenClaim := { program := "ytlmjjkggoemabab", sum := "1c2aa56aad82418dfcd9003a5285e6483f7c3902f1eaf059ee4b866cb3641f9f", func := "pavior/paviorlaw09.AreaStays", spec := "areaStays", unfollowed := true, recurses := true, apart := false, narrowed := true }
def AreaStaysUptoSaid : Prop := areaStaysUptoRow.holds Try.pinned (OpenSpec.upto areaStaysSpec)

end Rows
end Go.Proofs.Ytlmjjkggoemabab
