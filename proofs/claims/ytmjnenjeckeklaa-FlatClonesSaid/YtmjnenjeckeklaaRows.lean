/-
  No cell of these rows narrows 'for every input' (looked for: loops, veiled, ifaces, maps, wideKeys, modest, calm, conditions, laid).
  DERIVED. THE GIVEN ROWS OF THIS SEAT. 4 by the template 'for every input the law returns true; each argument reads behind the call as it read before'; 0 by the template 'total and deterministic' (their statements: YtmjnenjeckeklaaTotals.lean).
  GIVEN WITH THE SEED: the statements are not yours to turn. If you find one false, say at which input.
  Laid BY PROGRAM, IN A SANDBOX (cutbox-rows.mjs): the forced cells as the released guide's own fill.sh prints them over the translation 06d4e9d1dc6ba83d… (all of the seat's roots in one cut). By AI agents, Wed Nov 11 2026. No macro, syntax, notation, axiom, sorry.
-/
import Derived.Test.YtmjnenjeckeklaaChecked
import GoSem.Claim
import GoSem.ClaimJoined
import GoSem.ClaimMapViews
import Derived.JoinedTies
import Derived.KernelRfl
namespace Go.Proofs.Ytmjnenjeckeklaa
/- THE CELL 'sum', in the pinned program and in every row, IS THE sha256 OF THE DUMP (.gsa) THAT YtmjnenjeckeklaaProg.lean LOADS. Nothing in Lean hashes anything: it is a label: what it is worth is what the hold of that sum in a sandbox is worth. -/
noncomputable def Try.pinned : Pinned := { name := "ytmjnenjeckeklaa", sum := "06d4e9d1dc6ba83d20c3f508cc729f2d746f14a232071de7354539fba23215f8", checked := Try.checked }
namespace Rows
def none {H : Type} : Left H := { results := [], args := [] }

/-- 'paviorlaw10.FlatOwn': WHATEVER THE INPUT: true; the input reads as it did. -/
def flatOwnSpec : ChangeSpec := { name := "flatOwn", fn := fun _ => fun
  | [d1, d2, d3, d4, d5, d6] => { results := [.lit (.bool true)], args := [d1, d2, d3, d4, d5, d6] }
  | _ => none }
def flatOwnRow : OpenClaim := { program := "ytmjnenjeckeklaa", sum := "06d4e9d1dc6ba83d20c3f508cc729f2d746f14a232071de7354539fba23215f8", func := "pavior/paviorlaw10.FlatOwn", spec := "flatOwn", inPlace := ["maps.clone"], unfollowed := true, recurses := true, apart := false }
def FlatOwnSaid : Prop := flatOwnRow.holds Try.pinned (OpenSpec.ofChange flatOwnSpec)

/-- ITS FALSE NEIGHBOUR: 'it returns false'. Refute it at one input. -/
def flatOwnWrong : ChangeSpec := { name := "flatOwn", fn := fun _ => fun
  | [d1, d2, d3, d4, d5, d6] => { results := [.lit (.bool false)], args := [d1, d2, d3, d4, d5, d6] }
  | _ => none }
def FlatOwnWrongFalsely : Prop := flatOwnRow.holds Try.pinned (OpenSpec.ofChange flatOwnWrong)

/-- 'paviorlaw10.FlatForks': WHATEVER THE INPUT: true; the input reads as it did. -/
def flatForksSpec : ChangeSpec := { name := "flatForks", fn := fun _ => fun
  | [d1, d2, d3, d4, d5] => { results := [.lit (.bool true)], args := [d1, d2, d3, d4, d5] }
  | _ => none }
def flatForksRow : OpenClaim := { program := "ytmjnenjeckeklaa", sum := "06d4e9d1dc6ba83d20c3f508cc729f2d746f14a232071de7354539fba23215f8", func := "pavior/paviorlaw10.FlatForks", spec := "flatForks", inPlace := ["maps.clone"], unfollowed := true, recurses := true, apart := false }
def FlatForksSaid : Prop := flatForksRow.holds Try.pinned (OpenSpec.ofChange flatForksSpec)

/-- ITS FALSE NEIGHBOUR: 'it returns false'. Refute it at one input. -/
def flatForksWrong : ChangeSpec := { name := "flatForks", fn := fun _ => fun
  | [d1, d2, d3, d4, d5] => { results := [.lit (.bool false)], args := [d1, d2, d3, d4, d5] }
  | _ => none }
def FlatForksWrongFalsely : Prop := flatForksRow.holds Try.pinned (OpenSpec.ofChange flatForksWrong)

/-- 'paviorlaw10.FlatPlays': WHATEVER THE INPUT: true; the input reads as it did. -/
def flatPlaysSpec : ChangeSpec := { name := "flatPlays", fn := fun _ => fun
  | [d] => { results := [.lit (.bool true)], args := [d] }
  | _ => none }
def flatPlaysRow : OpenClaim := { program := "ytmjnenjeckeklaa", sum := "06d4e9d1dc6ba83d20c3f508cc729f2d746f14a232071de7354539fba23215f8", func := "pavior/paviorlaw10.FlatPlays", spec := "flatPlays", inPlace := ["maps.clone"], unfollowed := true, recurses := true, apart := false }
def FlatPlaysSaid : Prop := flatPlaysRow.holds Try.pinned (OpenSpec.ofChange flatPlaysSpec)

/-- ITS FALSE NEIGHBOUR: 'it returns false'. Refute it at one input. -/
def flatPlaysWrong : ChangeSpec := { name := "flatPlays", fn := fun _ => fun
  | [d] => { results := [.lit (.bool false)], args := [d] }
  | _ => none }
def FlatPlaysWrongFalsely : Prop := flatPlaysRow.holds Try.pinned (OpenSpec.ofChange flatPlaysWrong)

/-- 'paviorlaw10.FlatClones': WHATEVER THE INPUT: true; the input reads as it did. -/
def flatClonesSpec : ChangeSpec := { name := "flatClones", fn := fun _ => fun
  | [d1, d2] => { results := [.lit (.bool true)], args := [d1, d2] }
  | _ => none }
def flatClonesRow : OpenClaim := { program := "ytmjnenjeckeklaa", sum := "06d4e9d1dc6ba83d20c3f508cc729f2d746f14a232071de7354539fba23215f8", func := "pavior/paviorlaw10.FlatClones", spec := "flatClones", inPlace := ["maps.clone"], unfollowed := true, recurses := true, apart := false }
def FlatClonesSaid : Prop := flatClonesRow.holds Try.pinned (OpenSpec.ofChange flatClonesSpec)

/-- ITS FALSE NEIGHBOUR: 'it returns false'. Refute it at one input. -/
def flatClonesWrong : ChangeSpec := { name := "flatClones", fn := fun _ => fun
  | [d1, d2] => { results := [.lit (.bool false)], args := [d1, d2] }
  | _ => none }
def FlatClonesWrongFalsely : Prop := flatClonesRow.holds Try.pinned (OpenSpec.ofChange flatClonesWrong)

/- THE SECOND FORM. 'bulk': how many values and letters a reading holds, each counted each time it is reached (what is shared counts as often as it is met; a slice's spare places count too). A statement '..UptoSaid' is the law's where the arguments, and the package variables that the reading takes, are together of bulk at most 1048576: NARROWER than '..Said'. Prove '..Said' where nothing that the law and all that it calls make is longer than what came in: it says more and counts as full. Else prove '..UptoSaid'. A law counts once. -/
mutual
def uptoBulk {H : Type} : DataW H → Nat
  | .lit (.string bytes) => bytes.length + 1
  | .lit _ => 1
  | .nil => 1
  | .ptr d => uptoBulk d + 1
  | .slice elems spare => uptoBulkAll elems + uptoBulkAll spare + 1
  | .agg parts => uptoBulkAll parts + 1
  | .iface _ d => uptoBulk d + 1
  | .map entries => uptoBulkEntries entries + 1
  | .held _ => 1
def uptoBulkAll {H : Type} : List (DataW H) → Nat
  | [] => 0
  | d :: r => uptoBulk d + uptoBulkAll r
def uptoBulkEntries {H : Type} : List (Lit × DataW H) → Nat
  | [] => 0
  | x :: r => uptoBulkEntry x + uptoBulkEntries r
def uptoBulkEntry {H : Type} : Lit × DataW H → Nat
  | (.string bytes, d) => bytes.length + uptoBulk d + 1
  | (_, d) => uptoBulk d + 1
 end
def uptoSmall : (H : Type) → List (DataW H) → Bool := fun _ ds => decide (uptoBulkAll ds ≤ 1048576)
def OpenSpec.upto (s : _root_.Go.ChangeSpec) : _root_.Go.OpenSpec := { _root_.Go.OpenSpec.ofChange s with cond := some uptoSmall }

/-- 'paviorlaw10.FlatOwn', WHERE WHAT IT READS IS OF BULK AT MOST 1048576: true; the input reads as it did. -/
def flatOwnUptoRow : OpenClaim := { program := "ytmjnenjeckeklaa", sum := "06d4e9d1dc6ba83d20c3f508cc729f2d746f14a232071de7354539fba23215f8", func := "pavior/paviorlaw10.FlatOwn", spec := "flatOwn", inPlace := ["maps.clone"], unfollowed := true, recurses := true, apart := false, narrowed := true }
def FlatOwnUptoSaid : Prop := flatOwnUptoRow.holds Try.pinned (OpenSpec.upto flatOwnSpec)

/-- 'paviorlaw10.FlatForks', WHERE WHAT IT READS IS OF BULK AT MOST 1048576: true; the input reads as it did. -/
def flatForksUptoRow : OpenClaim := { program := "ytmjnenjeckeklaa", sum := "06d4e9d1dc6ba83d20c3f508cc729f2d746f14a232071de7354539fba23215f8", func := "pavior/paviorlaw10.FlatForks", spec := "flatForks", inPlace := ["maps.clone"], unfollowed := true, recurses := true, apart := false, narrowed := true }
def FlatForksUptoSaid : Prop := flatForksUptoRow.holds Try.pinned (OpenSpec.upto flatForksSpec)

/-- 'paviorlaw10.FlatPlays', WHERE WHAT IT READS IS OF BULK AT MOST 1048576: true; the input reads as it did. -/
def flatPlaysUptoRow : OpenClaim := { program := "ytmjnenjeckeklaa", sum := "06d4e9d1dc6ba83d20c3f508cc729f2d746f14a232071de7354539fba23215f8", func := "pavior/paviorlaw10.FlatPlays", spec := "flatPlays", inPlace := ["maps.clone"], unfollowed := true, recurses := true, apart := false, narrowed := true }
def FlatPlaysUptoSaid : Prop := flatPlaysUptoRow.holds Try.pinned (OpenSpec.upto flatPlaysSpec)

/-- 'paviorlaw10.FlatClones', WHERE WHAT IT READS IS OF BULK AT MOST 1048576: true; the input reads as it did. -/
def flatClonesUptoRow : OpenClaim := { program := "ytmjnenjeckeklaa", sum := "06d4e9d1dc6ba83d20c3f508cc729f2d746f14a232071de7354539fba23215f8", func := "pavior/paviorlaw10.FlatClones", spec := "flatClones", inPlace := ["maps.clone"], unfollowed := true, recurses := true, apart := false, narrowed := true }
def FlatClonesUptoSaid : Prop := flatClonesUptoRow.holds Try.pinned (OpenSpec.upto flatClonesSpec)

end Rows
end Go.Proofs.Ytmjnenjeckeklaa
