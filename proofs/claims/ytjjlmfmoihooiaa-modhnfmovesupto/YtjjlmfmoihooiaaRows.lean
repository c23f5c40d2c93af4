/-
  No cell of these rows narrows 'for every input' (looked for: loops, veiled, ifaces, maps, wideKeys, modest, calm, conditions, laid).
  DERIVED. THE GIVEN ROWS OF THIS SEAT. 2 by the template 'for every input the law returns true; each argument reads behind the call as it read before'; 0 by the template 'total and deterministic' (their statements: YtjjlmfmoihooiaaTotals.lean).
  GIVEN WITH THE SEED: the statements are not yours to turn. If you find one false, say at which input.
  Laid BY PROGRAM, IN A SANDBOX (cutbox-rows.mjs): the forced cells as the released guide's own fill.sh prints them over the translation aa651aa06f997732… (all of the seat's roots in one cut). By AI agents, Wed Nov 11 2026. No macro, syntax, notation, axiom, sorry.
-/
import Derived.Test.YtjjlmfmoihooiaaChecked
import GoSem.Claim
import GoSem.ClaimJoined
import GoSem.ClaimMapViews
import Derived.JoinedTies
import Derived.KernelRfl
namespace Go.Proofs.Ytjjlmfmoihooiaa
/- THE CELL 'sum', in the pinned program and in every row, IS THE sha256 OF THE DUMP (.gsa) THAT YtjjlmfmoihooiaaProg.lean LOADS. Nothing in Lean hashes anything: it is a label: what it is worth is what the hold of that sum in a sandbox is worth. -/
noncomputable def Try.pinned : Pinned := { name := "ytjjlmfmoihooiaa", sum := "aa651aa06f9977326e8e1ef0db9f96a2e5fca870e8185ce6f4671c6d7472fd7b", checked := Try.checked }
namespace Rows
def none {H : Type} : Left H := { results := [], args := [] }

/-- 'trellislaw19.ModhnfFollows': WHATEVER THE INPUT: true; the input reads as it did. -/
def modhnfFollowsSpec : ChangeSpec := { name := "modhnfFollows", fn := fun _ => fun
  | [d1, d2] => { results := [.lit (.bool true)], args := [d1, d2] }
  | _ => none }
def modhnfFollowsRow : OpenClaim := { program := "ytjjlmfmoihooiaa", sum := "aa651aa06f9977326e8e1ef0db9f96a2e5fca870e8185ce6f4671c6d7472fd7b", func := "trellis/trellislaw19.ModhnfFollows", spec := "modhnfFollows", inPlace := ["math/bits.Add64", "math/bits.Sub64"], unfollowed := true, recurses := true, named := ["math/bits.divideError", "math/bits.overflowError"], apart := false }
def ModhnfFollowsSaid : Prop := modhnfFollowsRow.holds Try.pinned (OpenSpec.ofChange modhnfFollowsSpec)

/-- ITS FALSE NEIGHBOUR: 'it returns false'. Refute it at one input. -/
def modhnfFollowsWrong : ChangeSpec := { name := "modhnfFollows", fn := fun _ => fun
  | [d1, d2] => { results := [.lit (.bool false)], args := [d1, d2] }
  | _ => none }
def ModhnfFollowsWrongFalsely : Prop := modhnfFollowsRow.holds Try.pinned (OpenSpec.ofChange modhnfFollowsWrong)

/-- 'trellislaw19.ModhnfMoves': WHATEVER THE INPUT: true; the input reads as it did. -/
def modhnfMovesSpec : ChangeSpec := { name := "modhnfMoves", fn := fun _ => fun
  | [d1, d2] => { results := [.lit (.bool true)], args := [d1, d2] }
  | _ => none }
def modhnfMovesRow : OpenClaim := { program := "ytjjlmfmoihooiaa", sum := "aa651aa06f9977326e8e1ef0db9f96a2e5fca870e8185ce6f4671c6d7472fd7b", func := "trellis/trellislaw19.ModhnfMoves", spec := "modhnfMoves", inPlace := ["math/bits.Add64", "math/bits.Sub64"], unfollowed := true, recurses := true, named := ["math/bits.divideError", "math/bits.overflowError"], apart := false }
def ModhnfMovesSaid : Prop := modhnfMovesRow.holds Try.pinned (OpenSpec.ofChange modhnfMovesSpec)

/-- ITS FALSE NEIGHBOUR: 'it returns false'. Refute it at one input. -/
def modhnfMovesWrong : ChangeSpec := { name := "modhnfMoves", fn := fun _ => fun
  | [d1, d2] => { results := [.lit (.bool false)], args := [d1, d2] }
  | _ => none }
def ModhnfMovesWrongFalsely : Prop := modhnfMovesRow.holds Try.pinned (OpenSpec.ofChange modhnfMovesWrong)

/- THE SECOND FORM. 'bulk': how many values and letters a reading holds, each counted each time it is reached (what is shared counts as often as it is met; a slice's spare places count too). A statement '..UptoSaid' is the law's where the arguments, and the package variables that the reading takes, are together of bulk at most 1048576: NARROWER than '..Said'. Prove '..Said' where nothing that the law and all that it calls make is longer than what came in: it says more and counts as full. Else prove '..UptoSaid'. A law counts once. -/
mutual
def uptoBulk {H : Type} : DataW H → Nat
  | .lit (.string bytes) => bytes.length + 1
  | .lit _ => 1
  | .nil => 1
  | .ptr d => uptoBulk d + 1
  | .slice elems spare => uptoBulkAll elems + uptoBulkAll spare + 1
  | .agg parts => uptoBulkAll parts + 1
  | .iface _ d => uptoBulk d + 1
  | .map entries => uptoBulkEntries entries + 1
  | .held _ => 1
def uptoBulkAll {H : Type} : List (DataW H) → Nat
  | [] => 0
  | d :: r => uptoBulk d + uptoBulkAll r
def uptoBulkEntries {H : Type} : List (Lit × DataW H) → Nat
  | [] => 0
  | x :: r => uptoBulkEntry x + uptoBulkEntries r
def uptoBulkEntry {H : Type} : Lit × DataW H → Nat
  | (.string bytes, d) => bytes.length + uptoBulk d + 1
  | (_, d) => uptoBulk d + 1
 end
def uptoSmall : (H : Type) → List (DataW H) → Bool := fun _ ds => decide (uptoBulkAll ds ≤ 1048576)
def OpenSpec.upto (s : _root_.Go.ChangeSpec) : _root_.Go.OpenSpec := { _root_.Go.OpenSpec.ofChange s with cond := some uptoSmall }

/-- 'trellislaw19.ModhnfFollows', WHERE WHAT IT READS IS OF BULK AT MOST 1048576: true; the input reads as it did. -/
def modhnfFollowsUptoRow : OpenClaim := { program := "ytjjlmfmoihooiaa", sum := "aa651aa06f9977326e8e1ef0db9f96a2e5fca870e8185ce6f4671c6d7472fd7b", func := "trellis/trellislaw19.ModhnfFollows", spec := "modhnfFollows", inPlace := ["math/bits.Add64", "math/bits.Sub64"], unfollowed := true, recurses := true, named := ["math/bits.divideError", "math/bits.overflowError"], apart := false, narrowed := true }
def ModhnfFollowsUptoSaid : Prop := modhnfFollowsUptoRow.holds Try.pinned (OpenSpec.upto modhnfFollowsSpec)

/-- 'trellislaw19.ModhnfMoves', WHERE WHAT IT READS IS OF BULK AT MOST 1048576: true; the input reads as it did. -/
def modhnfMovesUptoRow : OpenClaim := { program := "ytjjlmfmoihooiaa", sum := "aa651aa06f9977326e8e1ef0db9f96a2e5fca870e8185ce6f4671c6d7472fd7b", func := "trellis/trellislaw19.ModhnfMoves", spec := "modhnfMoves", inPlace := ["math/bits.Add64", "math/bits.Sub64"], unfollowed := true, recurses := true, named := ["math/bits.divideError", "math/bits.overflowError"], apart := false, narrowed := true }
def ModhnfMovesUptoSaid : Prop := modhnfMovesUptoRow.holds Try.pinned (OpenSpec.upto modhnfMovesSpec)

end Rows
end Go.Proofs.Ytjjlmfmoihooiaa
