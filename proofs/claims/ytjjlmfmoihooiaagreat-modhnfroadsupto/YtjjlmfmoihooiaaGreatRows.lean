/-
  No cell of these rows narrows 'for every input' (looked for: loops, veiled, ifaces, maps, wideKeys, modest, calm, conditions, laid).
  DERIVED. THE GIVEN ROWS OF THIS SEAT. 3 by the template 'for every input the law returns true; each argument reads behind the call as it read before'; 0 by the template 'total and deterministic' (their statements: YtjjlmfmoihooiaaGreatTotals.lean).
  GIVEN WITH THE SEED: the statements are not yours to turn. If you find one false, say at which input.
  Laid BY PROGRAM, IN A SANDBOX (cutbox-rows.mjs): the forced cells as the released guide's own fill.sh prints them over the translation e4ed88bac42909f2… (all of the seat's roots in one cut). By AI agents, Wed Nov 11 2026. No macro, syntax, notation, axiom, sorry.
-/
import Derived.Test.YtjjlmfmoihooiaaGreatChecked
import GoSem.Claim
import GoSem.ClaimJoined
import GoSem.ClaimMapViews
import Derived.JoinedTies
import Derived.KernelRfl
namespace Go.Proofs.YtjjlmfmoihooiaaGreat
/- THE CELL 'sum', in the pinned program and in every row, IS THE sha256 OF THE DUMP (.gsa) THAT YtjjlmfmoihooiaaGreatProg.lean LOADS. Nothing in Lean hashes anything: it is a label: what it is worth is what the hold of that sum in a sandbox is worth. -/
noncomputable def Tryz.pinned : Pinned := { name := "ytjjlmfmoihooiaagreat", sum := "e4ed88bac42909f219d803972450e27f3beb68f2198c0dd56d32151eb5b595bb", checked := Tryz.checked }
namespace Rows
def none {H : Type} : Left H := { results := [], args := [] }

/-- 'trellislaw19.ModhnfRoads': WHATEVER THE INPUT: true; the input reads as it did. -/
def modhnfRoadsSpec : ChangeSpec := { name := "modhnfRoads", fn := fun _ => fun
  | [d] => { results := [.lit (.bool true)], args := [d] }
  | _ => none }
def modhnfRoadsRow : OpenClaim := { program := "ytjjlmfmoihooiaagreat", sum := "e4ed88bac42909f219d803972450e27f3beb68f2198c0dd56d32151eb5b595bb", func := "trellis/trellislaw19.ModhnfRoads", spec := "modhnfRoads", inPlace := ["math/bits.Add64", "math/bits.Sub64"], unfollowed := true, recurses := true, named := ["math/bits.divideError", "math/bits.overflowError"], apart := false }
def ModhnfRoadsSaid : Prop := modhnfRoadsRow.holds Tryz.pinned (OpenSpec.ofChange modhnfRoadsSpec)

/-- ITS FALSE NEIGHBOUR: 'it returns false'. Refute it at one input. -/
def modhnfRoadsWrong : ChangeSpec := { name := "modhnfRoads", fn := fun _ => fun
  | [d] => { results := [.lit (.bool false)], args := [d] }
  | _ => none }
def ModhnfRoadsWrongFalsely : Prop := modhnfRoadsRow.holds Tryz.pinned (OpenSpec.ofChange modhnfRoadsWrong)

/-- 'trellislaw19.ModhnfVolumes': WHATEVER THE INPUT: true; the input reads as it did. -/
def modhnfVolumesSpec : ChangeSpec := { name := "modhnfVolumes", fn := fun _ => fun
  | [d1, d2] => { results := [.lit (.bool true)], args := [d1, d2] }
  | _ => none }
def modhnfVolumesRow : OpenClaim := { program := "ytjjlmfmoihooiaagreat", sum := "e4ed88bac42909f219d803972450e27f3beb68f2198c0dd56d32151eb5b595bb", func := "trellis/trellislaw19.ModhnfVolumes", spec := "modhnfVolumes", inPlace := ["math/bits.Add64", "math/bits.Sub64"], unfollowed := true, recurses := true, named := ["math/bits.divideError", "math/bits.overflowError"], apart := false }
def ModhnfVolumesSaid : Prop := modhnfVolumesRow.holds Tryz.pinned (OpenSpec.ofChange modhnfVolumesSpec)

/-- ITS FALSE NEIGHBOUR: 'it returns false'. Refute it at one input. -/
def modhnfVolumesWrong : ChangeSpec := { name := "modhnfVolumes", fn := fun _ => fun
  | [d1, d2] => { results := [.lit (.bool false)], args := [d1, d2] }
  | _ => none }
def ModhnfVolumesWrongFalsely : Prop := modhnfVolumesRow.holds Tryz.pinned (OpenSpec.ofChange modhnfVolumesWrong)

/-- 'trellislaw19.ModhnfInserts': WHATEVER THE INPUT: true; the input reads as it did. -/
def modhnfInsertsSpec : ChangeSpec := { name := "modhnfInserts", fn := fun _ => fun
  | [d1, d2] => { results := [.lit (.bool true)], args := [d1, d2] }
  | _ => none }
def modhnfInsertsRow : OpenClaim := { program := "ytjjlmfmoihooiaagreat", sum := "e4ed88bac42909f219d803972450e27f3beb68f2198c0dd56d32151eb5b595bb", func := "trellis/trellislaw19.ModhnfInserts", spec := "modhnfInserts", inPlace := ["math/bits.Add64", "math/bits.Sub64"], unfollowed := true, recurses := true, named := ["math/bits.divideError", "math/bits.overflowError"], apart := false }
def ModhnfInsertsSaid : Prop := modhnfInsertsRow.holds Tryz.pinned (OpenSpec.ofChange modhnfInsertsSpec)

/-- ITS FALSE NEIGHBOUR: 'it returns false'. Refute it at one input. -/
def modhnfInsertsWrong : ChangeSpec := { name := "modhnfInserts", fn := fun _ => fun
  | [d1, d2] => { results := [.lit (.bool false)], args := [d1, d2] }
  | _ => none }
def ModhnfInsertsWrongFalsely : Prop := modhnfInsertsRow.holds Tryz.pinned (OpenSpec.ofChange modhnfInsertsWrong)

/- THE SECOND FORM. 'bulk': how many values and letters a reading holds, each counted each time it is reached (what is shared counts as often as it is met; a slice's spare places count too). A statement '..UptoSaid' is the law's where the arguments, and the package variables that the reading takes, are together of bulk at most 1048576: NARROWER than '..Said'. Prove '..Said' where nothing that the law and all that it calls make is longer than what came in: it says more and counts as full. Else prove '..UptoSaid'. A law counts once. -/
mutual
def uptoBulk {H : Type} : DataW H → Nat
  | .lit (.string bytes) => bytes.length + 1
  | .lit _ => 1
  | .nil => 1
  | .ptr d => uptoBulk d + 1
  | .slice elems spare => uptoBulkAll elems + uptoBulkAll spare + 1
  | .agg parts => uptoBulkAll parts + 1
  | .iface _ d => uptoBulk d + 1
  | .map entries => uptoBulkEntries entries + 1
  | .held _ => 1
def uptoBulkAll {H : Type} : List (DataW H) → Nat
  | [] => 0
  | d :: r => uptoBulk d + uptoBulkAll r
def uptoBulkEntries {H : Type} : List (Lit × DataW H) → Nat
  | [] => 0
  | x :: r => uptoBulkEntry x + uptoBulkEntries r
def uptoBulkEntry {H : Type} : Lit × DataW H → Nat
  | (.string bytes, d) => bytes.length + uptoBulk d + 1
  | (_, d) => uptoBulk d + 1
 end
def uptoSmall : (H : Type) → List (DataW H) → Bool := fun _ ds => decide (uptoBulkAll ds ≤ 1048576)
def OpenSpec.upto (s : _root_.Go.ChangeSpec) : _root_.Go.OpenSpec := { _root_.Go.OpenSpec.ofChange s with cond := some uptoSmall }

/-- 'trellislaw19.ModhnfRoads', WHERE WHAT IT READS IS OF BULK AT MOST 1048576: true; the input reads as it did. -/
def modhnfRoadsUptoRow : OpenClaim := { program := "ytjjlmfmoihooiaagreat", sum := "e4ed88bac42909f219d803972450e27f3beb68f2198c0dd56d32151eb5b595bb", func := "trellis/trellislaw19.ModhnfRoads", spec := "modhnfRoads", inPlace := ["math/bits.Add64", "math/bits.Sub64"], unfollowed := true, recurses := true, named := ["math/bits.divideError", "math/bits.overflowError"], apart := false, narrowed := true }
def ModhnfRoadsUptoSaid : Prop := modhnfRoadsUptoRow.holds Tryz.pinned (OpenSpec.upto modhnfRoadsSpec)

/-- 'trellislaw19.ModhnfVolumes', WHERE WHAT IT READS IS OF BULK AT MOST 1048576: true; the input reads as it did. -/
def modhnfVolumesUptoRow : OpenClaim := { program := "ytjjlmfmoihooiaagreat", sum := "e4ed88bac42909f219d803972450e27f3beb68f2198c0dd56d32151eb5b595bb", func := "trellis/trellislaw19.ModhnfVolumes", spec := "modhnfVolumes", inPlace := ["math/bits.Add64", "math/bits.Sub64"], unfollowed := true, recurses := true, named := ["math/bits.divideError", "math/bits.overflowError"], apart := false, narrowed := true }
def ModhnfVolumesUptoSaid : Prop := modhnfVolumesUptoRow.holds Tryz.pinned (OpenSpec.upto modhnfVolumesSpec)

/-- 'trellislaw19.ModhnfInserts', WHERE WHAT IT READS IS OF BULK AT MOST 1048576: true; the input reads as it did. -/
def modhnfInsertsUptoRow : OpenClaim := { program := "ytjjlmfmoihooiaagreat", sum := "e4ed88bac42909f219d803972450e27f3beb68f2198c0dd56d32151eb5b595bb", func := "trellis/trellislaw19.ModhnfInserts", spec := "modhnfInserts", inPlace := ["math/bits.Add64", "math/bits.Sub64"], unfollowed := true, recurses := true, named := ["math/bits.divideError", "math/bits.overflowError"], apart := false, narrowed := true }
def ModhnfInsertsUptoSaid : Prop := modhnfInsertsUptoRow.holds Tryz.pinned (OpenSpec.upto modhnfInsertsSpec)

end Rows
end Go.Proofs.YtjjlmfmoihooiaaGreat
