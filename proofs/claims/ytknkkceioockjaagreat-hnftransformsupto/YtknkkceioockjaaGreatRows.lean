/-
  No cell of these rows narrows 'for every input' (looked for: loops, veiled, ifaces, maps, wideKeys, modest, calm, conditions, laid).
  DERIVED. THE GIVEN ROWS OF THIS SEAT. 7 by the template 'for every input the law returns true; each argument reads behind the call as it read before'; 0 by the template 'total and deterministic' (their statements: YtknkkceioockjaaGreatTotals.lean).
  GIVEN WITH THE SEED: the statements are not yours to turn. If you find one false, say at which input.
  Laid BY PROGRAM, IN A SANDBOX (cutbox-rows.mjs): the forced cells as the released guide's own fill.sh prints them over the translation 3bdace61f14993c9… (all of the seat's roots in one cut). By AI agents, Wed Nov 11 2026. No macro, syntax, notation, axiom, sorry.
-/
import Derived.Test.YtknkkceioockjaaGreatChecked
import GoSem.Claim
import GoSem.ClaimJoined
import GoSem.ClaimMapViews
import Derived.JoinedTies
import Derived.KernelRfl
namespace Go.Proofs.YtknkkceioockjaaGreat
/- THE CELL 'sum', in the pinned program and in every row, IS THE sha256 OF THE DUMP (.gsa) THAT YtknkkceioockjaaGreatProg.lean LOADS. Nothing in Lean hashes anything: it is a label: what it is worth is what the hold of that sum in a sandbox is worth. -/
noncomputable def Tryz.pinned : Pinned := { name := "ytknkkceioockjaagreat", sum := "3bdace61f14993c906a5d66d39df39a8b3a142eed0da0a086af8fa0f82922feb", checked := Tryz.checked }
namespace Rows
def none {H : Type} : Left H := { results := [], args := [] }

/-- 'trellislaw18.HnfUnique': WHATEVER THE INPUT: true; the input reads as it did. -/
def hnfUniqueSpec : ChangeSpec := { name := "hnfUnique", fn := fun _ => fun
  | [d1, d2] => { results := [.lit (.bool true)], args := [d1, d2] }
  | _ => none }
def hnfUniqueRow : OpenClaim := { program := "ytknkkceioockjaagreat", sum := "3bdace61f14993c906a5d66d39df39a8b3a142eed0da0a086af8fa0f82922feb", func := "trellis/trellislaw18.HnfUnique", spec := "hnfUnique", inPlace := ["math/bits.Add64", "math/bits.Sub64"], unfollowed := true, recurses := true, named := ["math/bits.divideError", "math/bits.overflowError"], apart := false }
def HnfUniqueSaid : Prop := hnfUniqueRow.holds Tryz.pinned (OpenSpec.ofChange hnfUniqueSpec)

/-- ITS FALSE NEIGHBOUR: 'it returns false'. Refute it at one input. -/
def hnfUniqueWrong : ChangeSpec := { name := "hnfUnique", fn := fun _ => fun
  | [d1, d2] => { results := [.lit (.bool false)], args := [d1, d2] }
  | _ => none }
def HnfUniqueWrongFalsely : Prop := hnfUniqueRow.holds Tryz.pinned (OpenSpec.ofChange hnfUniqueWrong)

/-- 'trellislaw18.HnfVolume': WHATEVER THE INPUT: true; the input reads as it did. -/
def hnfVolumeSpec : ChangeSpec := { name := "hnfVolume", fn := fun _ => fun
  | [d] => { results := [.lit (.bool true)], args := [d] }
  | _ => none }
def hnfVolumeRow : OpenClaim := { program := "ytknkkceioockjaagreat", sum := "3bdace61f14993c906a5d66d39df39a8b3a142eed0da0a086af8fa0f82922feb", func := "trellis/trellislaw18.HnfVolume", spec := "hnfVolume", inPlace := ["math/bits.Add64", "math/bits.Sub64"], unfollowed := true, recurses := true, named := ["math/bits.divideError", "math/bits.overflowError"], apart := false }
def HnfVolumeSaid : Prop := hnfVolumeRow.holds Tryz.pinned (OpenSpec.ofChange hnfVolumeSpec)

/-- ITS FALSE NEIGHBOUR: 'it returns false'. Refute it at one input. -/
def hnfVolumeWrong : ChangeSpec := { name := "hnfVolume", fn := fun _ => fun
  | [d] => { results := [.lit (.bool false)], args := [d] }
  | _ => none }
def HnfVolumeWrongFalsely : Prop := hnfVolumeRow.holds Tryz.pinned (OpenSpec.ofChange hnfVolumeWrong)

/-- 'trellislaw18.HnfTransforms': WHATEVER THE INPUT: true; the input reads as it did. -/
def hnfTransformsSpec : ChangeSpec := { name := "hnfTransforms", fn := fun _ => fun
  | [d] => { results := [.lit (.bool true)], args := [d] }
  | _ => none }
def hnfTransformsRow : OpenClaim := { program := "ytknkkceioockjaagreat", sum := "3bdace61f14993c906a5d66d39df39a8b3a142eed0da0a086af8fa0f82922feb", func := "trellis/trellislaw18.HnfTransforms", spec := "hnfTransforms", inPlace := ["math/bits.Add64", "math/bits.Sub64"], unfollowed := true, recurses := true, named := ["math/bits.divideError", "math/bits.overflowError"], apart := false }
def HnfTransformsSaid : Prop := hnfTransformsRow.holds Tryz.pinned (OpenSpec.ofChange hnfTransformsSpec)

/-- ITS FALSE NEIGHBOUR: 'it returns false'. Refute it at one input. -/
def hnfTransformsWrong : ChangeSpec := { name := "hnfTransforms", fn := fun _ => fun
  | [d] => { results := [.lit (.bool false)], args := [d] }
  | _ => none }
def HnfTransformsWrongFalsely : Prop := hnfTransformsRow.holds Tryz.pinned (OpenSpec.ofChange hnfTransformsWrong)

/-- 'trellislaw18.HnfRest': WHATEVER THE INPUT: true; the input reads as it did. -/
def hnfRestSpec : ChangeSpec := { name := "hnfRest", fn := fun _ => fun
  | [d1, d2, d3] => { results := [.lit (.bool true)], args := [d1, d2, d3] }
  | _ => none }
def hnfRestRow : OpenClaim := { program := "ytknkkceioockjaagreat", sum := "3bdace61f14993c906a5d66d39df39a8b3a142eed0da0a086af8fa0f82922feb", func := "trellis/trellislaw18.HnfRest", spec := "hnfRest", inPlace := ["math/bits.Add64", "math/bits.Sub64"], unfollowed := true, recurses := true, named := ["math/bits.divideError", "math/bits.overflowError"], apart := false }
def HnfRestSaid : Prop := hnfRestRow.holds Tryz.pinned (OpenSpec.ofChange hnfRestSpec)

/-- ITS FALSE NEIGHBOUR: 'it returns false'. Refute it at one input. -/
def hnfRestWrong : ChangeSpec := { name := "hnfRest", fn := fun _ => fun
  | [d1, d2, d3] => { results := [.lit (.bool false)], args := [d1, d2, d3] }
  | _ => none }
def HnfRestWrongFalsely : Prop := hnfRestRow.holds Tryz.pinned (OpenSpec.ofChange hnfRestWrong)

/-- 'trellislaw18.HnfInserts': WHATEVER THE INPUT: true; the input reads as it did. -/
def hnfInsertsSpec : ChangeSpec := { name := "hnfInserts", fn := fun _ => fun
  | [d1, d2] => { results := [.lit (.bool true)], args := [d1, d2] }
  | _ => none }
def hnfInsertsRow : OpenClaim := { program := "ytknkkceioockjaagreat", sum := "3bdace61f14993c906a5d66d39df39a8b3a142eed0da0a086af8fa0f82922feb", func := "trellis/trellislaw18.HnfInserts", spec := "hnfInserts", inPlace := ["math/bits.Add64", "math/bits.Sub64"], unfollowed := true, recurses := true, named := ["math/bits.divideError", "math/bits.overflowError"], apart := false }
def HnfInsertsSaid : Prop := hnfInsertsRow.holds Tryz.pinned (OpenSpec.ofChange hnfInsertsSpec)

/-- ITS FALSE NEIGHBOUR: 'it returns false'. Refute it at one input. -/
def hnfInsertsWrong : ChangeSpec := { name := "hnfInserts", fn := fun _ => fun
  | [d1, d2] => { results := [.lit (.bool false)], args := [d1, d2] }
  | _ => none }
def HnfInsertsWrongFalsely : Prop := hnfInsertsRow.holds Tryz.pinned (OpenSpec.ofChange hnfInsertsWrong)

/-- 'trellislaw18.HnfAll': WHATEVER THE INPUT: true; the input reads as it did. -/
def hnfAllSpec : ChangeSpec := { name := "hnfAll", fn := fun _ => fun
  | [d] => { results := [.lit (.bool true)], args := [d] }
  | _ => none }
def hnfAllRow : OpenClaim := { program := "ytknkkceioockjaagreat", sum := "3bdace61f14993c906a5d66d39df39a8b3a142eed0da0a086af8fa0f82922feb", func := "trellis/trellislaw18.HnfAll", spec := "hnfAll", inPlace := ["math/bits.Add64", "math/bits.Sub64"], unfollowed := true, recurses := true, named := ["math/bits.divideError", "math/bits.overflowError"], apart := false }
def HnfAllSaid : Prop := hnfAllRow.holds Tryz.pinned (OpenSpec.ofChange hnfAllSpec)

/-- ITS FALSE NEIGHBOUR: 'it returns false'. Refute it at one input. -/
def hnfAllWrong : ChangeSpec := { name := "hnfAll", fn := fun _ => fun
  | [d] => { results := [.lit (.bool false)], args := [d] }
  | _ => none }
def HnfAllWrongFalsely : Prop := hnfAllRow.holds Tryz.pinned (OpenSpec.ofChange hnfAllWrong)

/-- 'trellislaw18.HnfMemory': WHATEVER THE INPUT: true; the input reads as it did. -/
def hnfMemorySpec : ChangeSpec := { name := "hnfMemory", fn := fun _ => fun
  | [d1, d2] => { results := [.lit (.bool true)], args := [d1, d2] }
  | _ => none }
def hnfMemoryRow : OpenClaim := { program := "ytknkkceioockjaagreat", sum := "3bdace61f14993c906a5d66d39df39a8b3a142eed0da0a086af8fa0f82922feb", func := "trellis/trellislaw18.HnfMemory", spec := "hnfMemory", inPlace := ["math/bits.Add64", "math/bits.Sub64"], unfollowed := true, recurses := true, named := ["math/bits.divideError", "math/bits.overflowError"], apart := false }
def HnfMemorySaid : Prop := hnfMemoryRow.holds Tryz.pinned (OpenSpec.ofChange hnfMemorySpec)

/-- ITS FALSE NEIGHBOUR: 'it returns false'. Refute it at one input. -/
def hnfMemoryWrong : ChangeSpec := { name := "hnfMemory", fn := fun _ => fun
  | [d1, d2] => { results := [.lit (.bool false)], args := [d1, d2] }
  | _ => none }
def HnfMemoryWrongFalsely : Prop := hnfMemoryRow.holds Tryz.pinned (OpenSpec.ofChange hnfMemoryWrong)

/- THE SECOND FORM. 'bulk': how many values and letters a reading holds, each counted each time it is reached (what is shared counts as often as it is met; a slice's spare places count too). A statement '..UptoSaid' is the law's where the arguments, and the package variables that the reading takes, are together of bulk at most 1048576: NARROWER than '..Said'. Prove '..Said' where nothing that the law and all that it calls make is longer than what came in: it says more and counts as full. Else prove '..UptoSaid'. A law counts once. -/
mutual
def uptoBulk {H : Type} : DataW H → Nat
  | .lit (.string bytes) => bytes.length + 1
  | .lit _ => 1
  | .nil => 1
  | .ptr d => uptoBulk d + 1
  | .slice elems spare => uptoBulkAll elems + uptoBulkAll spare + 1
  | .agg parts => uptoBulkAll parts + 1
  | .iface _ d => uptoBulk d + 1
  | .map entries => uptoBulkEntries entries + 1
  | .held _ => 1
def uptoBulkAll {H : Type} : List (DataW H) → Nat
  | [] => 0
  | d :: r => uptoBulk d + uptoBulkAll r
def uptoBulkEntries {H : Type} : List (Lit × DataW H) → Nat
  | [] => 0
  | x :: r => uptoBulkEntry x + uptoBulkEntries r
def uptoBulkEntry {H : Type} : Lit × DataW H → Nat
  | (.string bytes, d) => bytes.length + uptoBulk d + 1
  | (_, d) => uptoBulk d + 1
 end
def uptoSmall : (H : Type) → List (DataW H) → Bool := fun _ ds => decide (uptoBulkAll ds ≤ 1048576)
def OpenSpec.upto (s : _root_.Go.ChangeSpec) : _root_.Go.OpenSpec := { _root_.Go.OpenSpec.ofChange s with cond := some uptoSmall }

/-- 'trellislaw18.HnfUnique', WHERE WHAT IT READS IS OF BULK AT MOST 1048576: true; the input reads as it did. -/
def hnfUniqueUptoRow : OpenClaim := { program := "ytknkkceioockjaagreat", sum := "3bdace61f14993c906a5d66d39df39a8b3a142eed0da0a086af8fa0f82922feb", func := "trellis/trellislaw18.HnfUnique", spec := "hnfUnique", inPlace := ["math/bits.Add64", "math/bits.Sub64"], unfollowed := true, recurses := true, named := ["math/bits.divideError", "math/bits.overflowError"], apart := false, narrowed := true }
def HnfUniqueUptoSaid : Prop := hnfUniqueUptoRow.holds Tryz.pinned (OpenSpec.upto hnfUniqueSpec)

/-- 'trellislaw18.HnfVolume', WHERE WHAT IT READS IS OF BULK AT MOST 1048576: true; the input reads as it did. -/
def hnfVolumeUptoRow : OpenClaim := { program := "ytknkkceioockjaagreat", sum := "3bdace61f14993c906a5d66d39df39a8b3a142eed0da0a086af8fa0f82922feb", func := "trellis/trellislaw18.HnfVolume", spec := "hnfVolume", inPlace := ["math/bits.Add64", "math/bits.Sub64"], unfollowed := true, recurses := true, named := ["math/bits.divideError", "math/bits.overflowError"], apart := false, narrowed := true }
def HnfVolumeUptoSaid : Prop := hnfVolumeUptoRow.holds Tryz.pinned (OpenSpec.upto hnfVolumeSpec)

/-- 'trellislaw18.HnfTransforms', WHERE WHAT IT READS IS OF BULK AT MOST 1048576: true; the input reads as it did. -/
def hnfTransformsUptoRow : OpenClaim := { program := "ytknkkceioockjaagreat", sum := "3bdace61f14993c906a5d66d39df39a8b3a142eed0da0a086af8fa0f82922feb", func := "trellis/trellislaw18.HnfTransforms", spec := "hnfTransforms", inPlace := ["math/bits.Add64", "math/bits.Sub64"], unfollowed := true, recurses := true, named := ["math/bits.divideError", "math/bits.overflowError"], apart := false, narrowed := true }
def HnfTransformsUptoSaid : Prop := hnfTransformsUptoRow.holds Tryz.pinned (OpenSpec.upto hnfTransformsSpec)

/-- 'trellislaw18.HnfRest', WHERE WHAT IT READS IS OF BULK AT MOST 1048576: true; the input reads as it did. -/
def hnfRestUptoRow : OpenClaim := { program := "ytknkkceioockjaagreat", sum := "3bdace61f14993c906a5d66d39df39a8b3a142eed0da0a086af8fa0f82922feb", func := "trellis/trellislaw18.HnfRest", spec := "hnfRest", inPlace := ["math/bits.Add64", "math/bits.Sub64"], unfollowed := true, recurses := true, named := ["math/bits.divideError", "math/bits.overflowError"], apart := false, narrowed := true }
def HnfRestUptoSaid : Prop := hnfRestUptoRow.holds Tryz.pinned (OpenSpec.upto hnfRestSpec)

/-- 'trellislaw18.HnfInserts', WHERE WHAT IT READS IS OF BULK AT MOST 1048576: true; the input reads as it did. -/
def hnfInsertsUptoRow : OpenClaim := { program := "ytknkkceioockjaagreat", sum := "3bdace61f14993c906a5d66d39df39a8b3a142eed0da0a086af8fa0f82922feb", func := "trellis/trellislaw18.HnfInserts", spec := "hnfInserts", inPlace := ["math/bits.Add64", "math/bits.Sub64"], unfollowed := true, recurses := true, named := ["math/bits.divideError", "math/bits.overflowError"], apart := false, narrowed := true }
def HnfInsertsUptoSaid : Prop := hnfInsertsUptoRow.holds Tryz.pinned (OpenSpec.upto hnfInsertsSpec)

/-- 'trellislaw18.HnfAll', WHERE WHAT IT READS IS OF BULK AT MOST 1048576: true; the input reads as it did. -/
def hnfAllUptoRow : OpenClaim := { program := "ytknkkceioockjaagreat", sum := "3bdace61f14993c906a5d66d39df39a8b3a142eed0da0a086af8fa0f82922feb", func := "trellis/trellislaw18.HnfAll", spec := "hnfAll", inPlace := ["math/bits.Add64", "math/bits.Sub64"], unfollowed := true, recurses := true, named := ["math/bits.divideError", "math/bits.overflowError"], apart := false, narrowed := true }
def HnfAllUptoSaid : Prop := hnfAllUptoRow.holds Tryz.pinned (OpenSpec.upto hnfAllSpec)

/-- 'trellislaw18.HnfMemory', WHERE WHAT IT READS IS OF BULK AT MOST 1048576: true; the input reads as it did. -/
def hnfMemoryUptoRow : OpenClaim := { program := "ytknkkceioockjaagreat", sum := "3bdace61f14993c906a5d66d39df39a8b3a142eed0da0a086af8fa0f82922feb", func := "trellis/trellislaw18.HnfMemory", spec := "hnfMemory", inPlace := ["math/bits.Add64", "math/bits.Sub64"], unfollowed := true, recurses := true, named := ["math/bits.divideError", "math/bits.overflowError"], apart := false, narrowed := true }
def HnfMemoryUptoSaid : Prop := hnfMemoryUptoRow.holds Tryz.pinned (OpenSpec.upto hnfMemorySpec)

end Rows
end Go.Proofs.YtknkkceioockjaaGreat
