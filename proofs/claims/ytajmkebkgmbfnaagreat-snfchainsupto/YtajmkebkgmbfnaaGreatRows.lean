/-
  No cell of these rows narrows 'for every input' (looked for: loops, veiled, ifaces, maps, wideKeys, modest, calm, conditions, laid).
  DERIVED. THE GIVEN ROWS OF THIS SEAT. 6 by the template 'for every input the law returns true; each argument reads behind the call as it read before'; 0 by the template 'total and deterministic' (their statements: YtajmkebkgmbfnaaGreatTotals.lean).
  GIVEN WITH THE SEED: the statements are not yours to turn. If you find one false, say at which input.
  Laid BY PROGRAM, IN A SANDBOX (cutbox-rows.mjs): the forced cells as the released guide's own fill.sh prints them over the translation 1b17ba9832d07c29… (all of the seat's roots in one cut). By AI agents, Wed Nov 11 2026. No macro, syntax, notation, axiom, sorry.
-/
import Derived.Test.YtajmkebkgmbfnaaGreatChecked
import GoSem.Claim
import GoSem.ClaimJoined
import GoSem.ClaimMapViews
import Derived.JoinedTies
import Derived.KernelRfl
namespace Go.Proofs.YtajmkebkgmbfnaaGreat
/- THE CELL 'sum', in the pinned program and in every row, IS THE sha256 OF THE DUMP (.gsa) THAT YtajmkebkgmbfnaaGreatProg.lean LOADS. Nothing in Lean hashes anything: it is a label: what it is worth is what the hold of that sum in a sandbox is worth. -/
noncomputable def Tryz.pinned : Pinned := { name := "ytajmkebkgmbfnaagreat", sum := "1b17ba9832d07c29e3324f0a0c08baa826af4de6025cf66456b27c1758adc781", checked := Tryz.checked }
namespace Rows
def none {H : Type} : Left H := { results := [], args := [] }

/-- 'trellislaw20.SnfChains': WHATEVER THE INPUT: true; the input reads as it did. -/
def snfChainsSpec : ChangeSpec := { name := "snfChains", fn := fun _ => fun
  | [d] => { results := [.lit (.bool true)], args := [d] }
  | _ => none }
def snfChainsRow : OpenClaim := { program := "ytajmkebkgmbfnaagreat", sum := "1b17ba9832d07c29e3324f0a0c08baa826af4de6025cf66456b27c1758adc781", func := "trellis/trellislaw20.SnfChains", spec := "snfChains", inPlace := ["math/bits.Add64", "math/bits.Sub64"], unfollowed := true, recurses := true, named := ["math/bits.divideError", "math/bits.overflowError"], apart := false }
def SnfChainsSaid : Prop := snfChainsRow.holds Tryz.pinned (OpenSpec.ofChange snfChainsSpec)

/-- ITS FALSE NEIGHBOUR: 'it returns false'. Refute it at one input. -/
def snfChainsWrong : ChangeSpec := { name := "snfChains", fn := fun _ => fun
  | [d] => { results := [.lit (.bool false)], args := [d] }
  | _ => none }
def SnfChainsWrongFalsely : Prop := snfChainsRow.holds Tryz.pinned (OpenSpec.ofChange snfChainsWrong)

/-- 'trellislaw20.SnfForms': WHATEVER THE INPUT: true; the input reads as it did. -/
def snfFormsSpec : ChangeSpec := { name := "snfForms", fn := fun _ => fun
  | [d] => { results := [.lit (.bool true)], args := [d] }
  | _ => none }
def snfFormsRow : OpenClaim := { program := "ytajmkebkgmbfnaagreat", sum := "1b17ba9832d07c29e3324f0a0c08baa826af4de6025cf66456b27c1758adc781", func := "trellis/trellislaw20.SnfForms", spec := "snfForms", inPlace := ["math/bits.Add64", "math/bits.Sub64"], unfollowed := true, recurses := true, named := ["math/bits.divideError", "math/bits.overflowError"], apart := false }
def SnfFormsSaid : Prop := snfFormsRow.holds Tryz.pinned (OpenSpec.ofChange snfFormsSpec)

/-- ITS FALSE NEIGHBOUR: 'it returns false'. Refute it at one input. -/
def snfFormsWrong : ChangeSpec := { name := "snfForms", fn := fun _ => fun
  | [d] => { results := [.lit (.bool false)], args := [d] }
  | _ => none }
def SnfFormsWrongFalsely : Prop := snfFormsRow.holds Tryz.pinned (OpenSpec.ofChange snfFormsWrong)

/-- 'trellislaw20.SnfLooks': WHATEVER THE INPUT: true; the input reads as it did. -/
def snfLooksSpec : ChangeSpec := { name := "snfLooks", fn := fun _ => fun
  | [d1, d2] => { results := [.lit (.bool true)], args := [d1, d2] }
  | _ => none }
def snfLooksRow : OpenClaim := { program := "ytajmkebkgmbfnaagreat", sum := "1b17ba9832d07c29e3324f0a0c08baa826af4de6025cf66456b27c1758adc781", func := "trellis/trellislaw20.SnfLooks", spec := "snfLooks", inPlace := ["math/bits.Add64", "math/bits.Sub64"], unfollowed := true, recurses := true, named := ["math/bits.divideError", "math/bits.overflowError"], apart := false }
def SnfLooksSaid : Prop := snfLooksRow.holds Tryz.pinned (OpenSpec.ofChange snfLooksSpec)

/-- ITS FALSE NEIGHBOUR: 'it returns false'. Refute it at one input. -/
def snfLooksWrong : ChangeSpec := { name := "snfLooks", fn := fun _ => fun
  | [d1, d2] => { results := [.lit (.bool false)], args := [d1, d2] }
  | _ => none }
def SnfLooksWrongFalsely : Prop := snfLooksRow.holds Tryz.pinned (OpenSpec.ofChange snfLooksWrong)

/-- 'trellislaw20.SnfDet': WHATEVER THE INPUT: true; the input reads as it did. -/
def snfDetSpec : ChangeSpec := { name := "snfDet", fn := fun _ => fun
  | [d] => { results := [.lit (.bool true)], args := [d] }
  | _ => none }
def snfDetRow : OpenClaim := { program := "ytajmkebkgmbfnaagreat", sum := "1b17ba9832d07c29e3324f0a0c08baa826af4de6025cf66456b27c1758adc781", func := "trellis/trellislaw20.SnfDet", spec := "snfDet", inPlace := ["math/bits.Add64", "math/bits.Sub64"], unfollowed := true, recurses := true, named := ["math/bits.divideError", "math/bits.overflowError"], apart := false }
def SnfDetSaid : Prop := snfDetRow.holds Tryz.pinned (OpenSpec.ofChange snfDetSpec)

/-- ITS FALSE NEIGHBOUR: 'it returns false'. Refute it at one input. -/
def snfDetWrong : ChangeSpec := { name := "snfDet", fn := fun _ => fun
  | [d] => { results := [.lit (.bool false)], args := [d] }
  | _ => none }
def SnfDetWrongFalsely : Prop := snfDetRow.holds Tryz.pinned (OpenSpec.ofChange snfDetWrong)

/-- 'trellislaw20.SnfFulls': WHATEVER THE INPUT: true; the input reads as it did. -/
def snfFullsSpec : ChangeSpec := { name := "snfFulls", fn := fun _ => fun
  | [d] => { results := [.lit (.bool true)], args := [d] }
  | _ => none }
def snfFullsRow : OpenClaim := { program := "ytajmkebkgmbfnaagreat", sum := "1b17ba9832d07c29e3324f0a0c08baa826af4de6025cf66456b27c1758adc781", func := "trellis/trellislaw20.SnfFulls", spec := "snfFulls", inPlace := ["math/bits.Add64", "math/bits.Sub64"], unfollowed := true, recurses := true, named := ["math/bits.divideError", "math/bits.overflowError"], apart := false }
def SnfFullsSaid : Prop := snfFullsRow.holds Tryz.pinned (OpenSpec.ofChange snfFullsSpec)

/-- ITS FALSE NEIGHBOUR: 'it returns false'. Refute it at one input. -/
def snfFullsWrong : ChangeSpec := { name := "snfFulls", fn := fun _ => fun
  | [d] => { results := [.lit (.bool false)], args := [d] }
  | _ => none }
def SnfFullsWrongFalsely : Prop := snfFullsRow.holds Tryz.pinned (OpenSpec.ofChange snfFullsWrong)

/-- 'trellislaw20.SnfKeeps': WHATEVER THE INPUT: true; the input reads as it did. -/
def snfKeepsSpec : ChangeSpec := { name := "snfKeeps", fn := fun _ => fun
  | [d] => { results := [.lit (.bool true)], args := [d] }
  | _ => none }
def snfKeepsRow : OpenClaim := { program := "ytajmkebkgmbfnaagreat", sum := "1b17ba9832d07c29e3324f0a0c08baa826af4de6025cf66456b27c1758adc781", func := "trellis/trellislaw20.SnfKeeps", spec := "snfKeeps", inPlace := ["math/bits.Add64", "math/bits.Sub64"], unfollowed := true, recurses := true, named := ["math/bits.divideError", "math/bits.overflowError"], apart := false }
def SnfKeepsSaid : Prop := snfKeepsRow.holds Tryz.pinned (OpenSpec.ofChange snfKeepsSpec)

/-- ITS FALSE NEIGHBOUR: 'it returns false'. Refute it at one input. -/
def snfKeepsWrong : ChangeSpec := { name := "snfKeeps", fn := fun _ => fun
  | [d] => { results := [.lit (.bool false)], args := [d] }
  | _ => none }
def SnfKeepsWrongFalsely : Prop := snfKeepsRow.holds Tryz.pinned (OpenSpec.ofChange snfKeepsWrong)

/- THE SECOND FORM. 'bulk': how many values and letters a reading holds, each counted each time it is reached (what is shared counts as often as it is met; a slice's spare places count too). A statement '..UptoSaid' is the law's where the arguments, and the package variables that the reading takes, are together of bulk at most 1048576: NARROWER than '..Said'. Prove '..Said' where nothing that the law and all that it calls make is longer than what came in: it says more and counts as full. Else prove '..UptoSaid'. A law counts once. -/
mutual
def uptoBulk {H : Type} : DataW H → Nat
  | .lit (.string bytes) => bytes.length + 1
  | .lit _ => 1
  | .nil => 1
  | .ptr d => uptoBulk d + 1
  | .slice elems spare => uptoBulkAll elems + uptoBulkAll spare + 1
  | .agg parts => uptoBulkAll parts + 1
  | .iface _ d => uptoBulk d + 1
  | .map entries => uptoBulkEntries entries + 1
  | .held _ => 1
def uptoBulkAll {H : Type} : List (DataW H) → Nat
  | [] => 0
  | d :: r => uptoBulk d + uptoBulkAll r
def uptoBulkEntries {H : Type} : List (Lit × DataW H) → Nat
  | [] => 0
  | x :: r => uptoBulkEntry x + uptoBulkEntries r
def uptoBulkEntry {H : Type} : Lit × DataW H → Nat
  | (.string bytes, d) => bytes.length + uptoBulk d + 1
  | (_, d) => uptoBulk d + 1
 end
def uptoSmall : (H : Type) → List (DataW H) → Bool := fun _ ds => decide (uptoBulkAll ds ≤ 1048576)
def OpenSpec.upto (s : _root_.Go.ChangeSpec) : _root_.Go.OpenSpec := { _root_.Go.OpenSpec.ofChange s with cond := some uptoSmall }

/-- 'trellislaw20.SnfChains', WHERE WHAT IT READS IS OF BULK AT MOST 1048576: true; the input reads as it did. -/
def snfChainsUptoRow : OpenClaim := { program := "ytajmkebkgmbfnaagreat", sum := "1b17ba9832d07c29e3324f0a0c08baa826af4de6025cf66456b27c1758adc781", func := "trellis/trellislaw20.SnfChains", spec := "snfChains", inPlace := ["math/bits.Add64", "math/bits.Sub64"], unfollowed := true, recurses := true, named := ["math/bits.divideError", "math/bits.overflowError"], apart := false, narrowed := true }
def SnfChainsUptoSaid : Prop := snfChainsUptoRow.holds Tryz.pinned (OpenSpec.upto snfChainsSpec)

/-- 'trellislaw20.SnfForms', WHERE WHAT IT READS IS OF BULK AT MOST 1048576: true; the input reads as it did. -/
def snfFormsUptoRow : OpenClaim := { program := "ytajmkebkgmbfnaagreat", sum := "1b17ba9832d07c29e3324f0a0c08baa826af4de6025cf66456b27c1758adc781", func := "trellis/trellislaw20.SnfForms", spec := "snfForms", inPlace := ["math/bits.Add64", "math/bits.Sub64"], unfollowed := true, recurses := true, named := ["math/bits.divideError", "math/bits.overflowError"], apart := false, narrowed := true }
def SnfFormsUptoSaid : Prop := snfFormsUptoRow.holds Tryz.pinned (OpenSpec.upto snfFormsSpec)

/-- 'trellislaw20.SnfLooks', WHERE WHAT IT READS IS OF BULK AT MOST 1048576: true; the input reads as it did. -/
def snfLooksUptoRow : OpenClaim := { program := "ytajmkebkgmbfnaagreat", sum := "1b17ba9832d07c29e3324f0a0c08baa826af4de6025cf66456b27c1758adc781", func := "trellis/trellislaw20.SnfLooks", spec := "snfLooks", inPlace := ["math/bits.Add64", "math/bits.Sub64"], unfollowed := true, recurses := true, named := ["math/bits.divideError", "math/bits.overflowError"], apart := false, narrowed := true }
def SnfLooksUptoSaid : Prop := snfLooksUptoRow.holds Tryz.pinned (OpenSpec.upto snfLooksSpec)

/-- 'trellislaw20.SnfDet', WHERE WHAT IT READS IS OF BULK AT MOST 1048576: true; the input reads as it did. -/
def snfDetUptoRow : OpenClaim := { program := "ytajmkebkgmbfnaagreat", sum := "1b17ba9832d07c29e3324f0a0c08baa826af4de6025cf66456b27c1758adc781", func := "trellis/trellislaw20.SnfDet", spec := "snfDet", inPlace := ["math/bits.Add64", "math/bits.Sub64"], unfollowed := true, recurses := true, named := ["math/bits.divideError", "math/bits.overflowError"], apart := false, narrowed := true }
def SnfDetUptoSaid : Prop := snfDetUptoRow.holds Tryz.pinned (OpenSpec.upto snfDetSpec)

/-- 'trellislaw20.SnfFulls', WHERE WHAT IT READS IS OF BULK AT MOST 1048576: true; the input reads as it did. -/
def snfFullsUptoRow : OpenClaim := { program := "ytajmkebkgmbfnaagreat", sum := "1b17ba9832d07c29e3324f0a0c08baa826af4de6025cf66456b27c1758adc781", func := "trellis/trellislaw20.SnfFulls", spec := "snfFulls", inPlace := ["math/bits.Add64", "math/bits.Sub64"], unfollowed := true, recurses := true, named := ["math/bits.divideError", "math/bits.overflowError"], apart := false, narrowed := true }
def SnfFullsUptoSaid : Prop := snfFullsUptoRow.holds Tryz.pinned (OpenSpec.upto snfFullsSpec)

/-- 'trellislaw20.SnfKeeps', WHERE WHAT IT READS IS OF BULK AT MOST 1048576: true; the input reads as it did. -/
def snfKeepsUptoRow : OpenClaim := { program := "ytajmkebkgmbfnaagreat", sum := "1b17ba9832d07c29e3324f0a0c08baa826af4de6025cf66456b27c1758adc781", func := "trellis/trellislaw20.SnfKeeps", spec := "snfKeeps", inPlace := ["math/bits.Add64", "math/bits.Sub64"], unfollowed := true, recurses := true, named := ["math/bits.divideError", "math/bits.overflowError"], apart := false, narrowed := true }
def SnfKeepsUptoSaid : Prop := snfKeepsUptoRow.holds Tryz.pinned (OpenSpec.upto snfKeepsSpec)

end Rows
end Go.Proofs.YtajmkebkgmbfnaaGreat
