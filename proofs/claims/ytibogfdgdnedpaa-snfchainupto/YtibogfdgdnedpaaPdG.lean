/- Part 7 of 7 of the proof that the law SnfChain returns true for every input of bulk at most 1048576 and leaves its arguments as they were: the law itself. -/
import Derived.Test.YtibogfdgdnedpaaPdF
set_option linter.all false
namespace Go.Proofs.Ytibogfdgdnedpaa
open Go.ChangeShapes Go.WideShapes Go.ChangeAt Go.RowKit Go.Deep
namespace lawC1
theorem own : ownKnob Try.prog.godebug = none := by kernel_rfl
set_option maxRecDepth 100000 in
theorem contract (H : Type) (enc : TypeId × Value -> H) (Wd : World) (base : Nat) (args : Array Value) (ds gs : List (DataW H)) (before : List MemPlace)
 (hval : ∀ (j : Nat) t v, Try.f3.params[j]? = some t -> args[j]? = some v -> Value.okWide Try.prog Wd .any base t v)
 (hW : DataW.Whole enc Try.prog Try.f3.params.toList Rows.snfChainSpec.vars false Wd args.toList ds gs before) (hk : Rows.uptoSmall H (ds ++ gs) = true) :
 Calls Try.prog 3 args Wd fun e W' => ∃ v, e = .returned v /\ Rows.snfChainSpec.post enc Try.prog Try.f3 false true false false Wd args v W' := by
 have hW' := hW;obtain ⟨p, q, hA0, hV, rfl, hfz, hnd⟩ := hW;have hA : DataW.TrodAll enc Try.prog Wd 0 (fun _ => true) true Try.f3.params.toList args.toList ds p := hA0;rw [Try.params3] at hA hval;obtain ⟨v1, vs1, d1, ds1, p1, q1, hargs, rfl, rfl, h1, r1⟩ := trodAll_cons hA;obtain ⟨rfl, rfl, rfl⟩ := trodAll_nil r1;obtain rfl : args = #[v1] := by cases args; simp_all
 obtain ⟨rfl, rfl⟩ := trodVars_none hV;have hbk := bulk_bound hk;simp only [List.append_nil, Rows.uptoBulkAll] at hbk;obtain ⟨a1, l1, k1, rfl⟩ := okWide_slice Try.underlying22 (hval 0 _ v1 rfl rfl);obtain ⟨f1, h1⟩ := h1;obtain ⟨b1, c1, e1, vs, hcs1, hl1, hc1, hL1, hn1, hs1⟩ := open_nums_s h1;simp [Value.cells] at hcs1;obtain ⟨rfl, rfl, rfl⟩ := hcs1;subst hl1;have hL1 : LsAt Wd (Rows.uptoBulk d1) a1 vs := hL1;have hn1 : vs.length + 1 <= Rows.uptoBulk d1 := hn1;have hs1 : (vs.map fun z => wlen z.natAbs).sum <= Rows.uptoBulk d1 := hs1;refine (LChain_c a1 k1 (Rows.uptoBulk d1) vs Wd hL1 (by omega) (by omega) (by omega)).mono fun e W' ⟨he, hg⟩ => ?_;subst he;exact ⟨_, rfl, law_post (by kernel_rfl) rfl (by kernel_rfl) hW' rfl rfl rfl hg⟩
set_option maxRecDepth 100000 in
theorem lifted (os : Os) (started : os.Started) (H : Type) (enc : TypeId × Value -> H) (F : Stop.Interp) :
 ReturnsInHanded {} Try.checked os 3 .any ((Rows.OpenSpec.upto Rows.snfChainSpec).pre6 enc Try.prog Try.f3 Rows.snfChainUptoRow.domain false) (((Rows.OpenSpec.upto Rows.snfChainSpec).at F).post enc Try.prog Try.f3 false true false false) := by
 refine returnsInHanded_of_cond (C := Try.checked) (s := Rows.OpenSpec.upto Rows.snfChainSpec) (k := Rows.uptoSmall) rfl own started (by kernel_rfl) Try.func3
  (OpenSpec.witness (enc := enc) (C := Try.checked) (s := Rows.OpenSpec.upto Rows.snfChainSpec) (k := Rows.uptoSmall) rfl false ⟨#[], #[.slice none 0 0], []⟩ 8 (by kernel_rfl) (by kernel_rfl) (by kernel_rfl)
   (x := ([.nil], [], [])) (by kernel_rfl) rfl (by kernel_rfl)) ?_
 intro W base args ds gs before hval hW _ hk _;exact contract H enc W base args ds gs before hval hW hk
theorem over : Rows.snfChainUptoRow.holds Try.pinned (Rows.OpenSpec.upto Rows.snfChainSpec) :=
 OpenClaim.holds_of_cond 3 Try.f3 rfl rfl rfl rfl rfl rfl rfl ⟨rfl, rfl, rfl, rfl, rfl⟩ rfl rfl rfl rfl rfl (by kernel_rfl) Try.func3 (by kernel_rfl)
  (of_decide_eq_true (by kernel_rfl)) (by unfold Func.isWrapper; first | (rw [if_pos (by decide +kernel)]; kernel_rfl) | (rw [if_neg (by decide +kernel)]; exact ⟨rfl, rfl⟩))
  (fun os started H enc _ F => lifted os started H enc F)
theorem proved : Rows.SnfChainUptoSaid := over
end lawC1
end Go.Proofs.Ytibogfdgdnedpaa
