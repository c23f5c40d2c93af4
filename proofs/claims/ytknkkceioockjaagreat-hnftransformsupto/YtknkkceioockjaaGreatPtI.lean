/- Part 9 of 9 of the proof that the law HnfTransforms returns true for every input of bulk at most 1048576 and leaves its arguments as they were: the law itself. -/
import Derived.Test.YtknkkceioockjaaGreatPtH
set_option linter.all false
namespace Go.Proofs.YtknkkceioockjaaGreat
open Go.ChangeShapes Go.WideShapes Go.ChangeAt Go.RowKit Go.Deep
namespace lawTr
theorem own : ownKnob Tryz.prog.godebug = none := by kernel_rfl
theorem lt_of {w : World} {ao : Option Addr} {xs : List Int} {B : Nat} (h : z0F w B ao xs) : ∀ x ∈ xs, x.natAbs < W ^ B := fun x hx => by
 obtain ⟨i, hi, rfl⟩ := List.getElem_of_mem hx;obtain ⟨b, o, _, _, hc⟩ := h (by omega);obtain ⟨q, _, _, hI⟩ := hc i hi;exact Nat.lt_of_lt_of_le (z1c _) (Nat.pow_le_pow_right (by decide) hI.z04)
set_option maxRecDepth 100000 in
theorem zbi {H : Type} {enc : TypeId × Value -> H} {w : World} {base : Nat} {sp : Nat -> Bool} {held : Bool} {r : Reach} {b0 : Nat} {m n : Int} {u : Value} {d : DataW H} {p : List MemPlace} (hv : Value.okWide Tryz.prog w r b0 24 (.agg #[.int .i64 m, .int .i64 n, u])) (h : DataW.Trod enc Tryz.prog w base sp held 24 (.agg #[.int .i64 m, .int .i64 n, u]) d p) :
 (-9223372036854775808 <= m /\ m <= 9223372036854775807) /\ (-9223372036854775808 <= n /\ n <= 9223372036854775807) := by
 obtain ⟨v0, v1, v2, y0, y1, y2, k, e, rfl, rfl, h0, h1, h2⟩ := Joins.open_agg3 Tryz.underlying24 (by kernel_rfl) (by kernel_rfl) hv h;obtain ⟨m', e0, -, q0⟩ := DataW.trod_int Tryz.underlying3 h0;obtain ⟨n', e1, -, q1⟩ := DataW.trod_int Tryz.underlying3 h1;simp at e0 e1 e;obtain ⟨rfl, rfl, rfl⟩ := e;injection e0 with _ e0
 injection e1 with _ e1
 subst e0 e1;simpa [Lit.wf, IntKind.min, IntKind.max, IntKind.signed, IntKind.bits] using And.intro q0 q1
set_option maxRecDepth 100000 in
theorem contract (H : Type) (enc : TypeId × Value -> H) (Wd : World) (base : Nat) (args : Array Value) (ds gs : List (DataW H)) (before : List MemPlace)
 (z0m : ∀ (j : Nat) t v, Tryz.f5.params[j]? = some t -> args[j]? = some v -> Value.okWide Tryz.prog Wd .any base t v)
 (hW : DataW.Whole enc Tryz.prog Tryz.f5.params.toList Rows.hnfTransformsSpec.vars false Wd args.toList ds gs before) (hk : Rows.uptoSmall H (ds ++ gs) = true) :
 Calls Tryz.prog 5 args Wd fun e W' => ∃ v, e = .returned v /\ Rows.hnfTransformsSpec.post enc Tryz.prog Tryz.f5 false true false false Wd args v W' := by
 have hW' := hW;obtain ⟨p, q, hA0, hV, rfl, hfz, hnd⟩ := hW;have hA : DataW.TrodAll enc Tryz.prog Wd 0 (fun _ => true) true Tryz.f5.params.toList args.toList ds p := hA0;rw [Tryz.params5] at hA z0m;obtain ⟨v0, vs0, d0, ds0, p0, q0, hargs, rfl, rfl, h0, r0⟩ := trodAll_cons hA;obtain ⟨rfl, rfl, rfl⟩ := trodAll_nil r0;obtain rfl : args = #[v0] := by cases args; simp_all
 obtain ⟨rfl, rfl⟩ := trodVars_none hV;have hbk := zat hk;simp only [List.append_nil, Rows.uptoBulkAll] at hbk;obtain ⟨m, n, ao, len, cap, xs, rfl, hlen, hcap, hL, hb⟩ := zbO (z0m 0 _ v0 rfl rfl) h0;obtain ⟨hrm, hrn⟩ := zbi (z0m 0 _ _ rfl rfl) h0;have walk : Calls Tryz.prog 5 #[.agg #[.int .i64 m, .int .i64 n, .slice ao len cap]] Wd fun e w' => e = .returned (.bool true) /\ Below Wd.heap.size Wd w' := by
  cases hs : z0v m n len with
  | false => exact zd7 m n ao len cap Wd hs hrm hrn
  | true =>
   obtain ⟨r, c, rfl, rfl, hr, hc, hrc⟩ := zaC hs;exact zdO r c (Rows.uptoBulk d0) ao len cap xs Wd hr hc hL (lt_of hL) (by omega) hlen (hlen.symm.trans hrc) (by omega)
 refine walk.mono fun e W' ⟨he, hg⟩ => ?_;subst he;exact ⟨_, rfl, law_post (by kernel_rfl) rfl (by kernel_rfl) hW' rfl rfl rfl hg⟩
set_option maxRecDepth 100000 in
theorem lifted (os : Os) (started : os.Started) (H : Type) (enc : TypeId × Value -> H) (F : Stop.Interp) :
 ReturnsInHanded {} Tryz.checked os 5 .any ((Rows.OpenSpec.upto Rows.hnfTransformsSpec).pre6 enc Tryz.prog Tryz.f5 Rows.hnfTransformsUptoRow.domain false) (((Rows.OpenSpec.upto Rows.hnfTransformsSpec).at F).post enc Tryz.prog Tryz.f5 false true false false) := by
 refine returnsInHanded_of_cond (C := Tryz.checked) (s := Rows.OpenSpec.upto Rows.hnfTransformsSpec) (k := Rows.uptoSmall) rfl own started (by kernel_rfl) Tryz.func5
  (OpenSpec.witness (enc := enc) (C := Tryz.checked) (s := Rows.OpenSpec.upto Rows.hnfTransformsSpec) (k := Rows.uptoSmall) rfl false ⟨#[], #[.agg #[.int .i64 0, .int .i64 0, .slice none 0 0]], []⟩ 8 (by kernel_rfl) (by kernel_rfl) (by kernel_rfl)
   (x := ([.agg [.lit (.int .i64 0), .lit (.int .i64 0), .nil]], [], [])) (by kernel_rfl) rfl (by kernel_rfl)) ?_
 intro W base args ds gs before z0m hW _ hk _;exact contract H enc W base args ds gs before z0m hW hk
theorem over : Rows.hnfTransformsUptoRow.holds Tryz.pinned (Rows.OpenSpec.upto Rows.hnfTransformsSpec) :=
 OpenClaim.holds_of_cond 5 Tryz.f5 rfl rfl rfl rfl rfl rfl rfl ⟨rfl, rfl, rfl, rfl, rfl⟩ rfl rfl rfl rfl rfl (by kernel_rfl) Tryz.func5 (by kernel_rfl)
  (of_decide_eq_true (by kernel_rfl)) (by unfold Func.isWrapper; first | (rw [if_pos (by decide +kernel)]; kernel_rfl) | (rw [if_neg (by decide +kernel)]; exact ⟨rfl, rfl⟩))
  (fun os started H enc _ F => lifted os started H enc F)
theorem proved : Rows.HnfTransformsUptoSaid := over
end lawTr
end Go.Proofs.YtknkkceioockjaaGreat
