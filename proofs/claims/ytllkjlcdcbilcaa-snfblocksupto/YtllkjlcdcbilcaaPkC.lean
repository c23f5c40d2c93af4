/- Part 3 of 6 of the proof that the law SnfBlocks returns true for every input of bulk at most 1048576 and leaves its arguments as they were: here the contracts of the functions that it calls, and plain lemmas. -/
import Derived.Test.YtllkjlcdcbilcaaRows
import Derived.WalkKit
import Derived.ProofKit
import Derived.OpenShut
import Derived.JoinedCond
import Derived.Carry
import Derived.Deep.Slices
import Derived.Lib.SmallJoins
import Derived.Deep.AppendSrc
import Derived.Deep.Upon
import Derived.Test.YtllkjlcdcbilcaaPkB
set_option linter.all false
namespace Go.Proofs.Ytllkjlcdcbilcaa
open Go.ChangeShapes Go.WideShapes Go.ChangeAt Go.RowKit Go.Deep
section
variable {H : Type} {enc : TypeId × Value -> H} {w : World} {base : Nat} {sp : Nat -> Bool} {held : Bool}
theorem bulk_one (d : DataW H) : 1 <= Rows.uptoBulk d := by
 cases d with
 | lit l => cases l <;> simp [Rows.uptoBulk]
 | nil => simp [Rows.uptoBulk]
 | ptr d => simp [Rows.uptoBulk]
 | slice elems spare => simp [Rows.uptoBulk]
 | agg parts => simp [Rows.uptoBulk]
 | iface t d => simp [Rows.uptoBulk]
 | map entries => simp [Rows.uptoBulk]
 | held h => simp [Rows.uptoBulk]
theorem bulk_append (l r : List (DataW H)) : Rows.uptoBulkAll (l ++ r) = Rows.uptoBulkAll l + Rows.uptoBulkAll r := by
 induction l with
 | nil => simp [Rows.uptoBulkAll]
 | cons x l ih => simp only [List.cons_append, Rows.uptoBulkAll, ih]; omega
theorem bulk_mem {d : DataW H} {l : List (DataW H)} (h : d ∈ l) : Rows.uptoBulk d <= Rows.uptoBulkAll l := by
 induction l with
 | nil => cases h
 | cons x r ih =>
  simp only [Rows.uptoBulkAll];rcases List.mem_cons.1 h with rfl | h
  · omega
  · have := ih h; omega
theorem bulk_length (l : List (DataW H)) : l.length <= Rows.uptoBulkAll l := by
 induction l with
 | nil => simp [Rows.uptoBulkAll]
 | cons x r ih => have := bulk_one x; simp only [Rows.uptoBulkAll, List.length_cons]; omega
theorem bulk_slice (l r : List (DataW H)) : Rows.uptoBulk (.slice l r) = Rows.uptoBulkAll l + Rows.uptoBulkAll r + 1 := by simp [Rows.uptoBulk]
theorem bulk_agg (l : List (DataW H)) : Rows.uptoBulk (.agg l) = Rows.uptoBulkAll l + 1 := by simp [Rows.uptoBulk]
theorem list_of {α : Type} {n : Nat} {p : Nat -> α -> Prop} (h : ∀ i, i < n -> ∃ x, p i x) : ∃ l : List α, l.length = n /\ ∀ i (hi : i < l.length), p i l[i] := by
 induction n with
 | zero => exact ⟨[], rfl, fun i hi => by simp at hi⟩
 | succ n ih =>
  obtain ⟨l, hl, hp⟩ := ih (fun i hi => h i (by omega));obtain ⟨x, hx⟩ := h n (by omega);refine ⟨l ++ [x], by simp [hl], fun i hi => ?_⟩;by_cases hin : i < l.length
  · rw [List.getElem_append_left hin]; exact hp i hin
  · have : i = n := by simp at hi; omega
    subst this;rw [List.getElem_append_right (by omega)];simp [hl]; exact hx
theorem addr_none {w : World} {a : Addr} {v : Value} (h : w.cell? a = some v) : ∃ b o, a = ⟨b, o, none⟩ /\ b < w.heap.size := by
 have h1 := World.cell?_spot h;obtain ⟨b, o, s⟩ := a;exact ⟨b, o, by simpa using h1, cell_lt h⟩
set_option maxRecDepth 100000 in
theorem open_words {fuel : Nat} {cs : List Value} {x : DataW H × List MemPlace} (h : DataW.trod enc Try.prog w base sp held fuel 37 cs = some x) :
 ∃ ao len cap ws, cs = [.slice ao len cap] /\ len = ws.length /\ len <= cap /\ WAt w ao ws /\ ws.length + 1 <= Rows.uptoBulk x.1 := by
 rcases open_ints Try.underlying37 Try.underlying51 (by kernel_rfl) h with ⟨rfl, rfl⟩ | ⟨a, len, cap, zs, rfl, hb, hl, hm, hz, rfl, hcell, hwf⟩
 · exact ⟨none, 0, 0, [], rfl, rfl, Nat.le_refl _, ⟨fun x h => (by cases h), fun h => absurd h (by simp)⟩, by simp [Rows.uptoBulk]⟩
 · have hlz : len <= zs.length := by rw [hz]; split <;> omega
   have hrng : ∀ z ∈ zs, 0 <= z /\ z < 18446744073709551616 := fun z hzm => by
    have h1 : 0 <= z /\ z <= 18446744073709551615 := by simpa [Lit.wf, IntKind.min, IntKind.max, IntKind.signed, IntKind.bits] using hwf z hzm
    omega
   have hll : ((zs.take len).map Int.toNat).length = len := by simp; omega
   refine ⟨some a, len, cap, (zs.take len).map Int.toNat, rfl, hll.symm, hl, ⟨fun x hx => ?_, fun hp => ?_⟩, ?_⟩
   · obtain ⟨z, hz1, rfl⟩ := List.mem_map.1 hx;have := hrng z (List.mem_of_mem_take hz1);unfold W; omega
   · rw [hll] at hp;have h0 := hcell 0 (by omega);obtain ⟨b, o, rfl, hblt⟩ := addr_none (a := a) (w := w) (by simpa [Addr.add] using h0);refine ⟨b, o, rfl, hblt, fun i hi => ?_⟩;rw [hll] at hi;have h1 := hcell i (by omega);rw [add_plain] at h1;rw [h1];have h2 := hrng (zs[i]'(by omega)) (List.getElem_mem (by omega));have e1 : zs.getD i 0 = zs[i]'(by omega) := by rw [List.getD_eq_getElem?_getD, List.getElem?_eq_getElem (by omega)]; rfl
     have e2 : gw ((zs.take len).map Int.toNat) i = (zs[i]'(by omega)).toNat := by
      unfold gw;rw [List.getD_eq_getElem?_getD, List.getElem?_eq_getElem (by rw [hll]; exact hi)];simp
     rw [e1, e2];congr 2;omega
   · rw [bulk_slice, hll];have := bulk_length (lits (H := H) .u64 (zs.take len));have e : (lits (H := H) .u64 (zs.take len)).length = len := by simp [lits]; omega
     omega
set_option maxRecDepth 100000 in
theorem open_num {fuel : Nat} {cs : List Value} {x : DataW H × List MemPlace} (h : DataW.trod enc Try.prog w base sp held fuel 39 cs = some x) :
 ∃ (p : P4) (L : Nat) (z : Int), cs = [.bool p.1, .slice p.2.1 p.2.2.1 p.2.2.2] /\ IntAt w L (av p) z /\ L + 3 <= Rows.uptoBulk x.1 := by
 obtain ⟨y0, y1, n, rfl, hl, h0, h1⟩ := trod_struct2 Try.underlying39 h;obtain ⟨c0, c1, rfl⟩ : ∃ c0 c1, cs = [c0, c1] := by
  have e : cs.length = 2 := hl.trans (by kernel_rfl);match cs, e with
  | [a, b], _ => exact ⟨a, b, rfl⟩
 rw [show Try.prog.cellsOf 4 = 1 by kernel_rfl] at h0;rw [show Try.prog.cellsOf 37 = 1 by kernel_rfl] at h1;obtain ⟨b, hb, hy0⟩ := DataW.trod_bool Try.underlying4 h0;obtain ⟨ao, len, cap, ws, hc, hlen, hcap, hW, hbk⟩ := open_words h1;simp at hb hc;subst hb hc;refine ⟨(b, ao, len, cap), len, zi b (nval ws), rfl, ⟨b, ao, len, cap, ws, rfl, hW, hlen, Nat.le_refl _, hcap, rfl⟩, ?_⟩;rw [bulk_agg];simp only [Rows.uptoBulkAll];have := bulk_one y0.1;omega
theorem bulk_sum (D : Nat -> DataW H) (f : Nat -> Nat) : ∀ n, (∀ i, i < n -> f i <= Rows.uptoBulk (D i)) -> ((List.range n).map f).sum <= Rows.uptoBulkAll ((List.range n).map D)
 | 0, _ => by simp
 | n + 1, h => by
  have h1 := bulk_sum D f n fun i hi => h i (by omega);have h2 := h n (by omega);rw [List.range_succ, List.map_append, List.map_append, List.sum_append, bulk_append];simp only [List.map_cons, List.map_nil, List.sum_cons, List.sum_nil, Rows.uptoBulkAll];omega
set_option maxRecDepth 100000 in
theorem open_nums_s {fuel : Nat} {cs : List Value} {x : DataW H × List MemPlace} (h : DataW.trod enc Try.prog w base sp held fuel 22 cs = some x) :
 ∃ ao len cap xs, cs = [.slice ao len cap] /\ len = xs.length /\ len <= cap /\ LsAt w (Rows.uptoBulk x.1) ao xs /\ xs.length + 1 <= Rows.uptoBulk x.1 /\ (xs.map fun z => wlen z.natAbs).sum <= Rows.uptoBulk x.1 := by
 rcases open_slice Try.underlying22 h with ⟨rfl, rfl⟩ | ⟨a, len, cap, m, n, D, Pl, rfl, hb, hl, hm, hmm, rfl, hi⟩
 · exact ⟨none, 0, 0, [], rfl, rfl, Nat.le_refl _, fun h => absurd h (by simp), by simp [Rows.uptoBulk], by simp⟩
 · have hlm : len <= m := by rw [hmm]; split <;> omega
   have hD : ∀ i, i < len -> Rows.uptoBulk (D i) <= Rows.uptoBulkAll ((List.range len).map D) := fun i hi => bulk_mem (List.mem_map.2 ⟨i, List.mem_range.2 hi, rfl⟩);obtain ⟨l, hll, hp⟩ := list_of (n := len) (p := fun i (q : P4 × Int) => (w.cell? (a.add (i * 2)) = some (.bool q.1.1) /\ w.cell? (a.add (i * 2 + 1)) = some (.slice q.1.2.1 q.1.2.2.1 q.1.2.2.2)) /\ IntAt w (Rows.uptoBulkAll ((List.range len).map D)) (av q.1) q.2 /\ wlen q.2.natAbs <= Rows.uptoBulk (D i)) (fun i hil => by
    obtain ⟨cs', hc, ht⟩ := hi i (by omega);rw [show Try.prog.cellsOf 39 = 2 by kernel_rfl] at hc;obtain ⟨p, L, z, rfl, hI, hbk⟩ := open_num ht;obtain ⟨_, _, hcell⟩ := World.cells?_some hc;have c0 := hcell 0 (by omega);have c1 := hcell 1 (by omega);rw [add_add] at c0 c1;exact ⟨(p, z), ⟨by simpa using c0, by simpa using c1⟩, hI.mono (by have := hD i hil; have : Rows.uptoBulk (D i, Pl i).1 = Rows.uptoBulk (D i) := rfl; omega), by show wlen z.natAbs <= _; have h8 := hI.wlen; have h9 : Rows.uptoBulk (D i, Pl i).1 = Rows.uptoBulk (D i) := rfl; omega⟩)
   have hbl : len <= Rows.uptoBulkAll ((List.range len).map D) := by have := bulk_length ((List.range len).map D); simpa using this
   refine ⟨some a, len, cap, l.map Prod.snd, rfl, by simp [hll], hl, fun hpos => ?_, ?_, ?_⟩
   · have hpos' : 0 < len := by simpa [hll] using hpos
     have h0 := (hp 0 (by omega)).1.1;obtain ⟨b, o, rfl, hblt⟩ := addr_none (a := a) (w := w) (by simpa [Addr.add] using h0);refine ⟨b, o, rfl, hblt, fun i hi' => ?_⟩;have hil : i < l.length := by simpa using hi'
     obtain ⟨⟨c0, c1⟩, hI, _⟩ := hp i hil;rw [add_plain] at c0 c1;refine ⟨l[i].1, c0, by rw [<- Nat.add_assoc] at c1; exact c1, ?_⟩;have e : (l.map Prod.snd)[i]'hi' = l[i].2 := by simp
     rw [e, bulk_slice];exact hI.mono (by omega)
   · rw [bulk_slice]; simp [hll]; omega
   · have h1 := bulk_sum D (fun i => wlen ((l.map Prod.snd).getD i 0).natAbs) len (fun i hi => by
      have h2 := (hp i (by omega)).2.2;have e : (l.map Prod.snd).getD i 0 = (l[i]'(by omega)).2 := by
       rw [List.getD_eq_getElem?_getD, List.getElem?_map, List.getElem?_eq_getElem (by omega)]; rfl
      rw [e]; exact h2)
     have e : (List.range len).map (fun i => wlen ((l.map Prod.snd).getD i 0).natAbs) = (l.map Prod.snd).map fun z => wlen z.natAbs := by
      refine List.ext_getElem (by simp [hll]) fun i h1 h2 => ?_;have hi : i < l.length := by simpa using h2
      simp [hi]
     rw [e] at h1;rw [bulk_slice]; omega
theorem open_nums {fuel : Nat} {cs : List Value} {x : DataW H × List MemPlace} (h : DataW.trod enc Try.prog w base sp held fuel 22 cs = some x) :
 ∃ ao len cap xs, cs = [.slice ao len cap] /\ len = xs.length /\ len <= cap /\ LsAt w (Rows.uptoBulk x.1) ao xs /\ xs.length + 1 <= Rows.uptoBulk x.1 := by
 obtain ⟨ao, len, cap, xs, h1, h2, h3, h4, h5, _⟩ := open_nums_s h;exact ⟨ao, len, cap, xs, h1, h2, h3, h4, h5⟩
set_option maxRecDepth 100000 in
theorem open_mat {r : Reach} {b0 : Nat} {v : Value} {d : DataW H} {p : List MemPlace} (hv : Value.okWide Try.prog w r b0 24 v) (h : DataW.Trod enc Try.prog w base sp held 24 v d p) :
 ∃ (m n : Int) (ao : Option Addr) (len cap : Nat) (xs : List Int), v = .agg #[.int .i64 m, .int .i64 n, .slice ao len cap] /\ len = xs.length /\ len <= cap /\ LsAt w (Rows.uptoBulk d) ao xs /\ xs.length + 1 <= Rows.uptoBulk d := by
 obtain ⟨v0, v1, v2, y0, y1, y2, n, rfl, rfl, rfl, h0, h1, h2⟩ := Joins.open_agg3 Try.underlying24 (by kernel_rfl) (by kernel_rfl) hv h;obtain ⟨m, e0, -, -⟩ := DataW.trod_int Try.underlying3 h0;obtain ⟨k, e1, -, -⟩ := DataW.trod_int Try.underlying3 h1;obtain ⟨ao, len, cap, xs, e2, hlen, hcap, hL, hbk⟩ := open_nums h2;simp at e0 e1 e2;subst e0 e1 e2;have hle : Rows.uptoBulk y2.1 <= Rows.uptoBulk (.agg [y0.1, y1.1, y2.1]) := by rw [bulk_agg]; simp only [Rows.uptoBulkAll]; omega
 refine ⟨m, k, ao, len, cap, xs, rfl, hlen, hcap, fun hp => ?_, by omega⟩;obtain ⟨b, o, e, hlt, hc⟩ := hL hp;exact ⟨b, o, e, hlt, fun i hi => by obtain ⟨q, q0, q1, hq⟩ := hc i hi; exact ⟨q, q0, q1, hq.mono hle⟩⟩
theorem soundM_nat {r c : Int} {len : Nat} (h : soundM r c len = true) : ∃ m n : Nat, r = (m : Int) /\ c = (n : Int) /\ m <= 64 /\ n <= 64 /\ len = m * n := by
 unfold soundM sideOk at h;simp only [Bool.and_eq_true, decide_eq_true_eq, beq_iff_eq] at h;obtain ⟨⟨⟨h1, h2⟩, h3, h4⟩, h5⟩ := h;obtain ⟨m, rfl⟩ := Int.eq_ofNat_of_zero_le h1;obtain ⟨n, rfl⟩ := Int.eq_ofNat_of_zero_le h3;refine ⟨m, n, rfl, rfl, by omega, by omega, ?_⟩;rw [<- Int.natCast_mul] at h5;exact Int.ofNat.inj h5
set_option maxRecDepth 100000 in
theorem trodAll_stays {P : Program} (hl : laidOutB P = true) {W W' : World} {spf : Nat -> Bool} : ∀ {ts : List TypeId} {vs : List Value} {ds : List (DataW H)} {ps : List MemPlace}, (ts.all fun t => P.readableRec t && decide (t < P.types.size)) = true ->
 DataW.TrodAll enc P W 0 (fun _ => true) true ts vs ds ps -> (∀ x ∈ ps, W.sameAt W' x) -> (∀ x ∈ ps, spf x.block = true) -> DataW.TrodAll enc P W' 0 spf true ts vs ds ps := by
 intro ts;induction ts with
 | nil =>
  intro vs ds ps _ h _ _;cases vs <;> cases ds <;> exact h
 | cons t ts ih =>
  intro vs ds ps ha h hs hp;cases vs with
  | nil => exact h.elim
  | cons v vs =>
   cases ds with
   | nil => exact h.elim
   | cons d ds =>
    obtain ⟨p, q, h1, h2, rfl⟩ := h;simp only [List.all_cons, Bool.and_eq_true, decide_eq_true_eq] at ha;exact ⟨p, q, WideElems.Trod_stays hl ha.1.1 ha.1.2 h1 (fun x hx => hs x (List.mem_append_left _ hx)) (fun x hx => hp x (List.mem_append_left _ hx)),
     ih ha.2 h2 (fun x hx => hs x (List.mem_append_right _ hx)) (fun x hx => hp x (List.mem_append_right _ hx)), rfl⟩
theorem laid_out : laidOutB Try.prog = true := by kernel_rfl
set_option maxRecDepth 100000 in
theorem law_post {f : Func} {s : ChangeSpec} {W W' : World} {args : Array Value} {ds gs : List (DataW H)} {before : List MemPlace} (ha : (f.params.toList.all fun t => Try.prog.readableRec t && decide (t < Try.prog.types.size)) = true) (hv : s.vars = []) (hr : f.resultTypes = #[4])
 (hW : DataW.Whole enc Try.prog f.params.toList s.vars false W args.toList ds gs before) (h1 : (s.fn H (ds ++ gs)).results = [.lit (.bool true)]) (h2 : (s.fn H (ds ++ gs)).args = ds) (h3 : (s.fn H (ds ++ gs)).vars = []) (hb : Below W.heap.size W W') :
 s.post enc Try.prog f false true false false W args (.bool true) W' := by
 have hlt : ∀ p ∈ before, p.block < W.heap.size := fun p hp => hW.lt p hp;have hold : ∀ p ∈ before, (fun b => decide (b < W.heap.size)) p.block = true := fun p hp => by simpa using hlt p hp
 have hW' := hW;obtain ⟨p, q, hA, hV, rfl, hz, hn⟩ := hW;rw [hv] at hV;obtain ⟨rfl, rfl⟩ := trodVars_none hV;have hsame : ∀ x ∈ p, W.sameAt W' x := fun x hx => hb.same (hlt x (List.mem_append_left _ hx));have hargs : ∀ spf : Nat -> Bool, (∀ x ∈ p ++ [], spf x.block = true) -> DataW.TrodAll enc Try.prog W' 0 spf true f.params.toList args.toList (s.fn H (ds ++ [])).args p := fun spf hs => by
  rw [h2]; exact trodAll_stays laid_out ha hA hsame (fun x hx => hs x (List.mem_append_left _ hx))
 have hres : ∀ (b : Nat) (spf : Nat -> Bool) (hd : Bool), DataW.TrodAll enc Try.prog W' b spf hd f.resultTypes.toList ((Value.bool true).resultList f.resultTypes.size) (s.fn H (ds ++ [])).results [] := fun b spf hd => by
  rw [hr, h1]; exact trodAll_cons_mk (shut_bool Try.underlying4 _) trodAll_mk0
 have hvars : ∀ spf : Nat -> Bool, DataW.TrodVars enc Try.prog W' spf s.vars (s.fn H (ds ++ [])).vars [] := fun spf => by rw [hv, h3]; rfl
 refine ⟨ds, [], p ++ [], [], p, [], hW', hres _ _ _, hargs _ hold, hvars _, World.keptBut_mono (fun x hx => ⟨hx, Or.inr (by simpa using hx)⟩) (hb.frame (· ∈ p ++ [])), fun _ => ?_⟩;have hb1 : Value.okWide Try.prog W' .any 0 4 (.bool true) := okWide_bool_mk Try.underlying4 true;refine ⟨ok_one hr rfl hb1, _, _, ([] ++ p) ++ [], ⟨[] ++ p, [], trodAll_append (hargs _ (fun _ _ => rfl)) (hres _ _ _), hvars _, rfl, ?_, ?_⟩, ?_⟩
 · intro b off hp;have hin : MemPlace.cell b off ∈ p ++ [] := by simpa using hp
   rw [hb.frozen (hlt _ hin)];exact hz b off hin
 · intro h; cases h
 · intro x hx _;simpa using hx
end
set_option maxRecDepth 100000 in
theorem bulk_bound {H : Type} {l : List (DataW H)} (hk : Rows.uptoSmall H l = true) : Rows.uptoBulkAll l <= 1048576 := of_decide_eq_true hk
set_option maxRecDepth 100000 in
theorem mat_range {H : Type} {enc : TypeId × Value -> H} {w : World} {base : Nat} {sp : Nat -> Bool} {held : Bool} {r : Reach} {b0 : Nat} {m n : Int} {u : Value} {d : DataW H} {p : List MemPlace} (hv : Value.okWide Try.prog w r b0 24 (.agg #[.int .i64 m, .int .i64 n, u])) (h : DataW.Trod enc Try.prog w base sp held 24 (.agg #[.int .i64 m, .int .i64 n, u]) d p) :
 (-9223372036854775808 <= m /\ m <= 9223372036854775807) /\ (-9223372036854775808 <= n /\ n <= 9223372036854775807) := by
 obtain ⟨v0, v1, v2, y0, y1, y2, k, e, rfl, rfl, h0, h1, h2⟩ := Joins.open_agg3 Try.underlying24 (by kernel_rfl) (by kernel_rfl) hv h;obtain ⟨m', e0, -, q0⟩ := DataW.trod_int Try.underlying3 h0;obtain ⟨n', e1, -, q1⟩ := DataW.trod_int Try.underlying3 h1;simp at e0 e1 e;obtain ⟨rfl, rfl, rfl⟩ := e;injection e0 with _ e0
 injection e1 with _ e1
 subst e0 e1;simpa [Lit.wf, IntKind.min, IntKind.max, IntKind.signed, IntKind.bits] using And.intro q0 q1
end Go.Proofs.Ytllkjlcdcbilcaa
namespace Go.Proofs.Ytllkjlcdcbilcaa
def sm : Nat -> (Nat -> Int) -> Int
 | 0, _ => 0
 | n + 1, f => sm n f + f n
theorem sm_congr {n : Nat} {f g : Nat -> Int} (h : ∀ k, k < n -> f k = g k) : sm n f = sm n g := by
 induction n with
 | zero => rfl
 | succ n ih => unfold sm; rw [ih (fun k hk => h k (by omega)), h n (by omega)]
theorem sm_zero {n : Nat} {f : Nat -> Int} (h : ∀ k, k < n -> f k = 0) : sm n f = 0 := by
 induction n with
 | zero => rfl
 | succ n ih => unfold sm; rw [ih (fun k hk => h k (by omega)), h n (by omega)]; rfl
theorem sm_add (n : Nat) (f g : Nat -> Int) : sm n (fun k => f k + g k) = sm n f + sm n g := by
 induction n with
 | zero => rfl
 | succ n ih => simp only [sm, ih]; omega
theorem sm_sub (n : Nat) (f g : Nat -> Int) : sm n (fun k => f k - g k) = sm n f - sm n g := by
 induction n with
 | zero => rfl
 | succ n ih => simp only [sm, ih]; omega
theorem sm_mul (n : Nat) (c : Int) (f : Nat -> Int) : sm n (fun k => c * f k) = c * sm n f := by
 induction n with
 | zero => simp [sm]
 | succ n ih => simp only [sm, ih, Int.mul_add]
theorem sm_mul_right (n : Nat) (c : Int) (f : Nat -> Int) : sm n (fun k => f k * c) = sm n f * c := by
 induction n with
 | zero => simp [sm]
 | succ n ih => simp only [sm, ih, Int.add_mul]
theorem sm_comm (n m : Nat) (f : Nat -> Nat -> Int) : sm n (fun i => sm m (fun j => f i j)) = sm m (fun j => sm n (fun i => f i j)) := by
 induction n with
 | zero => exact (sm_zero (fun _ _ => rfl)).symm
 | succ n ih => simp only [sm, ih, sm_add]
theorem sm_one {n : Nat} {f : Nat -> Int} (i : Nat) (hi : i < n) (h : ∀ k, k < n -> k ≠ i -> f k = 0) : sm n f = f i := by
 induction n with
 | zero => omega
 | succ n ih =>
  unfold sm;by_cases e : i = n
  · subst e; rw [sm_zero (fun k hk => h k (by omega) (by omega))]; omega
  · rw [ih (by omega) (fun k hk hne => h k (by omega) hne), h n (by omega) (fun e' => e e'.symm)]; omega
theorem sm_abs {n : Nat} {f : Nat -> Int} {B : Nat} (h : ∀ k, k < n -> (f k).natAbs <= B) : (sm n f).natAbs <= n * B := by
 induction n with
 | zero => simp [sm]
 | succ n ih =>
  unfold sm;have h1 := ih (fun k hk => h k (by omega));have h2 := h n (by omega);have h3 := Int.natAbs_add_le (sm n f) (f n);rw [Nat.succ_mul]; omega
theorem sm_split (n m : Nat) (f : Nat -> Int) : sm (n + m) f = sm n f + sm m (fun k => f (n + k)) := by
 induction m with
 | zero => simp [sm]
 | succ m ih => rw [<- Nat.add_assoc]; simp only [sm, ih]; omega
theorem pigeon : ∀ (n : Nat) (f : Nat -> Nat), (∀ i, i <= n -> f i < n) -> ∃ i j, i < j /\ j <= n /\ f i = f j
 | 0, f, h => by have := h 0 (Nat.le_refl _); omega
 | n + 1, f, h => by
  by_cases hc : ∃ i, i <= n /\ f i = f (n + 1)
  · obtain ⟨i, hi, he⟩ := hc;exact ⟨i, n + 1, by omega, Nat.le_refl _, he⟩
  · have hn : ∀ i, i <= n -> f i ≠ f (n + 1) := fun i hi he => hc ⟨i, hi, he⟩;obtain ⟨i, j, hij, hj, he⟩ := pigeon n (fun i => if f i = n then f (n + 1) else f i) (fun i hi => by
     have h1 := h i (by omega);have h2 := h (n + 1) (Nat.le_refl _);have h3 := hn i hi;split <;> omega)
    refine ⟨i, j, hij, by omega, ?_⟩;have h1 := hn i (by omega);have h2 := hn j hj;split at he <;> split at he <;> omega
def encQ (Q : Nat) (v : Nat -> Nat) : Nat -> Nat
 | 0 => 0
 | s + 1 => encQ Q v s + v s * Q ^ s
theorem encQ_lt {Q : Nat} {v : Nat -> Nat} : ∀ {s : Nat}, (∀ j, j < s -> v j < Q) -> encQ Q v s < Q ^ s
 | 0, _ => by simp [encQ]
 | s + 1, h => by
  have h1 := encQ_lt (s := s) (fun j hj => h j (by omega));have h2 := h s (by omega);have h3 : (v s + 1) * Q ^ s <= Q * Q ^ s := Nat.mul_le_mul_right _ h2;rw [Nat.succ_mul] at h3;rw [Nat.pow_succ, Nat.mul_comm];unfold encQ; omega
theorem encQ_inj {Q : Nat} {u v : Nat -> Nat} : ∀ {s : Nat}, (∀ j, j < s -> u j < Q) -> (∀ j, j < s -> v j < Q) -> encQ Q u s = encQ Q v s -> ∀ j, j < s -> u j = v j
 | 0, _, _, _, j, hj => by omega
 | s + 1, hu, hv, he, j, hj => by
  have h1 := encQ_lt (s := s) (fun j hj => hu j (by omega));have h2 := encQ_lt (s := s) (fun j hj => hv j (by omega));have hp : 0 < Q ^ s := by omega
  unfold encQ at he;have d1 : (encQ Q u s + u s * Q ^ s) / Q ^ s = u s := by rw [Nat.add_mul_div_right _ _ hp, Nat.div_eq_of_lt h1, Nat.zero_add]
  have d2 : (encQ Q v s + v s * Q ^ s) / Q ^ s = v s := by rw [Nat.add_mul_div_right _ _ hp, Nat.div_eq_of_lt h2, Nat.zero_add]
  have hs : u s = v s := by rw [<- d1, <- d2, he]
  by_cases e : j = s
  · subst e; exact hs
  · rw [hs] at he;exact encQ_inj (s := s) (fun j hj => hu j (by omega)) (fun j hj => hv j (by omega)) (by omega) j (by omega)
theorem encQ_digits (Q n : Nat) : ∀ s, encQ Q (fun k => n / Q ^ k % Q) s = n % Q ^ s
 | 0 => by simp [encQ, Nat.mod_one]
 | s + 1 => by
  unfold encQ;rw [encQ_digits Q n s, Nat.mod_pow_succ, Nat.mul_comm]
theorem siegel (r s M : Nat) (A : Nat -> Nat -> Int) (hs : s < r) (hA : ∀ k j, k < r -> j < s -> (A k j).natAbs <= M) :
 ∃ x : Nat -> Int, (∃ k, k < r /\ x k ≠ 0) /\ (∀ k, k < r -> (x k).natAbs <= (2 * r * M + 1) ^ s) /\ ∀ j, j < s -> sm r (fun k => x k * A k j) = 0 := by
 obtain ⟨T, hT⟩ : ∃ T, (2 * r * M + 1) ^ s = T := ⟨_, rfl⟩;obtain ⟨V, hV⟩ : ∃ V, r * (T * M) = V := ⟨_, rfl⟩;have hTp : 0 < T := by rw [<- hT]; exact Nat.pow_pos (by omega)
 have hy : ∀ n j, j < s -> (sm r (fun k => ((n / (T + 1) ^ k % (T + 1) : Nat) : Int) * A k j)).natAbs <= V := by
  intro n j hj;rw [<- hV];refine sm_abs (fun k hk => ?_);rw [Int.natAbs_mul, Int.natAbs_natCast];have h1 : n / (T + 1) ^ k % (T + 1) < T + 1 := Nat.mod_lt _ (by omega);exact Nat.mul_le_mul (by omega) (hA k j hk hj)
 have hQ : (2 * V + 1) ^ s < (T + 1) ^ r := by
  have h1 : 2 * V + 1 <= (2 * r * M + 1) * (T + 1) := by
   have e1 : (2 * r * M + 1) * (T + 1) = 2 * r * M * T + 2 * r * M + T + 1 := by
    rw [Nat.mul_add, Nat.add_mul]; omega
   have e2 : 2 * r * M * T = 2 * V := by
    rw [<- hV]; simp only [Nat.mul_assoc, Nat.mul_comm, Nat.mul_left_comm]
   omega
  have h2 : (2 * V + 1) ^ s <= T * (T + 1) ^ s := by
   rw [<- hT, <- Nat.mul_pow, hT]; exact Nat.pow_le_pow_left h1 s
  have h3 : T * (T + 1) ^ s < (T + 1) ^ (s + 1) := by
   rw [Nat.pow_succ, Nat.mul_comm];exact Nat.mul_lt_mul_of_pos_left (by omega) (Nat.pow_pos (by omega))
  have h4 : (T + 1) ^ (s + 1) <= (T + 1) ^ r := Nat.pow_le_pow_right (by omega) hs;omega
 obtain ⟨i, j, hij, hj, he⟩ := pigeon ((2 * V + 1) ^ s) (fun n => encQ (2 * V + 1) (fun q => (sm r (fun k => ((n / (T + 1) ^ k % (T + 1) : Nat) : Int) * A k q) + V).toNat % (2 * V + 1)) s) (fun i _ => encQ_lt (fun q _ => Nat.mod_lt _ (by omega)));have hq := encQ_inj (fun q _ => Nat.mod_lt _ (by omega)) (fun q _ => Nat.mod_lt _ (by omega)) he;refine ⟨fun k => ((j / (T + 1) ^ k % (T + 1) : Nat) : Int) - ((i / (T + 1) ^ k % (T + 1) : Nat) : Int), ?_, ?_, ?_⟩
 · by_cases hc : ∃ k, k < r /\ j / (T + 1) ^ k % (T + 1) ≠ i / (T + 1) ^ k % (T + 1)
   · obtain ⟨k, hk, hne⟩ := hc;refine ⟨k, hk, ?_⟩
     revert hne
     dsimp only;generalize j / (T + 1) ^ k % (T + 1) = a;generalize i / (T + 1) ^ k % (T + 1) = b;omega
   · exfalso;have hall : ∀ k, k < r -> j / (T + 1) ^ k % (T + 1) = i / (T + 1) ^ k % (T + 1) := fun k hk => Classical.byContradiction fun h => hc ⟨k, hk, h⟩;have e1 := encQ_digits (T + 1) i r;have e2 := encQ_digits (T + 1) j r;have e3 : ∀ s', s' <= r -> encQ (T + 1) (fun k => j / (T + 1) ^ k % (T + 1)) s' = encQ (T + 1) (fun k => i / (T + 1) ^ k % (T + 1)) s' := by
      intro s' hs';induction s' with
      | zero => rfl
      | succ q ih => simp only [encQ]; rw [ih (by omega), hall q (by omega)]
     have e4 := e3 r (Nat.le_refl _);rw [e1, e2, Nat.mod_eq_of_lt (by omega), Nat.mod_eq_of_lt (by omega)] at e4;omega
 · intro k hk;have h1 : j / (T + 1) ^ k % (T + 1) < T + 1 := Nat.mod_lt _ (by omega);have h2 : i / (T + 1) ^ k % (T + 1) < T + 1 := Nat.mod_lt _ (by omega);rw [hT]
   revert h1 h2
   dsimp only;generalize j / (T + 1) ^ k % (T + 1) = a;generalize i / (T + 1) ^ k % (T + 1) = b;omega
 · intro q hq';have h1 := hq q hq';have h2 := hy i q hq';have h3 := hy j q hq';have h4 : sm r (fun k => (((j / (T + 1) ^ k % (T + 1) : Nat) : Int) - ((i / (T + 1) ^ k % (T + 1) : Nat) : Int)) * A k q) = sm r (fun k => ((j / (T + 1) ^ k % (T + 1) : Nat) : Int) * A k q) - sm r (fun k => ((i / (T + 1) ^ k % (T + 1) : Nat) : Int) * A k q) := by
    rw [<- sm_sub]; exact sm_congr (fun k _ => Int.sub_mul ..)
   dsimp only at h1 ⊢;rw [h4];generalize sm r (fun k => ((j / (T + 1) ^ k % (T + 1) : Nat) : Int) * A k q) = a at *;generalize sm r (fun k => ((i / (T + 1) ^ k % (T + 1) : Nat) : Int) * A k q) = b at *;rw [Nat.mod_eq_of_lt (by omega), Nat.mod_eq_of_lt (by omega)] at h1;omega
def Sp (n : Nat) (E : Nat -> Nat -> Int) (v : Nat -> Int) : Prop := ∃ x : Nat -> Int, ∀ j, v j = sm n (fun k => x k * E k j)
theorem Sp.zero (n : Nat) (E : Nat -> Nat -> Int) : Sp n E (fun _ => 0) := ⟨fun _ => 0, fun j => (sm_zero (fun k _ => Int.zero_mul _)).symm⟩
theorem Sp.congr {n : Nat} {E : Nat -> Nat -> Int} {v w : Nat -> Int} (h : Sp n E v) (e : ∀ j, w j = v j) : Sp n E w := by
 obtain ⟨x, hx⟩ := h;exact ⟨x, fun j => (e j).trans (hx j)⟩
theorem Sp.add {n : Nat} {E : Nat -> Nat -> Int} {v w : Nat -> Int} (h : Sp n E v) (k : Sp n E w) : Sp n E (fun j => v j + w j) := by
 obtain ⟨x, hx⟩ := h; obtain ⟨y, hy⟩ := k;refine ⟨fun k => x k + y k, fun j => ?_⟩;show v j + w j = _;rw [hx, hy, <- sm_add]; exact sm_congr (fun k _ => (Int.add_mul ..).symm)
theorem Sp.smul {n : Nat} {E : Nat -> Nat -> Int} {v : Nat -> Int} (c : Int) (h : Sp n E v) : Sp n E (fun j => c * v j) := by
 obtain ⟨x, hx⟩ := h;refine ⟨fun k => c * x k, fun j => ?_⟩;show c * v j = _;rw [hx, <- sm_mul]; exact sm_congr (fun k _ => (Int.mul_assoc ..).symm)
theorem Sp.sub {n : Nat} {E : Nat -> Nat -> Int} {v w : Nat -> Int} (h : Sp n E v) (k : Sp n E w) : Sp n E (fun j => v j - w j) :=
 (h.add (k.smul (-1))).congr (fun j => by omega)
theorem Sp.row {n : Nat} (E : Nat -> Nat -> Int) {k : Nat} (hk : k < n) : Sp n E (E k) := by
 refine ⟨fun i => if i = k then 1 else 0, fun j => ?_⟩;rw [sm_one k hk (fun i _ hne => by simp [hne])]; simp
theorem Sp.sm {n m : Nat} {E : Nat -> Nat -> Int} {F : Nat -> Nat -> Int} {x : Nat -> Int} (h : ∀ k, k < m -> Sp n E (F k)) : Sp n E (fun j => sm m (fun k => x k * F k j)) := by
 induction m with
 | zero => exact Sp.zero n E
 | succ m ih => exact (ih (fun k hk => h k (by omega))).add ((h m (by omega)).smul (x m))
theorem Sp.trans {n m : Nat} {E F : Nat -> Nat -> Int} {v : Nat -> Int} (hv : Sp m F v) (h : ∀ k, k < m -> Sp n E (F k)) : Sp n E v := by
 obtain ⟨x, hx⟩ := hv;exact (Sp.sm (x := x) h).congr hx
def SpEq (n : Nat) (E : Nat -> Nat -> Int) (m : Nat) (F : Nat -> Nat -> Int) : Prop := (∀ k, k < n -> Sp m F (E k)) /\ ∀ k, k < m -> Sp n E (F k)
theorem SpEq.refl (n : Nat) (E : Nat -> Nat -> Int) : SpEq n E n E := ⟨fun k hk => Sp.row E hk, fun k hk => Sp.row E hk⟩
theorem SpEq.symm {n m : Nat} {E F : Nat -> Nat -> Int} (h : SpEq n E m F) : SpEq m F n E := ⟨h.2, h.1⟩
theorem SpEq.trans {n m l : Nat} {E F G : Nat -> Nat -> Int} (h : SpEq n E m F) (k : SpEq m F l G) : SpEq n E l G :=
 ⟨fun i hi => (h.1 i hi).trans k.1, fun i hi => (k.2 i hi).trans h.2⟩
theorem SpEq.of_eq {n : Nat} {E F : Nat -> Nat -> Int} (h : ∀ k, k < n -> ∀ j, E k j = F k j) : SpEq n E n F :=
 ⟨fun k hk => (Sp.row F hk).congr (h k hk), fun k hk => (Sp.row E hk).congr (fun j => (h k hk j).symm)⟩
structure Ech (n c : Nat) (E : Nat -> Nat -> Int) (l : Nat -> Nat) : Prop where
 inc : ∀ i k, i < k -> k < n -> l i < l k
 lt : ∀ i, i < n -> l i < c
 zero : ∀ i, i < n -> ∀ j, j < l i -> E i j = 0
 pos : ∀ i, i < n -> 0 < E i (l i)
structure Herm (n c : Nat) (E : Nat -> Nat -> Int) (l : Nat -> Nat) : Prop extends Ech n c E l where
 red : ∀ i k, i < k -> k < n -> 0 <= E i (l k) /\ E i (l k) < E k (l k)
theorem Ech.at {n c : Nat} {E : Nat -> Nat -> Int} {l : Nat -> Nat} (h : Ech n c E l) (x : Nat -> Int) {k : Nat} (hk : k < n) (h0 : ∀ i, i < k -> x i = 0) : sm n (fun i => x i * E i (l k)) = x k * E k (l k) := by
 refine sm_one k hk (fun i hi hne => ?_);rcases Nat.lt_or_gt_of_ne hne with hlt | hgt
 · rw [h0 i hlt, Int.zero_mul]
 · rw [h.zero i hi _ (h.inc k i hgt hi), Int.mul_zero]
theorem Ech.small {n c : Nat} {E : Nat -> Nat -> Int} {l : Nat -> Nat} (h : Ech n c E l) (x : Nat -> Int) : ∀ m, m <= n -> (∀ k, k < m -> (sm n (fun i => x i * E i (l k))).natAbs < (E k (l k)).natAbs) -> ∀ k, k < m -> x k = 0
 | 0, _, _, k, hk => by omega
 | m + 1, hm, hs, k, hk => by
  have ih := Ech.small h x m (by omega) (fun k hk => hs k (by omega));by_cases e : k = m
  · subst e;have h1 := hs k (by omega);rw [h.at x (by omega) ih, Int.natAbs_mul] at h1;have h2 : ¬ 0 < (x k).natAbs := fun h3 => by
     have := Nat.mul_le_mul_right (E k (l k)).natAbs h3;omega
    omega
  · exact ih k (by omega)
theorem Ech.none {n c : Nat} {E : Nat -> Nat -> Int} {l : Nat -> Nat} (h : Ech n c E l) {v : Nat -> Int} (hv : Sp n E v) (hs : ∀ k, k < n -> (v (l k)).natAbs < (E k (l k)).natAbs) (j : Nat) : v j = 0 := by
 obtain ⟨x, hx⟩ := hv;have h0 := h.small x n (Nat.le_refl _) (fun k hk => by rw [<- hx]; exact hs k hk);rw [hx, sm_zero (fun k hk => by rw [h0 k hk, Int.zero_mul])]
theorem Ech.none0 {n c : Nat} {E : Nat -> Nat -> Int} {l : Nat -> Nat} (h : Ech n c E l) {v : Nat -> Int} (hv : Sp n E v) (hs : ∀ k, k < n -> v (l k) = 0) (j : Nat) : v j = 0 :=
 h.none hv (fun k hk => by have := h.pos k hk; rw [hs k hk]; omega) j
theorem Ech.lead {n c : Nat} {E : Nat -> Nat -> Int} {l : Nat -> Nat} (h : Ech n c E l) {v : Nat -> Int} (hv : Sp n E v) {q : Nat} (hq : v q ≠ 0) (h0 : ∀ j, j < q -> v j = 0) : ∃ k, k < n /\ l k = q /\ E k q ∣ v q := by
 obtain ⟨x, hx⟩ := hv;have key : ∀ m, m <= n -> (∃ k, k < m /\ l k = q /\ E k q ∣ v q) ∨ (∀ k, k < m -> x k = 0 ∨ q < l k) := by
  intro m;induction m with
  | zero => exact fun _ => .inr (fun k hk => by omega)
  | succ m ih =>
   intro hm;rcases ih (by omega) with h1 | h1
   · obtain ⟨k, hk, h2⟩ := h1; exact .inl ⟨k, by omega, h2⟩
   · by_cases hlt : q < l m
     · exact .inr (fun k hk => by
        by_cases e : k = m
        · subst e; exact .inr hlt
        · exact h1 k (by omega))
     · have hz : ∀ i, i < m -> x i = 0 := fun i hi => (h1 i hi).elim id (fun h2 => by have := h.inc i m hi (by omega); omega);have h3 := h.at x (by omega : m < n) hz;rw [<- hx] at h3;by_cases e : l m = q
       · refine .inl ⟨m, by omega, e, ?_⟩;rw [e] at h3; rw [h3]; exact Int.dvd_mul_left ..
       · have h4 : v (l m) = 0 := h0 _ (by omega);rw [h4] at h3;have h5 := h.pos m (by omega);have h6 : x m = 0 := by
          rcases Int.mul_eq_zero.1 h3.symm with h7 | h7
          · exact h7
          · omega
         exact .inr (fun k hk => by
          by_cases e : k = m
          · subst e; exact .inl h6
          · exact .inl (hz k (by omega)))
 rcases key n (Nat.le_refl _) with h1 | h1
 · exact h1
 · exfalso;apply hq;rw [hx];refine sm_zero (fun k hk => ?_);rcases h1 k hk with h2 | h2
   · rw [h2, Int.zero_mul]
   · rw [h.zero k hk _ h2, Int.mul_zero]
theorem Ech.same {n m c c' : Nat} {E F : Nat -> Nat -> Int} {l l' : Nat -> Nat} (h : Ech n c E l) (h' : Ech m c' F l') (hs : SpEq n E m F) : n = m /\ ∀ k, k < n -> l k = l' k /\ E k (l k) = F k (l k) := by
 have one : ∀ {n m c c' : Nat} {E F : Nat -> Nat -> Int} {l l' : Nat -> Nat}, Ech n c E l -> Ech m c' F l' -> SpEq n E m F -> ∀ k, (∀ i, i < k -> i < n -> i < m -> l i = l' i) -> k < n -> (∀ i, i < k -> i < m) -> k < m /\ l' k <= l k /\ ∀ t, t < m -> l' t = l k -> F t (l k) ∣ E k (l k) := by
  intro n m c c' E F l l' h h' hs k ih hk hkm;obtain ⟨t, ht, e, hd⟩ := h'.lead (hs.1 k hk) (q := l k) (by have := h.pos k hk; omega) (h.zero k hk);have h1 : k <= t := by
   by_cases h2 : k <= t
   · exact h2
   · exfalso;have h3 := ih t (by omega) (by omega) ht;have h4 := h.inc t k (by omega) hk;omega
  have h2 : k < m := by omega
  refine ⟨h2, ?_, ?_⟩
  · rcases Nat.lt_or_eq_of_le h1 with h3 | h3
    · have := h'.inc k t h3 ht; omega
    · subst h3; omega
  · intro t' ht' e';have : t' = t := by
     rcases Nat.lt_trichotomy t' t with h3 | h3 | h3
     · have := h'.inc t' t h3 ht; omega
     · exact h3
     · have := h'.inc t t' h3 ht'; omega
    subst this; exact hd
 have all : ∀ k, (k < n ↔ k < m) /\ (k < n -> l k = l' k /\ E k (l k) = F k (l k)) := by
  intro k;induction k using Nat.strongRecOn with
  | _ k ih =>
   have h1 : k < n -> k < m := fun hk => (one h h' hs k (fun i hi hn _ => ((ih i hi).2 hn).1) hk (fun i hi => (ih i hi).1.1 (by omega))).1;have h2 : k < m -> k < n := fun hk => (one h' h hs.symm k (fun i hi hm _ => ((ih i hi).2 ((ih i hi).1.2 hm)).1.symm) hk (fun i hi => (ih i hi).1.2 (by omega))).1;refine ⟨⟨h1, h2⟩, fun hk => ?_⟩;have h3 := one h h' hs k (fun i hi hn _ => ((ih i hi).2 hn).1) hk (fun i hi => (ih i hi).1.1 (by omega));have h4 := one h' h hs.symm k (fun i hi hm _ => ((ih i hi).2 ((ih i hi).1.2 hm)).1.symm) (h1 hk) (fun i hi => (ih i hi).1.2 (by omega));have e : l k = l' k := by omega
   refine ⟨e, ?_⟩;have d1 := h3.2.2 k (h1 hk) e.symm;have d2 := h4.2.2 k hk e;rw [<- e] at d2;have p1 := h.pos k hk;have p2 := h'.pos k (h1 hk);rw [<- e] at p2;exact Int.dvd_antisymm (Int.le_of_lt p1) (Int.le_of_lt p2) d2 d1
 refine ⟨?_, fun k hk => (all k).2 hk⟩;have h1 := (all n).1;have h2 := (all m).1;omega
theorem Herm.unique {n m c c' : Nat} {E F : Nat -> Nat -> Int} {l l' : Nat -> Nat} (h : Herm n c E l) (h' : Herm m c' F l') (hs : SpEq n E m F) : n = m /\ (∀ k, k < n -> l k = l' k) /\ ∀ k, k < n -> ∀ j, E k j = F k j := by
 obtain ⟨hnm, hl⟩ := h.toEch.same h'.toEch hs;refine ⟨hnm, fun k hk => (hl k hk).1, fun i hi j => ?_⟩;have hw : Sp n E (fun j => E i j - F i j) := (Sp.row E hi).sub (hs.2 i (by omega));have := h.toEch.none hw (fun k hk => ?_) j
 · omega
 · have hlk := hl k hk;have hp := h.pos k hk;rcases Nat.lt_trichotomy k i with h1 | h1 | h1
   · have e1 : E i (l k) = 0 := h.zero i hi _ (h.inc k i h1 hi);have e2 : F i (l k) = 0 := h'.zero i (by omega) _ (by rw [hlk.1]; exact h'.inc k i h1 (by omega));rw [e1, e2]; omega
   · subst h1;have := hlk.2; omega
   · have r1 := h.red i k h1 hk;have r2 := h'.red i k h1 (by omega);rw [<- hlk.1, <- hlk.2] at r2;omega
def Indep (n : Nat) (a : Nat -> Nat -> Int) : Prop := ∀ x : Nat -> Int, (∀ j, sm n (fun k => x k * a k j) = 0) -> ∀ k, k < n -> x k = 0
theorem common : ∀ (n : Nat) (Y : Nat -> Int), (∀ k, k < n -> Y k ≠ 0) -> ∃ d : Int, d ≠ 0 /\ ∀ k, k < n -> Y k ∣ d
 | 0, _, _ => ⟨1, by omega, fun k hk => by omega⟩
 | n + 1, Y, h => by
  obtain ⟨d, hd, hk⟩ := common n Y (fun k hk => h k (by omega));refine ⟨d * Y n, fun e => ?_, fun k hk' => ?_⟩
  · rcases Int.mul_eq_zero.1 e with e | e
    · exact hd e
    · exact h n (by omega) e
  · by_cases e : k = n
    · subst e; exact Int.dvd_mul_left ..
    · exact Int.dvd_mul_of_dvd_left (hk k (by omega))
def hermD (n M : Nat) : Nat := n * (n * ((2 * n * M + 1) ^ (n - 1) * M)) * (n * ((2 * n * M + 1) ^ (n - 1) * M))
theorem Herm.bound {n c M : Nat} {E : Nat -> Nat -> Int} {l : Nat -> Nat} (h : Herm n c E l) {a : Nat -> Nat -> Int} (ha : ∀ k, k < n -> Sp n E (a k)) (hi : Indep n a) (hM : ∀ k j, k < n -> (a k j).natAbs <= M) : ∀ i j, i < n -> (E i j).natAbs <= hermD n M := by
 obtain ⟨D, hD⟩ : ∃ D, n * ((2 * n * M + 1) ^ (n - 1) * M) = D := ⟨_, rfl⟩;have hy : ∀ i, i < n -> ∃ y : Nat -> Int, Sp n E y /\ (∀ j, (y j).natAbs <= D) /\ (∀ k, k < n -> k ≠ i -> y (l k) = 0) /\ y (l i) ≠ 0 := by
  intro i hin;obtain ⟨x, ⟨k0, hk0, hx0⟩, hxb, hxz⟩ := siegel n (n - 1) M (fun k q => a k (l (if q < i then q else q + 1))) (by omega) (fun k j hk _ => hM k _ hk);have hz : ∀ k, k < n -> k ≠ i -> sm n (fun t => x t * a t (l k)) = 0 := by
   intro k hk hne;rcases Nat.lt_or_gt_of_ne hne with h1 | h1
   · have := hxz k (by omega);simpa [h1] using this
   · have := hxz (k - 1) (by omega);have e : ¬ k - 1 < i := by omega
     have e2 : k - 1 + 1 = k := by omega
     simpa [e, e2] using this
  have hsp : Sp n E (fun j => sm n (fun k => x k * a k j)) := Sp.sm ha;refine ⟨fun j => sm n (fun k => x k * a k j), hsp, fun j => ?_, hz, fun e => ?_⟩
  · rw [<- hD];refine sm_abs (fun k hk => ?_);rw [Int.natAbs_mul];exact Nat.mul_le_mul (hxb k hk) (hM k j hk)
  · have h0 := h.toEch.none0 hsp (fun k hk => by
     by_cases e' : k = i
     · subst e'; exact e
     · exact hz k hk e')
    exact hx0 (hi x h0 k0 hk0)
 have hpiv : ∀ i, i < n -> (E i (l i)).natAbs <= D := by
  intro i hin;obtain ⟨y, hs, hb, hz, hn⟩ := hy i hin;obtain ⟨x, hx⟩ := hs;have h0 : ∀ k, k < i -> x k = 0 := h.toEch.small x i (by omega) (fun k hk => by
   rw [<- hx, hz k (by omega) (by omega)]; have := h.pos k (by omega); omega)
  have h1 := h.toEch.at x hin h0;rw [<- hx] at h1;have h2 := hb (l i);rw [h1, Int.natAbs_mul] at h2;have h3 : 1 <= (x i).natAbs := by
   have : x i ≠ 0 := fun e => hn (by rw [h1, e, Int.zero_mul]);omega
  have h4 := Nat.mul_le_mul_right (E i (l i)).natAbs h3;omega
 have hent : ∀ i k, i < n -> k < n -> (E i (l k)).natAbs <= D := by
  intro i k hin hk;rcases Nat.lt_trichotomy i k with h1 | h1 | h1
  · have := h.red i k h1 hk; have := hpiv k hk; omega
  · subst h1; exact hpiv i hin
  · rw [h.zero i hin _ (h.inc k i h1 hin)]; simp
 intro i j hin;obtain ⟨y, hY⟩ : ∃ y : Nat -> Nat -> Int, ∀ i, i < n -> Sp n E (y i) /\ (∀ j, (y i j).natAbs <= D) /\ (∀ k, k < n -> k ≠ i -> y i (l k) = 0) /\ y i (l i) ≠ 0 := by
  refine ⟨fun i => if hin : i < n then Classical.choose (hy i hin) else fun _ => 0, fun i hin => ?_⟩;simp only [hin, dif_pos];exact Classical.choose_spec (hy i hin)
 obtain ⟨d, hd, hdv⟩ := common n (fun k => y k (l k)) (fun k hk => (hY k hk).2.2.2);obtain ⟨q, hq⟩ : ∃ q : Nat -> Int, ∀ k, k < n -> d = q k * y k (l k) := by
  refine ⟨fun k => d / y k (l k), fun k hk => ?_⟩;exact (Int.ediv_mul_cancel (hdv k hk)).symm
 have hsp : Sp n E (fun j => d * E i j - sm n (fun k => (E i (l k) * q k) * y k j)) := ((Sp.row E hin).smul d).sub (Sp.sm (fun k hk => (hY k hk).1));have h0 := h.toEch.none0 hsp (fun m hm => by
  rw [sm_one m hm (fun k hk hne => by rw [(hY k hk).2.2.1 m hm (fun e => hne e.symm), Int.mul_zero])];rw [Int.mul_assoc, <- hq m hm, Int.mul_comm]; omega) j
 have hb : (sm n (fun k => (E i (l k) * q k) * y k j)).natAbs <= n * (D * d.natAbs * D) := by
  refine sm_abs (fun k hk => ?_);rw [Int.natAbs_mul, Int.natAbs_mul];have h1 : (q k).natAbs <= d.natAbs := by
   have e := congrArg Int.natAbs (hq k hk);rw [Int.natAbs_mul] at e;have h2 : 1 <= (y k (l k)).natAbs := by have := (hY k hk).2.2.2; omega
   have h3 := Nat.mul_le_mul_left (q k).natAbs h2;omega
  exact Nat.mul_le_mul (Nat.mul_le_mul (hent i k hin hk) h1) ((hY k hk).2.1 j)
 have h1 : (d * E i j).natAbs <= n * (D * d.natAbs * D) := by
  have : d * E i j = sm n (fun k => (E i (l k) * q k) * y k j) := by omega
  rw [this]; exact hb
 rw [Int.natAbs_mul] at h1;have h2 : n * (D * d.natAbs * D) = d.natAbs * (n * D * D) := by
  simp only [Nat.mul_comm, Nat.mul_left_comm, Nat.mul_assoc]
 rw [h2] at h1;have h3 := Nat.le_of_mul_le_mul_left h1 (by omega : 0 < d.natAbs);unfold hermD;rw [hD]; exact h3
theorem gd_lt (xs : List Int) {i : Nat} (d : Int) (h : i < xs.length) : xs.getD i d = xs[i] := by simp [h]
theorem gd_ge (xs : List Int) {i : Nat} (d : Int) (h : xs.length <= i) : xs.getD i d = d := by simp [h]
theorem smTwo (n k l : Nat) (f : Nat -> Int) (hk : k < n) (hl : l < n) (hkl : k ≠ l) (h : ∀ i < n, i ≠ k -> i ≠ l -> f i = 0) : sm n f = f k + f l := by
 have e : sm n f = sm n (fun i => (if i = k then f i else 0) + (if i = k then 0 else f i)) := sm_congr (fun i _ => by split <;> omega);rw [e, sm_add, sm_one k hk (fun i _ hik => if_neg hik), sm_one l hl (fun i hi hil => by
  by_cases hik : i = k
  · exact if_pos hik
  · rw [if_neg hik]; exact h i hi hik hil), if_pos rfl, if_neg (fun e => hkl e.symm)]
abbrev Mx := Nat -> Nat -> Int
def skp (i a : Nat) : Nat := if a < i then a else a + 1
def minor (M : Mx) (i : Nat) : Mx := fun a b => M (skp i a) (b + 1)
def sgn (i : Nat) : Int := if i % 2 = 0 then 1 else -1
theorem sgn_succ (i : Nat) : sgn (i + 1) = - sgn i := by
 unfold sgn
 (repeat' split) <;> first | rfl | omega
def det : Nat -> Mx -> Int
 | 0, _ => 1
 | n + 1, M => sm (n + 1) fun i => sgn i * M i 0 * det n (minor M i)
theorem det_congr : ∀ (n : Nat) {M N : Mx}, (∀ i < n, ∀ j < n, M i j = N i j) -> det n M = det n N
 | 0, _, _, _ => rfl
 | n + 1, M, N, h => by
  unfold det;refine sm_congr fun i hi => ?_;rw [h i hi 0 (by omega), det_congr n (M := minor M i) (N := minor N i) fun a ha b hb => h _ (by unfold skp; split <;> omega) _ (by omega)]
def upd (M : Mx) (k : Nat) (R : Nat -> Int) : Mx := fun a b => if a = k then R b else M a b
theorem minor_upd_same (M : Mx) (k : Nat) (R : Nat -> Int) : minor (upd M k R) k = minor M k := by
 funext a b;unfold minor upd skp;split <;> rw [if_neg (by omega)]
theorem minor_upd_other (M : Mx) (k i : Nat) (R : Nat -> Int) (h : i ≠ k) : minor (upd M k R) i = upd (minor M i) (if k < i then k else k - 1) (fun b => R (b + 1)) := by
 funext a b;unfold minor upd skp;by_cases ha : a < i <;> by_cases hk : k < i <;> simp only [ha, hk, if_true, if_false] <;> split <;> split <;> first | rfl | (exfalso; omega)
theorem det_lin : ∀ (n : Nat) (M : Mx) (k : Nat) (c : Int) (U V : Nat -> Int), k < n -> det n (upd M k fun j => c * U j + V j) = c * det n (upd M k U) + det n (upd M k V)
 | n + 1, M, k, c, U, V, hk => by
  unfold det;rw [<- sm_mul, <- sm_add];refine sm_congr fun i hi => ?_;by_cases h : i = k
  · subst h;rw [minor_upd_same, minor_upd_same, minor_upd_same];simp only [upd, if_pos];generalize det n (minor M i) = d;rw [Int.mul_add, Int.add_mul, <- Int.mul_assoc, <- Int.mul_assoc, Int.mul_comm (sgn i) c];simp only [Int.mul_assoc]
  · rw [minor_upd_other M k i _ h, minor_upd_other M k i _ h, minor_upd_other M k i _ h, det_lin n (minor M i) _ c (fun b => U (b + 1)) (fun b => V (b + 1)) (by split <;> omega)];simp only [upd, if_neg h];rw [Int.mul_add, <- Int.mul_assoc, <- Int.mul_assoc, Int.mul_comm _ c, Int.mul_assoc c]
theorem det_adj : ∀ (n : Nat) (M : Mx) (k : Nat), k + 1 < n -> (∀ j < n, M k j = M (k + 1) j) -> det n M = 0
 | n + 1, M, k, hk, h => by
  unfold det;rw [smTwo (n + 1) k (k + 1) _ (by omega) (by omega) (by omega) fun i hi h1 h2 => ?_]
  · have e : minor M k = minor M (k + 1) ∨ True := .inr trivial;have e2 : det n (minor M k) = det n (minor M (k + 1)) := det_congr n fun a ha b hb => by
     unfold minor skp;by_cases h1 : a < k
     · rw [if_pos h1, if_pos (by omega)]
     · rw [if_neg h1];by_cases h3 : a = k
       · subst h3; rw [if_pos (by omega)]; exact (h (b + 1) (by omega)).symm
       · rw [if_neg (by omega)]
    rw [e2, h 0 (by omega), sgn_succ, Int.neg_mul, Int.neg_mul];omega
  · have : det n (minor M i) = 0 := by
     by_cases hik : i < k
     · refine det_adj n _ (k - 1) (by omega) fun j hj => ?_;unfold minor skp;rw [if_neg (by omega), if_neg (by omega), show k - 1 + 1 = k by omega];exact h (j + 1) (by omega)
     · refine det_adj n _ k (by omega) fun j hj => ?_;unfold minor skp;rw [if_pos (by omega), if_pos (by omega)];exact h (j + 1) (by omega)
    rw [this, Int.mul_zero]
theorem upd_self (M : Mx) (k : Nat) : upd M k (M k) = M := by
 funext a b; unfold upd; split
 · rename_i h; rw [h]
 · rfl
theorem upd_comm (M : Mx) {k l : Nat} (h : k ≠ l) (R R' : Nat -> Int) : upd (upd M k R) l R' = upd (upd M l R') k R := by
 funext a b; unfold upd; (repeat' split) <;> first | rfl | omega
theorem upd_get (M : Mx) (k : Nat) (R : Nat -> Int) : upd M k R k = R := by funext b; simp [upd]
theorem upd_get' (M : Mx) {k l : Nat} (h : l ≠ k) (R : Nat -> Int) : upd M k R l = M l := by funext b; simp [upd, h]
theorem det_add (n : Nat) (M : Mx) (k : Nat) (U V : Nat -> Int) (hk : k < n) : det n (upd M k fun j => U j + V j) = det n (upd M k U) + det n (upd M k V) := by
 have := det_lin n M k 1 U V hk;simpa using this
theorem det_smul (n : Nat) (M : Mx) (k : Nat) (c : Int) (U : Nat -> Int) (hk : k < n) : det n (upd M k fun j => c * U j) = c * det n (upd M k U) := by
 have h := det_lin n M k c U (fun _ => 0) hk;have h0 := det_lin n M k (-1) (fun _ => 0) (fun _ => 0) hk;simp at h h0;rw [h]; omega
theorem det_swap1 (n : Nat) (M : Mx) (k : Nat) (hk : k + 1 < n) (A B : Nat -> Int) : det n (upd (upd M k A) (k + 1) B) = - det n (upd (upd M k B) (k + 1) A) := by
 have z : ∀ C : Nat -> Int, det n (upd (upd M k C) (k + 1) C) = 0 := fun C => det_adj n _ k hk fun j _ => by
  rw [upd_get' _ (by omega), upd_get, upd_get]
 have s := z fun j => A j + B j;rw [det_add n _ _ _ _ hk, upd_comm M (by omega : k ≠ k + 1), upd_comm M (by omega : k ≠ k + 1), det_add n _ _ _ _ (by omega), det_add n _ _ _ _ (by omega),
  <- upd_comm M (by omega : k ≠ k + 1), <- upd_comm M (by omega : k ≠ k + 1), <- upd_comm M (by omega : k ≠ k + 1), <- upd_comm M (by omega : k ≠ k + 1), z A, z B] at s
 omega
theorem det_two : ∀ (d n : Nat) (M : Mx) (k : Nat), k + d + 1 < n -> (∀ j, M k j = M (k + d + 1) j) -> det n M = 0
 | 0, n, M, k, hk, h => det_adj n M k hk fun j _ => h j
 | d + 1, n, M, k, hk, h => by
  have e := det_swap1 n M (k + d + 1) (by omega) (M (k + d + 1)) (M (k + d + 2));rw [upd_self M (k + d + 1), upd_self M (k + d + 2)] at e;rw [e, det_two d n _ k (by omega) fun j => ?_]
  · rfl
  · rw [upd_get' _ (by omega), upd_get' _ (by omega), upd_get' _ (by omega), upd_get];exact h j
theorem det_alike (n : Nat) (M : Mx) {k l : Nat} (hk : k < n) (hl : l < n) (hkl : k ≠ l) (h : ∀ j, M k j = M l j) : det n M = 0 := by
 rcases Nat.lt_or_gt_of_ne hkl with h1 | h1
 · exact det_two (l - k - 1) n M k (by omega) fun j => by rw [show k + (l - k - 1) + 1 = l by omega]; exact h j
 · exact det_two (k - l - 1) n M l (by omega) fun j => by rw [show l + (k - l - 1) + 1 = k by omega]; exact (h j).symm
theorem det_addSum (n : Nat) (M : Mx) (k : Nat) (hk : k < n) (c : Nat -> Int) (hc : c k = 0) : ∀ (m : Nat), m <= n -> ∀ U : Nat -> Int, det n (upd M k fun j => U j + sm m fun l => c l * M l j) = det n (upd M k U)
 | 0, _, U => by simp [sm]
 | m + 1, hm, U => by
  have e : (fun j => U j + sm (m + 1) fun l => c l * M l j) = fun j => c m * M m j + (U j + sm m fun l => c l * M l j) := by
   funext j;show U j + (sm m (fun l => c l * M l j) + c m * M m j) = c m * M m j + (U j + sm m (fun l => c l * M l j));generalize c m * M m j = z;omega
  rw [e, det_lin n M k _ _ _ hk, det_addSum n M k hk c hc m (by omega) U];by_cases hmk : m = k
  · rw [hmk, hc, Int.zero_mul, Int.zero_add]
  · rw [det_alike n (upd M k (M m)) hk (by omega) (fun e => hmk e.symm) fun j => by rw [upd_get, upd_get' _ hmk]];rw [Int.mul_zero, Int.zero_add]
theorem det_swap (n : Nat) (M : Mx) {k l : Nat} (hk : k < n) (hl : l < n) (hkl : k ≠ l) (A B : Nat -> Int) : det n (upd (upd M k A) l B) = - det n (upd (upd M k B) l A) := by
 have z : ∀ C : Nat -> Int, det n (upd (upd M k C) l C) = 0 := fun C => det_alike n _ hk hl hkl fun j => by
  rw [upd_get' _ hkl, upd_get, upd_get]
 have s := z fun j => A j + B j;rw [det_add n _ _ _ _ hl, upd_comm M hkl, upd_comm M hkl, det_add n _ _ _ _ hk, det_add n _ _ _ _ hk, <- upd_comm M hkl, <- upd_comm M hkl, <- upd_comm M hkl, <- upd_comm M hkl, z A, z B] at s;omega
theorem det_sum (n : Nat) (M : Mx) (k : Nat) (hk : k < n) (c : Nat -> Int) (R : Nat -> Nat -> Int) : ∀ m, det n (upd M k fun j => sm m fun l => c l * R l j) = sm m fun l => c l * det n (upd M k (R l))
 | 0 => by
  have := det_smul n M k 0 (fun _ => 0) hk;simpa [sm] using this
 | m + 1 => by
  have e : (fun j => sm (m + 1) fun l => c l * R l j) = fun j => c m * R m j + sm m fun l => c l * R l j := by
   funext j; simp only [sm]; omega
  rw [e, det_lin n M k _ _ _ hk, det_sum n M k hk c R m];simp only [sm]; omega
theorem onto (n : Nat) (f : Nat -> Nat) (hf : ∀ i < n, f i < n) (hi : ∀ i < n, ∀ j < n, f i = f j -> i = j) (k : Nat) (hk : k < n) : ∃ i < n, f i = k := by
 refine Classical.byContradiction fun hc => ?_;have hne : ∀ i < n, f i ≠ k := fun i h e => hc ⟨i, h, e⟩;obtain ⟨m, rfl⟩ : ∃ m, n = m + 1 := ⟨n - 1, by omega⟩;obtain ⟨i, j, h1, h2, h3⟩ := pigeon m (fun i => if f i < k then f i else f i - 1) (fun i h => by
  have := hf i (by omega); have := hne i (by omega);show (if f i < k then f i else f i - 1) < m;split <;> omega)
 have h4 : f i = f j := by
  have a := hne i (by omega); have b := hne j (by omega);have h3 : (if f i < k then f i else f i - 1) = (if f j < k then f j else f j - 1) := h3;split at h3 <;> split at h3 <;> omega
 have := hi i (by omega) j (by omega) h4;omega
theorem det_pick (n : Nat) (A : Mx) : ∀ (d : Nat) (σ : Nat -> Nat), (∀ i < n, σ i < n) -> (∀ i, i + d < n -> σ i = i) -> d <= n -> det n (fun i => A (σ i)) = 0 ∨ (det n (fun i => A (σ i))).natAbs = (det n A).natAbs
 | 0, σ, _, h, _ => .inr (by rw [det_congr n (M := fun i => A (σ i)) (N := A) fun i hi j _ => by rw [h i (by omega)]])
 | d + 1, σ, h1, h2, hd => by
  by_cases hinj : ∀ i < n, ∀ j < n, σ i = σ j -> i = j
  · obtain ⟨i, hi, he⟩ := onto n σ h1 hinj (n - (d + 1)) (by omega);have hge : n - (d + 1) <= i := by
     refine Nat.le_of_not_lt fun hlt => ?_;have := h2 i (by omega); omega
    by_cases hik : i = n - (d + 1)
    · refine det_pick n A d σ h1 (fun a ha => ?_) (by omega);by_cases e : a = n - (d + 1)
      · have h5 : a = i := e.trans hik.symm;rw [h5, he]; exact hik.symm
      · exact h2 a (by omega)
    · have e : (fun a => A (σ a)) = upd (upd (fun a => A (if a = n - (d + 1) then n - (d + 1) else if a = i then σ (n - (d + 1)) else σ a)) (n - (d + 1)) (A (σ (n - (d + 1))))) i (A (σ i)) := by
       funext a b;unfold upd;by_cases h3 : a = i
       · rw [if_pos h3, h3]
       · rw [if_neg h3];by_cases h4 : a = n - (d + 1)
         · rw [if_pos h4, h4]
         · rw [if_neg h4];show A (σ a) b = A (if a = n - (d + 1) then n - (d + 1) else if a = i then σ (n - (d + 1)) else σ a) b;rw [if_neg h4, if_neg h3]
      have e2 : upd (upd (fun a => A (if a = n - (d + 1) then n - (d + 1) else if a = i then σ (n - (d + 1)) else σ a)) (n - (d + 1)) (A (σ i))) i (A (σ (n - (d + 1)))) = fun a => A (if a = n - (d + 1) then n - (d + 1) else if a = i then σ (n - (d + 1)) else σ a) := by
       funext a b;unfold upd;by_cases h3 : a = i
       · rw [if_pos h3, if_neg (by omega), if_pos h3]
       · rw [if_neg h3];by_cases h4 : a = n - (d + 1)
         · rw [if_pos h4, if_pos h4, he]
         · rw [if_neg h4]
      rw [e, det_swap n _ (by omega) hi (fun h => hik h.symm), e2];have := det_pick n A d (fun a => if a = n - (d + 1) then n - (d + 1) else if a = i then σ (n - (d + 1)) else σ a) (fun a ha => by
       split
       · omega
       · split
         · exact h1 _ (by omega)
         · exact h1 a ha) (fun a ha => by
       split
       · omega
       · rw [if_neg (by omega)]; exact h2 a (by omega)) (by omega)
      rcases this with h | h
      · exact .inl (by rw [h]; rfl)
      · exact .inr (by rw [Int.natAbs_neg]; exact h)
  · refine .inl ?_;simp only [Classical.not_forall] at hinj;obtain ⟨i, hi, j, hj, he, hne⟩ := hinj;exact det_alike n _ hi hj hne fun b => by rw [he]
theorem det_dvd (n : Nat) (A : Mx) : ∀ (k : Nat), k <= n -> ∀ B : Mx, (∀ i < k, Sp n A (B i)) -> (∀ i, k <= i -> i < n -> ∃ l < n, B i = A l) -> det n A ∣ det n B
 | 0, _, B, _, h => by
  have hs : ∀ i, ∃ l, i < n -> l < n /\ B i = A l := fun i => by
   by_cases hi : i < n
   · obtain ⟨l, hl, e⟩ := h i (Nat.zero_le _) hi; exact ⟨l, fun _ => ⟨hl, e⟩⟩
   · exact ⟨0, fun h => absurd h hi⟩
  obtain ⟨σ, hσ⟩ := Classical.axiomOfChoice hs;have e : det n B = det n (fun i => A (σ i)) := det_congr n fun i hi j _ => by rw [(hσ i hi).2]
  rw [e];rcases det_pick n A n σ (fun i hi => (hσ i hi).1) (fun i hi => by omega) (Nat.le_refl _) with h | h
  · rw [h]; exact Int.dvd_zero _
  · exact Int.natAbs_dvd_natAbs.1 (by rw [h]; exact Nat.dvd_refl _)
 | k + 1, hk, B, h1, h2 => by
  obtain ⟨c, hc⟩ := h1 k (by omega);have e : B = upd B k (fun j => sm n fun l => c l * A l j) := by
   funext a b;unfold upd;split
   · rename_i h; rw [h]; exact hc b
   · rfl
  rw [e, det_sum n B k (by omega)];have hd : ∀ l < n, det n A ∣ det n (upd B k (A l)) := fun l hl => det_dvd n A k (by omega) _ (fun i hi => by rw [upd_get' _ (by omega)]; exact h1 i (by omega)) (fun i hi hin => by
   by_cases hik : i = k
   · rw [hik, upd_get]; exact ⟨l, hl, rfl⟩
   · rw [upd_get' _ hik]; exact h2 i (by omega) hin)
  have key : ∀ m, m <= n -> det n A ∣ sm m fun l => c l * det n (upd B k (A l)) := by
   intro m;induction m with
   | zero => intro _; exact Int.dvd_zero _
   | succ m ih => intro hm; exact Int.dvd_add (ih (by omega)) (Int.dvd_mul_of_dvd_right (hd m (by omega)))
  exact key n (Nat.le_refl _)
def prodN : Nat -> (Nat -> Nat) -> Nat
 | 0, _ => 1
 | n + 1, f => prodN n f * f n
theorem prodN_congr : ∀ (n : Nat) {f g : Nat -> Nat}, (∀ i < n, f i = g i) -> prodN n f = prodN n g
 | 0, _, _, _ => rfl
 | n + 1, f, g, h => by unfold prodN; rw [prodN_congr n (fun i hi => h i (by omega)), h n (by omega)]
theorem prodN_skip : ∀ (n : Nat) (f : Nat -> Nat) (m : Nat), m <= n -> prodN (n + 1) f = f m * prodN n fun a => f (skp m a)
 | 0, f, m, hm => by
  obtain rfl : m = 0 := by omega
  simp [prodN]
 | n + 1, f, m, hm => by
  by_cases e : m = n + 1
  · subst e;have : prodN (n + 1) (fun a => f (skp (n + 1) a)) = prodN (n + 1) f := prodN_congr _ fun i hi => by unfold skp; rw [if_pos hi]
    rw [this, Nat.mul_comm]; rfl
  · have ih := prodN_skip n f m (by omega);show prodN (n + 1) f * f (n + 1) = f m * (prodN n (fun a => f (skp m a)) * f (skp m n));rw [ih, show skp m n = n + 1 by unfold skp; rw [if_neg (by omega)], Nat.mul_assoc]
theorem det_leads : ∀ (n : Nat) (M : Mx) (p : Nat -> Nat), (∀ i < n, p i < n) -> (∀ i < n, ∀ j < n, p i = p j -> i = j) -> (∀ i < n, ∀ j, j < p i -> M i j = 0) -> (det n M).natAbs = prodN n fun i => (M i (p i)).natAbs
 | 0, _, _, _, _, _ => rfl
 | n + 1, M, p, h1, h2, h3 => by
  obtain ⟨m, hm, he⟩ := onto (n + 1) p h1 h2 0 (by omega);have hpos : ∀ i < n + 1, i ≠ m -> 0 < p i := fun i hi hne => Nat.pos_of_ne_zero fun e => hne (h2 i hi m hm (e.trans he.symm));have hsk : ∀ a < n, skp m a < n + 1 /\ skp m a ≠ m := fun a ha => by unfold skp; split <;> constructor <;> omega
  unfold det;rw [sm_one m hm fun i hi hne => by rw [h3 i hi 0 (hpos i hi hne)]; simp];have ih := det_leads n (minor M m) (fun a => p (skp m a) - 1) (fun a ha => by have := h1 _ (hsk a ha).1; have := hpos _ (hsk a ha).1 (hsk a ha).2; omega) (fun a ha b hb e => by
   have h4 := hpos _ (hsk a ha).1 (hsk a ha).2; have h5 := hpos _ (hsk b hb).1 (hsk b hb).2;have h6 := h2 _ (hsk a ha).1 _ (hsk b hb).1 (by omega);unfold skp at h6; split at h6 <;> split at h6 <;> omega) (fun a ha j hj => h3 _ (hsk a ha).1 (j + 1) (by omega))
  rw [Int.natAbs_mul, Int.natAbs_mul, ih, prodN_skip n _ m (by omega), he];have hs : (sgn m).natAbs = 1 := by unfold sgn; split <;> rfl
  rw [hs, Nat.one_mul];congr 1;exact prodN_congr n fun a ha => by
   have h4 := hpos _ (hsk a ha).1 (hsk a ha).2;unfold minor;rw [show p (skp m a) - 1 + 1 = p (skp m a) by omega]
def prodZ : Nat -> (Nat -> Int) -> Int
 | 0, _ => 1
 | n + 1, f => prodZ n f * f n
theorem prodZ_abs : ∀ (n : Nat) (f : Nat -> Int), (prodZ n f).natAbs = prodN n fun i => (f i).natAbs
 | 0, _ => rfl
 | n + 1, f => by rw [prodZ, Int.natAbs_mul, prodZ_abs n f]; rfl
theorem rest_det (n : Nat) (A R : Mx) (up dn : Nat -> Int) (c : Nat -> Nat -> Int) (h : ∀ i < n, ∀ j, dn i * R i j = up i * A i j + sm i fun t => c i t * R t j) : prodZ n dn * det n R = prodZ n up * det n A := by
 obtain ⟨X, hX⟩ : ∃ X : Nat -> Mx, ∀ k i, X k i = if i < k then R i else A i := ⟨fun k i => if i < k then R i else A i, fun _ _ => rfl⟩;have key : ∀ k, k <= n -> prodZ k dn * det n (X k) = prodZ k up * det n A := by
  intro k;induction k with
  | zero =>
   intro _;have : X 0 = A := by funext i; rw [hX, if_neg (Nat.not_lt_zero i)]
   rw [this]; rfl
  | succ k ih =>
   intro hk;have h1 : X (k + 1) = upd (X k) k (R k) := by
    funext i j;unfold upd;rw [hX, hX];by_cases e : i = k
    · subst e; rw [if_pos (by omega), if_pos rfl]
    · rw [if_neg e];by_cases e2 : i < k
      · rw [if_pos (by omega), if_pos e2]
      · rw [if_neg (by omega), if_neg e2]
   have h2 : dn k * det n (X (k + 1)) = up k * det n (X k) := by
    rw [h1, <- det_smul n (X k) k (dn k) (R k) hk];have e : (fun j => dn k * R k j) = fun j => (up k * A k j) + sm k fun t => (if t < k then c k t else 0) * X k t j := by
     funext j;rw [h k hk];congr 1;exact sm_congr fun t ht => by rw [if_pos ht, hX, if_pos ht]
    rw [e, det_addSum n (X k) k hk (fun t => if t < k then c k t else 0) (by rw [if_neg (Nat.lt_irrefl k)]) k (by omega) (fun j => up k * A k j), det_smul n (X k) k (up k) (A k) hk];congr 1;have : upd (X k) k (A k) = X k := by
     have := upd_self (X k) k;rw [hX k k, if_neg (Nat.lt_irrefl k)] at this; exact this
    rw [this]
   rw [prodZ, prodZ, Int.mul_assoc, h2, Int.mul_left_comm, ih (by omega), <- Int.mul_assoc, Int.mul_comm (up k)]
 have := key n (Nat.le_refl n);have e : det n (X n) = det n R := det_congr n fun i hi j _ => by rw [hX, if_pos hi]
 rw [e] at this; exact this
theorem Sp.more {n m : Nat} {E : Mx} {v : Nat -> Int} (h : Sp n E v) (hm : n <= m) : Sp m E v := by
 obtain ⟨x, hx⟩ := h;obtain ⟨d, rfl⟩ : ∃ d, m = n + d := ⟨m - n, by omega⟩;refine ⟨fun k => if k < n then x k else 0, fun j => ?_⟩;rw [hx, sm_split n d, Go.Proofs.Ytllkjlcdcbilcaa.sm_zero (n := d) (f := fun k => (if n + k < n then x (n + k) else 0) * E (n + k) j) (fun k _ => by rw [if_neg (by omega), Int.zero_mul]), Int.add_zero];exact sm_congr fun k hk => by show x k * E k j = (if k < n then x k else 0) * E k j; rw [if_pos hk]
def tp (A : Mx) : Mx := fun i j => A j i
def updc (M : Mx) (m : Nat) (f : Nat -> Int) : Mx := fun a b => if b = m then f a else M a b
theorem det_colsum : ∀ (n : Nat) (M : Mx) (m : Nat), m < n -> ∀ (c : Nat) (y : Nat -> Int) (F : Nat -> Nat -> Int), det n (updc M m fun a => sm c fun l => y l * F l a) = sm c fun l => y l * det n (updc M m (F l))
 | n + 1, M, 0, _, c, y, F => by
  have hm : ∀ f i, minor (updc M 0 f) i = minor M i := fun f i => by funext a b; unfold minor updc; rw [if_neg (by omega)]
  unfold det;have e : (fun i => sgn i * updc M 0 (fun a => sm c fun l => y l * F l a) i 0 * det n (minor (updc M 0 fun a => sm c fun l => y l * F l a) i)) = fun i => sm c fun l => y l * (sgn i * F l i * det n (minor M i)) := by
   funext i;rw [hm];show sgn i * (if (0 : Nat) = 0 then sm c (fun l => y l * F l i) else M i 0) * det n (minor M i) = _;rw [if_pos rfl, <- sm_mul, <- sm_mul_right];exact sm_congr fun l _ => by rw [Int.mul_left_comm (sgn i), Int.mul_assoc]
  rw [e, sm_comm];refine sm_congr fun l _ => ?_;rw [sm_mul];congr 1
 | n + 1, M, m + 1, h, c, y, F => by
  have hm : ∀ f i, minor (updc M (m + 1) f) i = updc (minor M i) m fun a => f (skp i a) := fun f i => by
   funext a b; unfold minor updc;by_cases e : b = m
   · rw [if_pos (by omega), if_pos e]
   · rw [if_neg (by omega), if_neg e]
  have h0 : ∀ f i, updc M (m + 1) f i 0 = M i 0 := fun f i => if_neg (by omega);unfold det;have e : (fun i => sgn i * updc M (m + 1) (fun a => sm c fun l => y l * F l a) i 0 * det n (minor (updc M (m + 1) fun a => sm c fun l => y l * F l a) i)) = fun i => sm c fun l => y l * (sgn i * M i 0 * det n (updc (minor M i) m fun a => F l (skp i a))) := by
   funext i;rw [hm, h0, det_colsum n (minor M i) m (by omega) c y fun l a => F l (skp i a), <- sm_mul];exact sm_congr fun l _ => by rw [Int.mul_left_comm]
  rw [e, sm_comm];refine sm_congr fun l _ => ?_;rw [sm_mul];congr 1;exact sm_congr fun i _ => by rw [hm, h0]
def Mn (k : Nat) (x : Int) (r c : Nat) (A : Mx) : Prop := ∀ σ τ : Nat -> Nat, (∀ a < k, σ a < r) -> (∀ b < k, τ b < c) -> x ∣ det k fun a b => A (σ a) (τ b)
theorem dvd_sm {x : Int} {f : Nat -> Int} : ∀ m, (∀ l < m, x ∣ f l) -> x ∣ sm m f
 | 0, _ => Int.dvd_zero _
 | m + 1, h => Int.dvd_add (dvd_sm m fun l hl => h l (by omega)) (h m (by omega))
theorem dvd_rows {k r : Nat} {x : Int} {A B : Mx} (h : ∀ σ : Nat -> Nat, (∀ a < k, σ a < r) -> x ∣ det k fun a b => A (σ a) b) (hB : ∀ i < k, Sp r A (B i)) : x ∣ det k B := by
 have key : ∀ m, m <= k -> ∀ N : Mx, (∀ a < m, ∃ i < k, N a = B i) -> (∀ a, m <= a -> a < k -> ∃ i < r, N a = A i) -> x ∣ det k N := by
  intro m;induction m with
  | zero =>
   intro _ N _ h2;have hs : ∀ a, ∃ i, a < k -> i < r /\ N a = A i := fun a => by
    by_cases ha : a < k
    · obtain ⟨i, hi, e⟩ := h2 a (Nat.zero_le _) ha; exact ⟨i, fun _ => ⟨hi, e⟩⟩
    · exact ⟨0, fun q => absurd q ha⟩
   obtain ⟨ρ, hρ⟩ := Classical.axiomOfChoice hs;rw [det_congr k (N := fun a b => A (ρ a) b) fun a ha b _ => by rw [(hρ a ha).2]];exact h ρ fun a ha => (hρ a ha).1
  | succ m ih =>
   intro hm N h1 h2;obtain ⟨i, hi, e⟩ := h1 m (by omega);obtain ⟨y, hy⟩ := hB i hi;have eN : N = upd N m fun b => sm r fun l => y l * A l b := by
    funext a b;unfold upd;split
    · rename_i q; rw [q, e, hy]
    · rfl
   rw [eN, det_sum k N m (by omega) y A];refine dvd_sm r fun l hl => Int.dvd_mul_of_dvd_right (ih (by omega) _ (fun a ha => ?_) fun a ha hk => ?_)
   · obtain ⟨i', hi', e'⟩ := h1 a (by omega);exact ⟨i', hi', by rw [upd_get' N (by omega)]; exact e'⟩
   · by_cases q : a = m
     · exact ⟨l, hl, by rw [q, upd_get]⟩
     · obtain ⟨i', hi', e'⟩ := h2 a (by omega) hk;exact ⟨i', hi', by rw [upd_get' N q]; exact e'⟩
 exact key k (Nat.le_refl _) _ (fun a ha => ⟨a, ha, rfl⟩) fun a h1 h2 => by omega
theorem Mn.rows {k r s c : Nat} {x : Int} {A B : Mx} (h : Mn k x r c A) (hB : ∀ i < s, Sp r A (B i)) : Mn k x s c B := fun σ τ hσ hτ =>
 dvd_rows (A := fun i b => A i (τ b)) (fun ρ hρ => h ρ τ hρ hτ) fun i hi => by
  obtain ⟨y, hy⟩ := hB (σ i) (hσ i hi);exact ⟨y, fun b => hy (τ b)⟩
theorem Mn.cols {k r s c : Nat} {x : Int} {A B : Mx} (h : Mn k x r c A) (hB : ∀ j < s, Sp c (tp A) (tp B j)) : Mn k x r s B := fun σ τ hσ hτ => by
 have key : ∀ m, m <= k -> ∀ N : Mx, (∀ b < m, ∃ j < s, ∀ a, N a b = B (σ a) j) -> (∀ b, m <= b -> b < k -> ∃ j < c, ∀ a, N a b = A (σ a) j) -> x ∣ det k N := by
  intro m;induction m with
  | zero =>
   intro _ N _ h2;have hs : ∀ b, ∃ j, b < k -> j < c /\ ∀ a, N a b = A (σ a) j := fun b => by
    by_cases hb : b < k
    · obtain ⟨j, hj, e⟩ := h2 b (Nat.zero_le _) hb; exact ⟨j, fun _ => ⟨hj, e⟩⟩
    · exact ⟨0, fun q => absurd q hb⟩
   obtain ⟨ρ, hρ⟩ := Classical.axiomOfChoice hs;rw [det_congr k (N := fun a b => A (σ a) (ρ b)) fun a _ b hb => (hρ b hb).2 a];exact h σ ρ hσ fun b hb => (hρ b hb).1
  | succ m ih =>
   intro hm N h1 h2;obtain ⟨j, hj, e⟩ := h1 m (by omega);obtain ⟨y, hy⟩ := hB j hj;have eN : N = updc N m fun a => sm c fun l => y l * A (σ a) l := by
    funext a b;unfold updc;split
    · rename_i q; rw [q, e]; exact hy (σ a)
    · rfl
   rw [eN, det_colsum k N m (by omega) c y fun l a => A (σ a) l];refine dvd_sm c fun l hl => Int.dvd_mul_of_dvd_right (ih (by omega) _ (fun b hb => ?_) fun b hb hk => ?_)
   · obtain ⟨j', hj', e'⟩ := h1 b (by omega);exact ⟨j', hj', fun a => by unfold updc; rw [if_neg (by omega)]; exact e' a⟩
   · by_cases q : b = m
     · exact ⟨l, hl, fun a => by unfold updc; rw [if_pos q]⟩
     · obtain ⟨j', hj', e'⟩ := h2 b (by omega) hk;exact ⟨j', hj', fun a => by unfold updc; rw [if_neg q]; exact e' a⟩
 exact key k (Nat.le_refl _) _ (fun b hb => ⟨τ b, hτ b hb, fun a => rfl⟩) fun b h1 h2 => by omega
def Sm (r c : Nat) (A B : Mx) : Prop := ∀ k x, Mn k x r c A ↔ Mn k x r c B
theorem Sm.refl (r c : Nat) (A : Mx) : Sm r c A A := fun _ _ => Iff.rfl
theorem Sm.symm {r c : Nat} {A B : Mx} (h : Sm r c A B) : Sm r c B A := fun k x => (h k x).symm
theorem Sm.trans {r c : Nat} {A B C : Mx} (h : Sm r c A B) (h' : Sm r c B C) : Sm r c A C := fun k x => (h k x).trans (h' k x)
theorem Sm.rows {r c : Nat} {A B : Mx} (h : SpEq r A r B) : Sm r c A B := fun _ _ => ⟨fun q => q.rows h.2, fun q => q.rows h.1⟩
theorem Sm.cols {r c : Nat} {A B : Mx} (h : SpEq c (tp A) c (tp B)) : Sm r c A B := fun _ _ => ⟨fun q => q.cols h.2, fun q => q.cols h.1⟩
def Dgm (d : Nat -> Nat) : Mx := fun i j => if i = j then (d i : Int) else 0
theorem prodN_inj {d : Nat -> Nat} (hd : ∀ a b, a <= b -> d a ∣ d b) : ∀ (k : Nat) (σ : Nat -> Nat), (∀ a < k, ∀ b < k, σ a = σ b -> a = b) -> prodN k d ∣ prodN k fun a => d (σ a)
 | 0, _, _ => Nat.dvd_refl _
 | k + 1, σ, h => by
  obtain ⟨m, hm, hge⟩ : ∃ m, m < k + 1 /\ k <= σ m := by
   refine Classical.byContradiction fun hc => ?_;have hlt : ∀ a < k + 1, σ a < k := fun a ha => Nat.lt_of_not_le fun q => hc ⟨a, ha, q⟩;obtain ⟨i, j, h1, h2, h3⟩ := pigeon k σ fun a ha => hlt a (by omega);have := h i (by omega) j (by omega) h3;omega
  have ih := prodN_inj hd k (fun a => σ (skp m a)) fun a ha b hb e => by
   have := h (skp m a) (by unfold skp; split <;> omega) (skp m b) (by unfold skp; split <;> omega) e;unfold skp at this; split at this <;> split at this <;> omega
  rw [prodN_skip k (fun a => d (σ a)) m (by omega), Nat.mul_comm];exact Nat.mul_dvd_mul ih (hd _ _ hge)
theorem mn_diag {d : Nat -> Nat} (hd : ∀ a b, a <= b -> d a ∣ d b) (k r c : Nat) : Mn k (prodN k d : Nat) r c (Dgm d) := fun σ τ _ _ => by
 by_cases hinj : ∀ a < k, ∀ b < k, σ a = σ b -> a = b
 · have h1 := rest_det k (fun a b => if σ a = τ b then 1 else 0) (fun a b => Dgm d (σ a) (τ b)) (fun a => (d (σ a) : Int)) (fun _ => 1) (fun _ _ => 0) fun i _ j => by
    rw [sm_zero fun t _ => Int.zero_mul _];show 1 * (if σ i = τ j then (d (σ i) : Int) else 0) = d (σ i) * (if σ i = τ j then 1 else 0) + 0;split <;> simp
   have h2 : prodZ k (fun _ => 1) = 1 := by
    have : ∀ m, prodZ m (fun _ => (1 : Int)) = 1 := by
     intro m;induction m with
     | zero => rfl
     | succ m ih => rw [prodZ, ih]; rfl
    exact this k
   rw [h2, Int.one_mul] at h1;rw [h1];refine Int.dvd_mul_of_dvd_left (Int.natAbs_dvd_natAbs.1 ?_);rw [prodZ_abs, Int.natAbs_natCast];have := prodN_inj hd k σ hinj
   rwa [prodN_congr k (f := fun i => ((d (σ i) : Int)).natAbs) (g := fun a => d (σ a)) fun i _ => Int.natAbs_natCast _]
 · simp only [Classical.not_forall] at hinj;obtain ⟨i, hi, j, hj, he, hne⟩ := hinj;rw [det_alike k _ hi hj hne fun b => by rw [he]];exact Int.dvd_zero _
theorem diag_id (d : Nat -> Nat) (k : Nat) : (det k (Dgm d)).natAbs = prodN k d := by
 rw [det_leads k (Dgm d) (fun i => i) (fun i hi => hi) (fun i _ j _ e => e) fun i _ j hj => if_neg (by omega)];exact prodN_congr k fun i _ => by unfold Dgm; rw [if_pos rfl]; exact Int.natAbs_natCast _
theorem chain_eq {n : Nat} {d e : Nat -> Nat} (hd : ∀ a b, a <= b -> d a ∣ d b) (he : ∀ a b, a <= b -> e a ∣ e b) (h : ∀ k ≤ n, prodN k d = prodN k e) : ∀ i < n, d i = e i := fun i hi => by
 have h1 := h i (by omega);have h2 := h (i + 1) (by omega);simp only [prodN] at h2;rw [h1] at h2;rcases Nat.eq_zero_or_pos (prodN i e) with h0 | h0
 · have hz : ∀ (f : Nat -> Nat) m, (∀ a b, a <= b -> f a ∣ f b) -> prodN m f = 0 -> m <= i -> f i = 0 := fun f m hf => by
    induction m with
    | zero => intro q; simp [prodN] at q
    | succ m ih =>
     intro q hm;simp only [prodN] at q;rcases Nat.mul_eq_zero.1 q with q | q
     · exact ih q (by omega)
     · have := hf m i (by omega);rw [q] at this;exact Nat.eq_zero_of_zero_dvd this
   rw [hz d i hd (h1.trans h0) (Nat.le_refl _), hz e i he h0 (Nat.le_refl _)]
 · exact Nat.eq_of_mul_eq_mul_left h0 h2
theorem smith_unique {r c n : Nat} {d e : Nat -> Nat} (hr : n <= r) (hc : n <= c) (hd : ∀ a b, a <= b -> d a ∣ d b) (he : ∀ a b, a <= b -> e a ∣ e b) (h : Sm r c (Dgm d) (Dgm e)) : ∀ i < n, d i = e i := by
 refine chain_eq hd he fun k hk => Nat.dvd_antisymm ?_ ?_
 · have := ((h k _).1 (mn_diag hd k r c)) (fun a => a) (fun a => a) (fun a ha => by omega) fun a ha => by omega
   have := Int.natAbs_dvd_natAbs.2 this
   rwa [Int.natAbs_natCast, show (fun a b => Dgm e a b) = Dgm e from rfl, diag_id] at this
 · have := ((h k _).2 (mn_diag he k r c)) (fun a => a) (fun a => a) (fun a ha => by omega) fun a ha => by omega
   have := Int.natAbs_dvd_natAbs.2 this
   rwa [Int.natAbs_natCast, show (fun a b => Dgm d a b) = Dgm d from rfl, diag_id] at this
theorem det_zrow (n : Nat) (M : Mx) {a : Nat} (ha : a < n) (h : ∀ j < n, M a j = 0) : det n M = 0 := by
 have e : det n M = det n (upd M a fun j => 0 * M a j) := det_congr n fun i _ j hj => by
  unfold upd;by_cases q : i = a
  · rw [if_pos q, q, h j hj]; show (0 : Int) = 0 * M a j; rw [Int.zero_mul]
  · rw [if_neg q]
 rw [e, det_smul n M a 0 (M a) ha, Int.zero_mul]
theorem det_low : ∀ (n : Nat) (M : Mx), (∀ i < n, ∀ j < n, i < j -> M i j = 0) -> (det n M).natAbs = prodN n fun i => (M i i).natAbs
 | 0, _, _ => rfl
 | n + 1, M, h => by
  unfold det;rw [sm_one 0 (by omega) fun i hi hne => by
   rw [det_zrow n (minor M i) (a := 0) (by omega) fun j hj => by
    show M (skp i 0) (j + 1) = 0;rw [show skp i 0 = 0 by unfold skp; rw [if_pos (by omega)]];exact h 0 (by omega) (j + 1) (by omega) (by omega), Int.mul_zero]]
  rw [Int.natAbs_mul, Int.natAbs_mul, det_low n (minor M 0) fun i hi j hj hij => h _ (by unfold skp; split <;> omega) _ (by omega) (by unfold skp; split <;> omega), prodN_skip n _ 0 (by omega)];have : (sgn 0).natAbs = 1 := rfl;rw [this, Nat.one_mul];congr 1
structure Upr (k : Nat) (T : Mx) : Prop where
 out : ∀ i j, k <= i ∨ k <= j -> T i j = 0
 low : ∀ i < k, ∀ j < i, T i j = 0
 pos : ∀ i < k, 0 < T i i
def Pp (T : Mx) (i : Nat) : Nat := prodN i fun a => (T a a).natAbs
theorem Upr.pp {k : Nat} {T : Mx} (h : Upr k T) : ∀ i, i <= k -> 0 < Pp T i
 | 0, _ => Nat.one_pos
 | i + 1, hi => Nat.mul_pos (h.pp i (by omega)) (by show 0 < (T i i).natAbs; have := h.pos i (by omega); omega)
def trn0 (i : Nat) (v : Nat -> Int) : Nat -> Int := fun j => if j < i then v j else 0
section
variable {k k' s w : Nat} {T H : Mx} {l : Nat -> Nat}
theorem Upr.next (h : Upr k T) (hs : k <= s) (hH : Herm k' w H l) (hz : ∀ i, k' <= i -> ∀ j, H i j = 0) (hsp : SpEq s (tp T) k' H) : k' = k /\ (∀ i < k, l i = i) /\ Upr k H := by
 have hout : ∀ i, ∀ j, k <= j -> H i j = 0 := fun i j hj => by
  rcases Nat.lt_or_ge i k' with hi | hi
  · obtain ⟨x, hx⟩ := hsp.2 i hi;rw [hx];exact sm_zero fun t _ => by show x t * T j t = 0; rw [h.out j t (.inl hj), Int.mul_zero]
  · exact hz i hi j
 have hlk : ∀ i < k', l i < k := fun i hi => Nat.lt_of_not_le fun q => by
  have := hH.pos i hi;rw [hout i _ q] at this; omega
 have hge : ∀ i, i < k' -> i <= l i := by
  intro i;induction i with
  | zero => intro _; exact Nat.zero_le _
  | succ i ih => intro hi; have := ih (by omega); have := hH.inc i (i + 1) (by omega) hi; omega
 have h1 : k' <= k := Nat.le_of_not_lt fun q => by have := hge k q; have := hlk k q; omega
 have hdet : (det k (tp T)).natAbs = Pp T k := det_low k (tp T) fun i hi j hj hij => h.low j hj i hij;have h2 : k' = k := by
  refine Classical.byContradiction fun hne => ?_;have hdv := det_dvd k H k (Nat.le_refl _) (tp T) (fun i hi => (hsp.1 i (by omega)).more h1) (fun i h1 h2 => by omega);rw [det_zrow k H (a := k') (by omega) fun j _ => hz k' (Nat.le_refl _) j] at hdv;have := h.pp k (Nat.le_refl _);rw [<- hdet, Int.zero_dvd.1 hdv] at this;exact absurd this (by decide)
 subst h2;have hle : ∀ d i, i + d + 1 = k' -> l i <= i := by
  intro d;induction d with
  | zero => intro i hi; have := hlk i (by omega); omega
  | succ d ih => intro i hi; have := ih (i + 1) (by omega); have := hH.inc i (i + 1) (by omega) (by omega); omega
 have hl : ∀ i < k', l i = i := fun i hi => Nat.le_antisymm (hle (k' - i - 1) i (by omega)) (hge i hi);exact ⟨rfl, hl, ⟨fun i j hij => hij.elim (fun q => hz i q j) (hout i j), fun i hi j hj => hH.zero i hi j (by rw [hl i hi]; exact hj), fun i hi => by have := hH.pos i hi; rwa [hl i hi] at this⟩⟩
theorem Upr.dvd (h : Upr k T) (g : Upr k H) (hs : k <= s) (hsp : SpEq s (tp T) k H) {i : Nat} (hi : i <= k) : Pp H i ∣ Pp T i := by
 obtain ⟨N, hN⟩ : ∃ N : Mx, ∀ a, N a = trn0 i (tp T a) := ⟨_, fun _ => rfl⟩;obtain ⟨K, hK⟩ : ∃ K : Mx, ∀ a, K a = trn0 i (H a) := ⟨_, fun _ => rfl⟩;have hN' : ∀ a j, N a j = if j < i then T j a else 0 := fun a j => by rw [hN]; rfl
 have hK' : ∀ a j, K a j = if j < i then H a j else 0 := fun a j => by rw [hK]; rfl
 have hdv := det_dvd i K i (Nat.le_refl _) N (fun a ha => by
  obtain ⟨x, hx⟩ := hsp.1 a (by omega);refine ⟨x, fun j => ?_⟩;rw [hN'];split
  · rename_i hj;have h1 : T j a = sm k fun t => x t * H t j := hx j;obtain ⟨d, rfl⟩ : ∃ d, k = i + d := ⟨k - i, by omega⟩;rw [h1, sm_split i d, sm_zero (n := d) fun t ht => by rw [g.low (i + t) (by omega) j (by omega), Int.mul_zero], Int.add_zero];exact sm_congr fun t ht => by rw [hK', if_pos hj]
  · rename_i hj;exact (sm_zero fun t _ => by rw [hK', if_neg hj, Int.mul_zero]).symm) (fun a h1 h2 => by omega)
 have hdv := Int.natAbs_dvd_natAbs.2 hdv;rw [det_low i N fun a ha b hb hab => by rw [hN', if_pos hb]; exact h.low b (by omega) a hab,
  det_leads i K (fun a => a) (fun a ha => ha) (fun a _ b _ e => e) fun a ha j hj => by rw [hK', if_pos (by omega)]; exact g.low a (by omega) j hj] at hdv
 rw [prodN_congr i (f := fun a => (K a a).natAbs) (g := fun a => (H a a).natAbs) fun a ha => by rw [hK', if_pos ha], prodN_congr i (f := fun a => (N a a).natAbs) (g := fun a => (T a a).natAbs) fun a ha => by rw [hN', if_pos ha]] at hdv;exact hdv
theorem Upr.diag (h : Upr k T) (g : Upr k H) (hs : k <= s) (hH : Herm k w H l) (hl : ∀ i < k, l i = i) (hsp : SpEq s (tp T) k H) (he : ∀ a < k, H a a = T a a) : ∀ a j, a ≠ j -> H a j = 0 := by
 have hred : ∀ a j, a < j -> j < k -> 0 <= H a j /\ H a j < H j j := fun a j h1 h2 => by
  have := hH.red a j h1 h2
  rwa [hl j h2] at this
 have key : ∀ a, a < k -> ∀ j, a < j -> j < k -> H a j = 0 := by
  intro a;induction a using Nat.strongRecOn with
  | _ a ih =>
   intro ha;obtain ⟨x, hx⟩ := hsp.1 a (by omega);have hx : ∀ j, T j a = sm k fun t => x t * H t j := hx;have hxa : x a = 1 := by
    have h1 := hx a;rw [sm_one a ha fun b hb hne => by
     rcases Nat.lt_or_gt_of_ne hne with q | q
     · rw [ih b q hb a q ha, Int.mul_zero]
     · rw [g.low b hb a q, Int.mul_zero], he a ha] at h1
    have h2 := h.pos a ha;have h3 : x a * T a a = 1 * T a a := by omega
    exact Int.eq_of_mul_eq_mul_right (by omega) h3
   have hj : ∀ n j, j <= n -> a < j -> j < k -> H a j = 0 /\ x j = 0 := by
    intro n;induction n with
    | zero => intro j h1 h2; omega
    | succ n ihn =>
     intro j h1 h2 h3;have h4 := hx j;rw [h.low j h3 a h2, smTwo k a j _ ha h3 (by omega) fun b hb h5 h6 => by
      rcases Nat.lt_or_ge b j with q | q
      · rcases Nat.lt_or_ge b a with q2 | q2
        · rw [ih b q2 hb j (by omega) h3, Int.mul_zero]
        · rw [(ihn b (by omega) (by omega) hb).2, Int.zero_mul]
      · rw [g.low b hb j (by omega), Int.mul_zero], hxa, Int.one_mul] at h4
     have h5 := hred a j h2 h3;have h6 := g.pos j h3;have hx0 : x j = 0 := by
      rcases Int.lt_trichotomy (x j) 0 with q | q | q
      · have : x j * H j j <= (-1) * H j j := Int.mul_le_mul_of_nonneg_right (by omega) (by omega);omega
      · exact q
      · have : 1 * H j j <= x j * H j j := Int.mul_le_mul_of_nonneg_right (by omega) (by omega);omega
     rw [hx0] at h4;exact ⟨by omega, hx0⟩
   exact fun j h1 h2 => (hj j j (Nat.le_refl _) h1 h2).1
 intro a j hne;rcases Nat.lt_or_ge a k with h1 | h1
 · rcases Nat.lt_or_ge j k with h2 | h2
   · rcases Nat.lt_or_gt_of_ne hne with q | q
     · exact key a h1 j q h2
     · exact g.low a h1 j q
   · exact g.out a j (.inr h2)
 · exact g.out a j (.inl h1)
end
def mu (k : Nat) (T : Mx) : Nat := ((List.range (k + 1)).map (Pp T)).sum
theorem sum_le {f g : Nat -> Nat} : ∀ n, (∀ i < n, f i <= g i) -> ((List.range n).map f).sum <= ((List.range n).map g).sum
 | 0, _ => Nat.le_refl _
 | n + 1, h => by
  rw [List.range_succ, List.map_append, List.map_append, List.sum_append, List.sum_append];have h1 := sum_le n fun i hi => h i (by omega);have h2 := h n (by omega);simp only [List.map_cons, List.map_nil, List.sum_cons, List.sum_nil]; omega
theorem sum_lt {f g : Nat -> Nat} {m : Nat} (hm : f m < g m) : ∀ n, m < n -> (∀ i < n, f i <= g i) -> ((List.range n).map f).sum < ((List.range n).map g).sum
 | 0, h, _ => by omega
 | n + 1, h, hle => by
  rw [List.range_succ, List.map_append, List.map_append, List.sum_append, List.sum_append];have h2 := hle n (by omega);simp only [List.map_cons, List.map_nil, List.sum_cons, List.sum_nil];by_cases e : m = n
  · subst e;have h1 := sum_le m fun i hi => hle i (by omega);omega
  · have h1 := sum_lt hm n (by omega) fun i hi => hle i (by omega);omega
theorem Upr.less {k s w : Nat} {T H : Mx} {l : Nat -> Nat} (h : Upr k T) (g : Upr k H) (hs : k <= s) (hH : Herm k w H l) (hl : ∀ i < k, l i = i) (hsp : SpEq s (tp T) k H) : mu k H < mu k T ∨ mu k H <= mu k T /\ ∀ a j, a ≠ j -> H a j = 0 := by
 have hle : ∀ i < k + 1, Pp H i <= Pp T i := fun i hi => Nat.le_of_dvd (h.pp i (by omega)) (h.dvd g hs hsp (by omega));by_cases hall : ∀ i < k + 1, Pp H i = Pp T i
 · refine .inr ⟨sum_le _ hle, h.diag g hs hH hl hsp fun a ha => ?_⟩;have h1 := hall a (by omega);have h2 := hall (a + 1) (by omega);have h2 : Pp H a * (H a a).natAbs = Pp T a * (T a a).natAbs := h2;rw [h1] at h2;have h3 := Nat.eq_of_mul_eq_mul_left (h.pp a (by omega)) h2;have h4 := h.pos a ha;have h5 := g.pos a ha;omega
 · simp only [Classical.not_forall] at hall;obtain ⟨i, hi, hne⟩ := hall;have := hle i hi;exact .inl (sum_lt (m := i) (by omega) _ hi hle)
theorem prodN_get {f : Nat -> Nat} : ∀ (n : Nat), (∀ i < n, 0 < f i) -> ∀ i < n, f i <= prodN n f
 | 0, _, i, hi => by omega
 | n + 1, h, i, hi => by
  have hp : 0 < prodN n f := by
   have : ∀ m, m <= n -> 0 < prodN m f := by
    intro m;induction m with
    | zero => intro _; exact Nat.one_pos
    | succ m ih => intro hm; exact Nat.mul_pos (ih (by omega)) (h m (by omega))
   exact this n (Nat.le_refl _)
  show f i <= prodN n f * f n;by_cases e : i = n
  · subst e; exact Nat.le_mul_of_pos_left _ hp
  · exact Nat.le_trans (prodN_get n (fun i hi => h i (by omega)) i (by omega)) (Nat.le_mul_of_pos_right _ (h n (by omega)))
theorem Upr.bound {k w : Nat} {H : Mx} {l : Nat -> Nat} (g : Upr k H) (hH : Herm k w H l) (hl : ∀ i < k, l i = i) (i j : Nat) : 0 <= H i j /\ (H i j).natAbs <= Pp H k := by
 have hp : ∀ a < k, (H a a).natAbs <= Pp H k := prodN_get k fun a ha => by have := g.pos a ha; omega
 by_cases hi : i < k
 · by_cases hj : j < k
   · rcases Nat.lt_trichotomy i j with h | h | h
     · have h1 := hH.red i j h hj;rw [hl j hj] at h1;have h2 := hp j hj;omega
     · subst h;have := g.pos i hi;exact ⟨by omega, hp i hi⟩
     · rw [g.low i hi j h]; exact ⟨Int.le_refl _, Nat.zero_le _⟩
   · rw [g.out i j (.inr (by omega))]; exact ⟨Int.le_refl _, Nat.zero_le _⟩
 · rw [g.out i j (.inl (by omega))]; exact ⟨Int.le_refl _, Nat.zero_le _⟩
theorem det_bd {B : Nat} : ∀ (n : Nat) (M : Mx), (∀ i j, (M i j).natAbs <= B) -> (det n M).natAbs <= (n * B) ^ n
 | 0, _, _ => Nat.le_refl _
 | n + 1, M, h => by
  unfold det;have h1 : (sm (n + 1) fun i => sgn i * M i 0 * det n (minor M i)).natAbs <= (n + 1) * (B * (n * B) ^ n) := sm_abs fun i _ => by
   rw [Int.natAbs_mul, Int.natAbs_mul, show (sgn i).natAbs = 1 by unfold sgn; split <;> rfl, Nat.one_mul];exact Nat.mul_le_mul (h i 0) (det_bd n (minor M i) fun a b => h _ _)
  refine Nat.le_trans h1 ?_;rw [Nat.pow_succ, Nat.mul_comm ((( n + 1) * B) ^ n), Nat.mul_assoc (n + 1) B];exact Nat.mul_le_mul_left _ (Nat.mul_le_mul_left _ (Nat.pow_le_pow_left (Nat.mul_le_mul_right _ (by omega)) n))
theorem Upr.first {r c k k' : Nat} {A H G : Mx} {l l' : Nat -> Nat} (hH : Herm k c H l) (hz : ∀ i, k <= i -> ∀ j, H i j = 0) (hsp : SpEq r A k H) (hG : Herm k' r G l') (hzG : ∀ i, k' <= i -> ∀ j, G i j = 0) (hspG : SpEq c (tp H) k' G) :
 k' = k /\ (∀ i < k, l' i = i) /\ Upr k G /\ ∃ σ : Nat -> Nat, (∀ a < k, σ a < r) /\ Pp G k <= (det k fun a b => A (σ a) (l b)).natAbs := by
 have hout : ∀ i, ∀ j, k <= j -> G i j = 0 := fun i j hj => by
  rcases Nat.lt_or_ge i k' with hi | hi
  · obtain ⟨x, hx⟩ := hspG.2 i hi;rw [hx];exact sm_zero fun t _ => by show x t * H j t = 0; rw [hz j hj, Int.mul_zero]
  · exact hzG i hi j
 have hlk : ∀ i < k', l' i < k := fun i hi => Nat.lt_of_not_le fun q => by
  have := hG.pos i hi;rw [hout i _ q] at this; omega
 have hge : ∀ i, i < k' -> i <= l' i := by
  intro i;induction i with
  | zero => intro _; exact Nat.zero_le _
  | succ i ih => intro hi; have := ih (by omega); have := hG.inc i (i + 1) (by omega) hi; omega
 have h1 : k' <= k := Nat.le_of_not_lt fun q => by have := hge k q; have := hlk k q; omega
 obtain ⟨N, hN⟩ : ∃ N : Mx, ∀ a, N a = tp H (l a) := ⟨_, fun _ => rfl⟩;have hdetN : (det k N).natAbs = prodN k fun a => (H a (l a)).natAbs := by
  rw [det_low k N fun i hi j hj hij => by rw [hN]; exact hH.zero j hj (l i) (hH.inc i j hij hj)];exact prodN_congr k fun i _ => by rw [hN]; rfl
 have hpos : 0 < prodN k fun a => (H a (l a)).natAbs := by
  have : ∀ m, m <= k -> 0 < prodN m fun a => (H a (l a)).natAbs := by
   intro m;induction m with
   | zero => intro _; exact Nat.one_pos
   | succ m ih => intro hm; exact Nat.mul_pos (ih (by omega)) (by show 0 < (H m (l m)).natAbs; have := hH.pos m (by omega); omega)
  exact this k (Nat.le_refl _)
 have hdv := det_dvd k G k (Nat.le_refl _) N (fun i hi => by rw [hN]; exact (hspG.1 (l i) (hH.lt i hi)).more h1) (fun i h1 h2 => by omega);have h2 : k' = k := by
  refine Classical.byContradiction fun hne => ?_;rw [det_zrow k G (a := k') (by omega) fun j _ => hzG k' (Nat.le_refl _) j] at hdv;rw [<- hdetN, Int.zero_dvd.1 hdv] at hpos;exact absurd hpos (by decide)
 subst h2;have hle : ∀ d i, i + d + 1 = k' -> l' i <= i := by
  intro d;induction d with
  | zero => intro i hi; have := hlk i (by omega); omega
  | succ d ih => intro i hi; have := ih (i + 1) (by omega); have := hG.inc i (i + 1) (by omega) (by omega); omega
 have hl : ∀ i < k', l' i = i := fun i hi => Nat.le_antisymm (hle (k' - i - 1) i (by omega)) (hge i hi);have hU : Upr k' G := ⟨fun i j hij => hij.elim (fun q => hzG i q j) (hout i j), fun i hi j hj => hG.zero i hi j (by rw [hl i hi]; exact hj), fun i hi => by have := hG.pos i hi; rwa [hl i hi] at this⟩;refine ⟨rfl, hl, hU, ?_⟩;obtain ⟨σ, hσ, hne⟩ : ∃ σ : Nat -> Nat, (∀ a < k', σ a < r) /\ det k' (fun a b => A (σ a) (l b)) ≠ 0 := by
  refine Classical.byContradiction fun hc => ?_;have h4 := dvd_rows (k := k') (r := r) (x := 0) (A := fun i b => A i (l b)) (B := fun i b => H i (l b)) (fun σ hσ => by
   by_cases hq : det k' (fun a b => A (σ a) (l b)) = 0
   · rw [hq]; exact Int.dvd_zero _
   · exact absurd ⟨σ, hσ, hq⟩ hc) fun i hi => by
   obtain ⟨x, hx⟩ := hsp.2 i hi;exact ⟨x, fun b => hx (l b)⟩
  have h5 : (det k' fun a b => H a (l b)).natAbs = prodN k' fun a => (H a (l a)).natAbs := det_leads k' (fun a b => H a (l b)) (fun a => a) (fun a ha => ha) (fun a _ b _ e => e) fun a ha j hj => hH.zero a ha (l j) (hH.inc j a hj ha);rw [<- h5, Int.zero_dvd.1 h4] at hpos;exact absurd hpos (by decide)
 refine ⟨σ, hσ, ?_⟩;have h3 : (det k' fun a b => H a (l b)).natAbs = prodN k' fun a => (H a (l a)).natAbs := det_leads k' (fun a b => H a (l b)) (fun a => a) (fun a ha => ha) (fun a _ b _ e => e) fun a ha j hj => hH.zero a ha (l j) (hH.inc j a hj ha);have h4 := det_dvd k' (fun a b => H a (l b)) k' (Nat.le_refl _) (fun a b => A (σ a) (l b)) (fun i hi => by
  obtain ⟨x, hx⟩ := hsp.1 (σ i) (hσ i hi);exact ⟨x, fun b => hx (l b)⟩) (fun i h1 h2 => by omega)
 have h5 : Pp G k' ∣ prodN k' fun a => (H a (l a)).natAbs := by
  have := Int.natAbs_dvd_natAbs.2 hdv
  rwa [hdetN, det_leads k' G (fun a => a) (fun a ha => ha) (fun a _ b _ e => e) fun a ha j hj => hU.low a ha j hj] at this
 have h6 := Int.natAbs_dvd_natAbs.2 h4;rw [h3] at h6;exact Nat.le_of_dvd (Int.natAbs_pos.2 hne) (Nat.dvd_trans h5 h6)
def chPass : Nat -> List Nat -> Nat × List Nat
 | g, [] => (g, [])
 | g, y :: l => ((chPass (Nat.gcd g y) l).1, Nat.lcm g y :: (chPass (Nat.gcd g y) l).2)
theorem chPass_length : ∀ (l : List Nat) (g : Nat), (chPass g l).2.length = l.length
 | [], _ => rfl
 | y :: l, g => by simp [chPass, chPass_length l]
def chProg : List Nat -> List Nat
 | [] => []
 | x :: l => (chPass x l).1 :: chProg (chPass x l).2
termination_by l => l.length
decreasing_by simp [chPass_length]
def chPut : Nat -> List Nat -> List Nat
 | x, [] => [x]
 | x, c :: cs => Nat.gcd c x :: chPut (Nat.lcm c x) cs
def chRef (l : List Nat) : List Nat := l.foldl (fun c x => chPut x c) []
theorem chPass_append : ∀ (l : List Nat) (g x : Nat), chPass g (l ++ [x]) = (Nat.gcd (chPass g l).1 x, (chPass g l).2 ++ [Nat.lcm (chPass g l).1 x])
 | [], g, x => by simp [chPass]
 | y :: l, g, x => by
  simp only [List.cons_append, chPass, chPass_append l (Nat.gcd g y) x]
theorem chProg_append : ∀ (n : Nat) (l : List Nat) (x : Nat), l.length = n -> chProg (l ++ [x]) = chPut x (chProg l) := by
 intro n;induction n with
 | zero =>
  intro l x h;obtain rfl := List.eq_nil_of_length_eq_zero h;simp [chProg, chPass, chPut]
 | succ n ih =>
  intro l x h;cases l with
  | nil => simp at h
  | cons y l =>
   rw [List.cons_append, chProg, chPass_append, chProg];simp only [chPut];rw [ih (chPass y l).2 _ (by rw [chPass_length]; simpa using h)]
theorem chProg_ref (l : List Nat) : chProg l = chRef l := by
 have key : ∀ n (l : List Nat), l.length = n -> chProg l = chRef l := by
  intro n;induction n with
  | zero => intro l h; obtain rfl := List.eq_nil_of_length_eq_zero h; simp [chProg, chRef]
  | succ n ih =>
   intro l h;have hne : l ≠ [] := by intro e; subst e; simp at h
   have e := List.dropLast_concat_getLast hne;have hl : l.dropLast.length = n := by simp [h]
   rw [<- e, chProg_append _ _ _ rfl, ih _ hl];simp [chRef, List.foldl_append]
 exact key _ l rfl
def chFin (pre : List Nat) (g : Nat) (mid suf : List Nat) : List Nat := pre ++ (chPass g suf).1 :: chProg (mid ++ (chPass g suf).2)
theorem chFin_start (pre : List Nat) (x : Nat) (l : List Nat) : chFin pre x [] l = pre ++ chProg (x :: l) := by rw [chFin, chProg]; rfl
theorem chFin_step (pre : List Nat) (g y : Nat) (mid suf : List Nat) : chFin pre (Nat.gcd g y) (mid ++ [Nat.lcm g y]) suf = chFin pre g mid (y :: suf) := by simp [chFin, chPass]
theorem chFin_end (pre : List Nat) (g : Nat) (mid : List Nat) : chFin pre g mid [] = (pre ++ [g]) ++ chProg mid := by simp [chFin, chPass]
def prodNZ : List Nat -> Nat
 | [] => 1
 | x :: l => (if x = 0 then 1 else x) * prodNZ l
def Dv (P x : Nat) : Prop := x = 0 ∨ x ∣ P
theorem prodNZ_pos : ∀ l : List Nat, 0 < prodNZ l
 | [] => Nat.one_pos
 | x :: l => Nat.mul_pos (by split <;> omega) (prodNZ_pos l)
theorem Dv.of_mem : ∀ {l : List Nat} {x : Nat}, x ∈ l -> Dv (prodNZ l) x
 | y :: l, x, h => by
  rcases List.mem_cons.1 h with rfl | h
  · by_cases h0 : x = 0
    · exact .inl h0
    · rw [prodNZ, if_neg h0]; exact .inr (Nat.dvd_mul_right ..)
  · rcases Dv.of_mem h with h0 | h0
    · exact .inl h0
    · exact .inr (Nat.dvd_trans h0 (Nat.dvd_mul_left ..))
theorem Dv.gcd {P x y : Nat} (h : Dv P x) (k : Dv P y) : Dv P (Nat.gcd x y) := by
 rcases h with rfl | h
 · rw [Nat.gcd_zero_left]; exact k
 · exact .inr (Nat.dvd_trans (Nat.gcd_dvd_left ..) h)
theorem Dv.lcm {P x y : Nat} (h : Dv P x) (k : Dv P y) : Dv P (Nat.lcm x y) := by
 rcases h with rfl | h
 · rw [Nat.lcm_zero_left]; exact .inl rfl
 · rcases k with rfl | k
   · rw [Nat.lcm_zero_right]; exact .inl rfl
   · exact .inr (Nat.lcm_dvd h k)
theorem Dv.le {P x : Nat} (hP : 0 < P) (h : Dv P x) : x <= P := by
 rcases h with rfl | h
 · omega
 · exact Nat.le_of_dvd hP h
theorem prodNZ_lt (L : Nat) : ∀ l : List Nat, (∀ x ∈ l, x < W ^ L) -> prodNZ l <= W ^ (L * l.length)
 | [], _ => by simp [prodNZ]
 | x :: l, h => by
  have h1 := prodNZ_lt L l fun y hy => h y (List.mem_cons_of_mem _ hy);have h2 := h x (List.mem_cons_self ..);rw [prodNZ, List.length_cons, Nat.mul_succ, Nat.pow_add, Nat.mul_comm (W ^ (L * l.length))];refine Nat.mul_le_mul ?_ h1;split <;> omega
theorem chRef_length : ∀ l : List Nat, (chRef l).length = l.length := fun l => by
 rw [<- chProg_ref];have key : ∀ n (l : List Nat), l.length = n -> (chProg l).length = n := by
  intro n;induction n with
  | zero => intro l h; obtain rfl := List.eq_nil_of_length_eq_zero h; simp [chProg]
  | succ n ih =>
   intro l h;cases l with
   | nil => simp at h
   | cons x l =>
    rw [chProg, List.length_cons, ih (chPass x l).2 (by rw [chPass_length]; simpa using h)]
 exact key _ l rfl
theorem chPass_dv {P : Nat} : ∀ (l : List Nat) (g : Nat), Dv P g -> (∀ y ∈ l, Dv P y) -> Dv P (chPass g l).1 /\ ∀ y ∈ (chPass g l).2, Dv P y
 | [], g, hg, _ => ⟨hg, fun y hy => by cases hy⟩
 | x :: l, g, hg, h => by
  have hx := h x (List.mem_cons_self ..);obtain ⟨h1, h2⟩ := chPass_dv l (Nat.gcd g x) (hg.gcd hx) fun y hy => h y (List.mem_cons_of_mem _ hy);refine ⟨h1, fun y hy => ?_⟩;rcases List.mem_cons.1 hy with rfl | hy
  · exact hg.lcm hx
  · exact h2 y hy
theorem chProg_dv {P : Nat} {l : List Nat} (h : ∀ y ∈ l, Dv P y) : ∀ y ∈ chProg l, Dv P y := by
 have key : ∀ n (l : List Nat), l.length = n -> (∀ y ∈ l, Dv P y) -> ∀ y ∈ chProg l, Dv P y := by
  intro n;induction n with
  | zero => intro l h; obtain rfl := List.eq_nil_of_length_eq_zero h; simp [chProg]
  | succ n ih =>
   intro l h hd;cases l with
   | nil => simp at h
   | cons x l =>
    obtain ⟨h1, h2⟩ := chPass_dv l x (hd x (List.mem_cons_self ..)) fun y hy => hd y (List.mem_cons_of_mem _ hy);intro y hy;rw [chProg] at hy;rcases List.mem_cons.1 hy with rfl | hy
    · exact h1
    · exact ih _ (by rw [chPass_length]; simpa using h) h2 y hy
 exact key _ l rfl h
def Chn : List Nat -> Prop
 | [] => True
 | [_] => True
 | a :: b :: l => a ∣ b /\ Chn (b :: l)
theorem Chn.put : ∀ (c : List Nat), Chn c -> ∀ x, Chn (chPut x c)
 | [], _, _ => trivial
 | [a], _, x => ⟨Nat.dvd_trans (Nat.gcd_dvd_left ..) (Nat.dvd_lcm_left ..), trivial⟩
 | a :: b :: c, ⟨h1, h2⟩, x => by
  have ih := Chn.put (b :: c) h2 (Nat.lcm a x);simp only [chPut] at ih ⊢;exact ⟨Nat.dvd_gcd (Nat.dvd_trans (Nat.gcd_dvd_left ..) h1) (Nat.dvd_trans (Nat.gcd_dvd_left ..) (Nat.dvd_lcm_left ..)), ih⟩
theorem Chn.ref : ∀ (l : List Nat) (c : List Nat), Chn c -> Chn (l.foldl (fun c x => chPut x c) c)
 | [], _, h => h
 | x :: l, c, h => Chn.ref l _ (Chn.put c h x)
theorem chProg_chn (l : List Nat) : Chn (chProg l) := by rw [chProg_ref]; exact Chn.ref l [] trivial
theorem Chn.tail {x : Nat} {l : List Nat} (h : Chn (x :: l)) : Chn l := by
 cases l with
 | nil => trivial
 | cons y l => exact h.2
def extM (r0 r1 : Nat) (m0 m1 : Int) : Nat × Int :=
 if h : r1 = 0 then (r0, m0) else extM r1 (r0 % r1) m1 (m0 - ((r0 / r1 : Nat) : Int) * m1)
termination_by r1
decreasing_by exact Nat.mod_lt _ (Nat.pos_of_ne_zero h)
theorem extM_inv {A : Nat} {b : Int} : ∀ (r1 r0 : Nat) (m0 m1 : Int), EInv A b r0 r1 m0 m1 -> ∃ m', EInv A b (extM r0 r1 m0 m1).1 0 (extM r0 r1 m0 m1).2 m' := by
 intro r1;induction r1 using Nat.strongRecOn with
 | _ r1 ih =>
  intro r0 m0 m1 h;by_cases h0 : r1 = 0
  · subst h0; rw [extM]; exact ⟨m1, by simpa using h⟩
  · rw [extM, dif_neg h0];exact ih (r0 % r1) (Nat.mod_lt _ (Nat.pos_of_ne_zero h0)) _ _ _ (h.step h0)
def extG (a b : Int) : Int := if b = 0 then a.natAbs else (extM a.natAbs b.natAbs 1 0).1
def extX (a b : Int) : Int := if b = 0 then a.sign else (if a < 0 then -(extM a.natAbs b.natAbs 1 0).2 else (extM a.natAbs b.natAbs 1 0).2) % (b / extG a b)
def extY (a b : Int) : Int := if b = 0 then 0 else (extG a b - a * extX a b) / b
theorem ext_is (a b : Int) : ExtIs a b (extG a b) (extX a b) (extY a b) := by
 by_cases hb : b = 0
 · unfold ExtIs extG extX extY; simp [hb]
 · obtain ⟨m', h⟩ := extM_inv _ _ _ _ (EInv.start a.natAbs hb);obtain ⟨h1, h2⟩ := h.done hb;have hg : extG a b = ((extM a.natAbs b.natAbs 1 0).1 : Int) := by unfold extG; rw [if_neg hb]
   have h3 := (ext_last (m := if a < 0 then -(extM a.natAbs b.natAbs 1 0).2 else (extM a.natAbs b.natAbs 1 0).2) hb (hg.trans h1) (by rw [hg]; exact h2)).2.2.2;have hx : extX a b = (if a < 0 then -(extM a.natAbs b.natAbs 1 0).2 else (extM a.natAbs b.natAbs 1 0).2) % (b / extG a b) := by
    unfold extX; rw [if_neg hb]
   have hy : extY a b = (extG a b - a * extX a b) / b := by unfold extY; rw [if_neg hb]
   rw [hy, hx];exact h3
theorem ExtIs.unique {a b g x y g' x' y' : Int} (h : ExtIs a b g x y) (h' : ExtIs a b g' x' y') : g = g' /\ x = x' /\ y = y' := by
 unfold ExtIs at h h';by_cases hb : b = 0
 · rw [if_pos hb] at h h';obtain ⟨h1, h2, h3⟩ := h;obtain ⟨h1', h2', h3'⟩ := h';exact ⟨h1.trans h1'.symm, h2.trans h2'.symm, h3.trans h3'.symm⟩
 · rw [if_neg hb] at h h';obtain ⟨h1, h2, h3, h4⟩ := h;obtain ⟨h1', h2', h3', h4'⟩ := h';have hg : g = g' := h1.trans h1'.symm;subst hg;have hgb : g ∣ b := h1 ▸ Int.gcd_dvd_right ..;have hga : g ∣ a := h1 ▸ Int.gcd_dvd_left ..;obtain ⟨c, hc⟩ := hgb;obtain ⟨e, he⟩ := hga;have hg0 : g ≠ 0 := fun hh => hb (by rw [hc, hh, Int.zero_mul]);have hgp : 0 < g := by rw [h1] at hg0 ⊢; omega
   have k1 : e * x + c * y = 1 := by
    have : g * (e * x + c * y) = g * 1 := by rw [Int.mul_add, <- Int.mul_assoc, <- Int.mul_assoc, <- he, <- hc, h4, Int.mul_one]
    exact Int.eq_of_mul_eq_mul_left hg0 this
   have k2 : e * x' + c * y' = 1 := by
    have : g * (e * x' + c * y') = g * 1 := by rw [Int.mul_add, <- Int.mul_assoc, <- Int.mul_assoc, <- he, <- hc, h4', Int.mul_one]
    exact Int.eq_of_mul_eq_mul_left hg0 this
   have hcb : (b.natAbs : Int) = c.natAbs * g := by
    rw [hc, Int.natAbs_mul, Int.natCast_mul, Int.natAbs_of_nonneg (Int.le_of_lt hgp), Int.mul_comm]
   rw [hcb] at h3 h3';have hx : x < c.natAbs := Int.lt_of_mul_lt_mul_right h3 (Int.le_of_lt hgp);have hx' : x' < c.natAbs := Int.lt_of_mul_lt_mul_right h3' (Int.le_of_lt hgp);have hdv : c ∣ x - x' := by
    have e1 : x - x' = c * (x * y' - x' * y) := by
     have e2 : x * (e * x' + c * y') - x' * (e * x + c * y) = x - x' := by rw [k1, k2]; omega
     rw [<- e2];simp only [Int.mul_add, Int.mul_sub];have e3 : x * (e * x') = x' * (e * x) := by rw [Int.mul_left_comm, Int.mul_left_comm x' e x, Int.mul_comm x x']
     have e4 : x * (c * y') = c * (x * y') := Int.mul_left_comm ..;have e5 : x' * (c * y) = c * (x' * y) := Int.mul_left_comm ..;rw [e3, e4, e5]; omega
    exact ⟨_, e1⟩
   have hxx : x = x' := by
    have hn := Int.natAbs_dvd_natAbs.2 hdv;have hlt : (x - x').natAbs < c.natAbs := by omega
    have := Nat.eq_zero_of_dvd_of_lt hn hlt;omega
   subst hxx;refine ⟨rfl, rfl, ?_⟩;have : b * y = b * y' := by omega
   exact Int.eq_of_mul_eq_mul_left hb this
inductive Eqv (r c : Nat) : Mx -> Mx -> Prop where
 | refl (A : Mx) : Eqv r c A A
 | rows {A B : Mx} (h : SpEq r A r B) : Eqv r c A B
 | cols {A B : Mx} (h : SpEq c (tp A) c (tp B)) : Eqv r c A B
 | trans {A B C : Mx} (h : Eqv r c A B) (k : Eqv r c B C) : Eqv r c A C
theorem Eqv.sm {r c : Nat} {A B : Mx} (h : Eqv r c A B) : Sm r c A B := by
 induction h with
 | refl A => exact Sm.refl _ _ A
 | rows h => exact Sm.rows h
 | cols h => exact Sm.cols h
 | trans _ _ h1 h2 => exact h1.trans h2
def blk (r c : Nat) (A B : Mx) : Mx := fun i j => if i < r then (if j < c then A i j else 0) else if j < c then 0 else B (i - r) (j - c)
theorem blk_tp (r c : Nat) (A B : Mx) : Go.Proofs.Ytllkjlcdcbilcaa.tp (blk r c A B) = blk c r (Go.Proofs.Ytllkjlcdcbilcaa.tp A) (Go.Proofs.Ytllkjlcdcbilcaa.tp B) := by
 funext i j;unfold Go.Proofs.Ytllkjlcdcbilcaa.tp blk;by_cases h1 : i < c <;> by_cases h2 : j < r <;> simp [h1, h2]
theorem blk_sp1 {r s c : Nat} {A A' B : Mx} (h : ∀ i < r, Sp r A' (A i)) : ∀ i < r + s, Sp (r + s) (blk r c A' B) (blk r c A B i) := fun i hi => by
 by_cases h1 : i < r
 · obtain ⟨x, hx⟩ := h i h1;refine ⟨fun t => if t < r then x t else 0, fun j => ?_⟩;rw [sm_split r s, sm_zero (n := s) fun t _ => by show (if r + t < r then x (r + t) else 0) * _ = 0; rw [if_neg (by omega), Int.zero_mul], Int.add_zero];unfold blk;rw [if_pos h1];by_cases h2 : j < c
   · rw [if_pos h2, hx];exact sm_congr fun t ht => by show x t * A' t j = (if t < r then x t else 0) * _; rw [if_pos ht, if_pos ht, if_pos h2]
   · rw [if_neg h2];exact (sm_zero fun t ht => by show (if t < r then x t else 0) * (if t < r then (if j < c then A' t j else 0) else _) = 0; rw [if_pos ht, if_pos ht, if_neg h2, Int.mul_zero]).symm
 · have e : blk r c A B i = blk r c A' B i := by funext j; unfold blk; rw [if_neg h1, if_neg h1]
   rw [e]; exact Sp.row _ hi
theorem blk_sp2 {r s c : Nat} {A B B' : Mx} (h : ∀ i < s, Sp s B' (B i)) : ∀ i < r + s, Sp (r + s) (blk r c A B') (blk r c A B i) := fun i hi => by
 by_cases h1 : i < r
 · have e : blk r c A B i = blk r c A B' i := by funext j; unfold blk; rw [if_pos h1, if_pos h1]
   rw [e]; exact Sp.row _ hi
 · obtain ⟨x, hx⟩ := h (i - r) (by omega);refine ⟨fun t => if t < r then 0 else x (t - r), fun j => ?_⟩;rw [sm_split r s, sm_zero (n := r) fun t ht => by show (if t < r then 0 else x (t - r)) * _ = 0; rw [if_pos ht, Int.zero_mul], Int.zero_add];unfold blk;rw [if_neg h1];by_cases h2 : j < c
   · rw [if_pos h2];exact (sm_zero fun t _ => by show _ * (if r + t < r then _ else if j < c then (0 : Int) else _) = 0; rw [if_neg (by omega : ¬ r + t < r), if_pos h2, Int.mul_zero]).symm
   · rw [if_neg h2, hx];exact sm_congr fun t _ => by
      show x t * B' t (j - c) = (if r + t < r then 0 else x (r + t - r)) * (if r + t < r then _ else if j < c then (0 : Int) else B' (r + t - r) (j - c));rw [if_neg (by omega), if_neg (by omega), if_neg h2, Nat.add_sub_cancel_left]
theorem Eqv.blk1 {r s c t : Nat} {A A' : Mx} (B : Mx) (h : Eqv r c A A') : Eqv (r + s) (c + t) (blk r c A B) (blk r c A' B) := by
 induction h with
 | refl A => exact .refl _
 | rows h => exact .rows ⟨blk_sp1 h.1, blk_sp1 h.2⟩
 | cols h =>
  refine .cols ?_;rw [blk_tp, blk_tp];exact ⟨blk_sp1 h.1, blk_sp1 h.2⟩
 | trans _ _ h1 h2 => exact h1.trans h2
theorem Eqv.blk2 {r s c t : Nat} {B B' : Mx} (A : Mx) (h : Eqv s t B B') : Eqv (r + s) (c + t) (blk r c A B) (blk r c A B') := by
 induction h with
 | refl A => exact .refl _
 | rows h => exact .rows ⟨blk_sp2 h.1, blk_sp2 h.2⟩
 | cols h =>
  refine .cols ?_;rw [blk_tp, blk_tp];exact ⟨blk_sp2 h.1, blk_sp2 h.2⟩
 | trans _ _ h1 h2 => exact h1.trans h2
theorem sp_mix {r i j : Nat} {A B : Mx} {p q u v : Int} (hi : i < r) (hj : j < r) (hij : i ≠ j) (hd : p * v - q * u = 1) (h0 : ∀ t, t ≠ i -> t ≠ j -> B t = A t) (h1 : ∀ a, B i a = p * A i a + q * A j a) (h2 : ∀ a, B j a = u * A i a + v * A j a) : SpEq r A r B := by
 have k1 : ∀ a, A i a = v * B i a + (-q) * B j a := fun a => by
  have e : v * B i a + (-q) * B j a = (p * v - q * u) * A i a := by
   rw [h1, h2, Int.mul_add, Int.mul_add, Int.sub_mul, <- Int.mul_assoc, <- Int.mul_assoc, <- Int.mul_assoc, <- Int.mul_assoc, Int.mul_comm v p, Int.mul_comm v q, Int.neg_mul, Int.neg_mul, Int.neg_mul, Int.neg_mul]; omega
  rw [e, hd, Int.one_mul]
 have k2 : ∀ a, A j a = (-u) * B i a + p * B j a := fun a => by
  have e : (-u) * B i a + p * B j a = (p * v - q * u) * A j a := by
   rw [h1, h2, Int.mul_add, Int.mul_add, Int.sub_mul, <- Int.mul_assoc, <- Int.mul_assoc, <- Int.mul_assoc, <- Int.mul_assoc, Int.mul_comm q u, Int.mul_comm p u, Int.neg_mul, Int.neg_mul, Int.neg_mul, Int.neg_mul]; omega
  rw [e, hd, Int.one_mul]
 constructor
 · intro t ht;by_cases e1 : t = i
   · subst e1;exact (((Sp.row B hi).smul v).add ((Sp.row B hj).smul (-q))).congr k1
   · by_cases e2 : t = j
     · subst e2;exact (((Sp.row B hi).smul (-u)).add ((Sp.row B hj).smul p)).congr k2
     · rw [<- h0 t e1 e2]; exact Sp.row B ht
 · intro t ht;by_cases e1 : t = i
   · subst e1;exact (((Sp.row A hi).smul p).add ((Sp.row A hj).smul q)).congr h1
   · by_cases e2 : t = j
     · subst e2;exact (((Sp.row A hi).smul u).add ((Sp.row A hj).smul v)).congr h2
     · rw [h0 t e1 e2]; exact Sp.row A ht
theorem gcd_lin (a b : Nat) (h : Nat.gcd a b ≠ 0) : ∃ (x y : Int) (p q : Nat), a = Nat.gcd a b * p /\ b = Nat.gcd a b * q /\ (p : Int) * x + q * y = 1 := by
 obtain ⟨p, hp⟩ := Nat.gcd_dvd_left a b;obtain ⟨q, hq⟩ := Nat.gcd_dvd_right a b;by_cases hb : b = 0
 · subst hb;rw [Nat.gcd_zero_right] at hp hq h;exact ⟨1, 0, 1, 0, by rw [Nat.gcd_zero_right, Nat.mul_one], by simp, by simp⟩
 have he := ext_is (a : Int) (b : Int);unfold ExtIs at he;rw [if_neg (by omega)] at he;obtain ⟨hg, -, -, hab⟩ := he;have hg : extG (a : Int) (b : Int) = (Nat.gcd a b : Int) := hg;rw [hg] at hab;refine ⟨extX a b, extY a b, p, q, hp, hq, ?_⟩;have h2 : (Nat.gcd a b : Int) * ((p : Int) * extX a b + q * extY a b) = (Nat.gcd a b : Int) * 1 := by
  rw [Int.mul_one, Int.mul_add, <- Int.mul_assoc, <- Int.mul_assoc, <- Int.natCast_mul, <- Int.natCast_mul, <- hp, <- hq];exact hab
 exact Int.eq_of_mul_eq_mul_left (by omega) h2
theorem dg_pair {r c i j : Nat} {d e : Nat -> Nat} (hi : i < r) (hj : j < r) (hic : i < c) (hjc : j < c) (hij : i ≠ j) (h0 : ∀ t, t ≠ i -> t ≠ j -> e t = d t) (h1 : e i = Nat.gcd (d i) (d j)) (h2 : e j = Nat.lcm (d i) (d j)) : Eqv r c (Dgm d) (Dgm e) := by
 by_cases hg : Nat.gcd (d i) (d j) = 0
 · have hz := Nat.gcd_eq_zero_iff.1 hg;have he : e = d := by
    funext t;by_cases e1 : t = i
    · subst e1; rw [h1, hz.1, hz.2]; rfl
    · by_cases e2 : t = j
      · subst e2; rw [h2, hz.1, hz.2]; rfl
      · exact h0 t e1 e2
   rw [he]; exact .refl _
 · obtain ⟨x, y, p, q, hp, hq, hxy⟩ := gcd_lin (d i) (d j) hg;obtain ⟨g, hgg⟩ : ∃ g, Nat.gcd (d i) (d j) = g := ⟨_, rfl⟩;have hl : Nat.lcm (d i) (d j) = g * p * q := by
    have h3 := Nat.gcd_mul_lcm (d i) (d j);rw [hgg] at h3 hp hq hg;have h4 : g * Nat.lcm (d i) (d j) = g * (g * p * q) := by
     rw [h3, hp, hq, Nat.mul_assoc g p q, Nat.mul_assoc g p, Nat.mul_left_comm p g q]
    exact Nat.eq_of_mul_eq_mul_left (Nat.pos_of_ne_zero hg) h4
   rw [hgg] at hp hq h1 hg;obtain ⟨M1, hM1⟩ : ∃ M : Mx, ∀ a b, M a b = if a = i then Dgm d i b + Dgm d j b else Dgm d a b := ⟨fun a b => if a = i then Dgm d i b + Dgm d j b else Dgm d a b, fun _ _ => rfl⟩;obtain ⟨M2, hM2⟩ : ∃ M : Mx, ∀ a b, M a b = if b = i then x * M1 a i + y * M1 a j else if b = j then (-(q : Int)) * M1 a i + p * M1 a j else M1 a b := ⟨fun a b => if b = i then x * M1 a i + y * M1 a j else if b = j then (-(q : Int)) * M1 a i + p * M1 a j else M1 a b, fun _ _ => rfl⟩;have s1 : SpEq r (Dgm d) r M1 := sp_mix (p := 1) (q := 1) (u := 0) (v := 1) hi hj hij (by omega) (fun t e1 _ => by funext b; rw [hM1, if_neg e1]) (fun b => by rw [hM1, if_pos rfl]; omega) (fun b => by rw [hM1, if_neg (fun e => hij e.symm)]; omega);have s2 : SpEq c (Go.Proofs.Ytllkjlcdcbilcaa.tp M1) c (Go.Proofs.Ytllkjlcdcbilcaa.tp M2) := sp_mix (i := i) (j := j) (p := x) (q := y) (u := -(q : Int)) (v := p) hic hjc hij (by rw [Int.mul_neg, Int.mul_comm x, Int.mul_comm y]; omega)
    (fun t e1 e2 => by funext a; show M2 a t = M1 a t; rw [hM2, if_neg e1, if_neg e2]) (fun a => by show M2 a i = _; rw [hM2, if_pos rfl]; rfl) (fun a => by show M2 a j = _; rw [hM2, if_neg (fun e => hij e.symm), if_pos rfl]; rfl)
   have a1 : M1 i i = (d i : Int) := by rw [hM1, if_pos rfl]; unfold Dgm; rw [if_pos rfl, if_neg (fun e => hij e.symm)]; omega
   have a2 : M1 i j = (d j : Int) := by rw [hM1, if_pos rfl]; unfold Dgm; rw [if_neg hij, if_pos rfl]; omega
   have a3 : M1 j i = 0 := by rw [hM1, if_neg (fun e => hij e.symm)]; unfold Dgm; rw [if_neg (fun e => hij e.symm)]
   have a4 : M1 j j = (d j : Int) := by rw [hM1, if_neg (fun e => hij e.symm)]; unfold Dgm; rw [if_pos rfl]
   have b1 : M2 i i = (g : Int) := by
    rw [hM2, if_pos rfl, a1, a2, hp, hq, Int.natCast_mul, Int.natCast_mul];have : x * ((g : Int) * p) + y * ((g : Int) * q) = g * ((p : Int) * x + q * y) := by
     rw [Int.mul_add, Int.mul_left_comm x, Int.mul_left_comm y, Int.mul_comm x, Int.mul_comm y]
    rw [this, hxy, Int.mul_one]
   have b2 : M2 i j = 0 := by
    rw [hM2, if_neg (fun e => hij e.symm), if_pos rfl, a1, a2, hp, hq, Int.natCast_mul, Int.natCast_mul, Int.neg_mul, Int.mul_left_comm (q : Int), Int.mul_left_comm (p : Int) (g : Int), Int.mul_comm (q : Int) p]; omega
   have b3 : M2 j i = y * (g * q) := by rw [hM2, if_pos rfl, a3, a4, hq, Int.natCast_mul]; omega
   have b4 : M2 j j = (g : Int) * p * q := by
    rw [hM2, if_neg (fun e => hij e.symm), if_pos rfl, a3, a4, hq, Int.natCast_mul, Int.mul_zero, Int.zero_add, Int.mul_left_comm, Int.mul_assoc]
   have bo : ∀ a b, a ≠ i -> a ≠ j -> M2 a b = Dgm d a b := fun a b e1 e2 => by
    have z1 : M1 a i = 0 := by rw [hM1, if_neg e1]; unfold Dgm; rw [if_neg e1]
    have z2 : M1 a j = 0 := by rw [hM1, if_neg e1]; unfold Dgm; rw [if_neg e2]
    rw [hM2, z1, z2];by_cases q1 : b = i
    · rw [if_pos q1, q1]; unfold Dgm; rw [if_neg e1]; simp
    · by_cases q2 : b = j
      · rw [if_neg q1, if_pos q2, q2]; unfold Dgm; rw [if_neg e2]; simp
      · rw [if_neg q1, if_neg q2, hM1, if_neg e1]
   have bi : ∀ b, b ≠ i -> b ≠ j -> M2 i b = 0 /\ M2 j b = 0 := fun b e1 e2 => by
    constructor
    · rw [hM2, if_neg e1, if_neg e2, hM1, if_pos rfl]; unfold Dgm; rw [if_neg (fun e => e1 e.symm), if_neg (fun e => e2 e.symm)]; rfl
    · rw [hM2, if_neg e1, if_neg e2, hM1, if_neg (fun e => hij e.symm)]; unfold Dgm; rw [if_neg (fun e => e2 e.symm)]
   have s3 : SpEq r M2 r (Dgm e) := sp_mix (i := i) (j := j) (p := 1) (q := 0) (u := -(y * q)) (v := 1) hi hj hij (by omega) (fun t e1 e2 => by
    funext b; rw [bo t b e1 e2]; unfold Dgm; rw [h0 t e1 e2]) (fun b => by
    by_cases q1 : b = i
    · rw [q1, b1]; unfold Dgm; rw [if_pos rfl, h1]; omega
    · unfold Dgm; rw [if_neg (fun e => q1 e.symm)];by_cases q2 : b = j
      · rw [q2, b2]; omega
      · rw [(bi b q1 q2).1]; omega) (fun b => by
    by_cases q1 : b = i
    · rw [q1, b1, b3]; unfold Dgm; rw [if_neg (fun e => hij e.symm), Int.neg_mul, Int.mul_assoc, Int.mul_comm (q : Int) g]; omega
    · by_cases q2 : b = j
      · rw [q2, b2, b4]; unfold Dgm; rw [if_pos rfl, h2, hl, Int.natCast_mul, Int.natCast_mul]; omega
      · unfold Dgm; rw [if_neg (fun e => q2 e.symm), (bi b q1 q2).1, (bi b q1 q2).2]; omega)
   exact .trans (.rows s1) (.trans (.cols s2) (.rows s3))
def Dl (l : List Nat) : Mx := Dgm fun i => l.getD i 0
theorem dl_pair {r c : Nat} (pre mid suf : List Nat) (x y : Nat) (hr : (pre ++ x :: mid ++ y :: suf).length <= r) (hc : (pre ++ x :: mid ++ y :: suf).length <= c) : Eqv r c (Dl (pre ++ x :: mid ++ y :: suf)) (Dl (pre ++ Nat.gcd x y :: mid ++ Nat.lcm x y :: suf)) := by
 simp only [List.length_append, List.length_cons] at hr hc;have g1 : ∀ (x y : Nat) t, (pre ++ x :: mid ++ y :: suf).getD t 0 = if t < pre.length then pre.getD t 0 else if t = pre.length then x else if t < pre.length + 1 + mid.length then mid.getD (t - pre.length - 1) 0 else if t = pre.length + 1 + mid.length then y else suf.getD (t - pre.length - 1 - mid.length - 1) 0 := fun x y t => by
  simp only [List.getD_eq_getElem?_getD, List.append_assoc, List.cons_append, List.getElem?_append];by_cases h1 : t < pre.length
  · rw [if_pos h1, if_pos h1]
  · rw [if_neg h1, if_neg h1];by_cases h2 : t = pre.length
    · subst h2; simp
    · obtain ⟨u, hu⟩ : ∃ u, t - pre.length = u + 1 := ⟨t - pre.length - 1, by omega⟩;rw [if_neg h2, hu, List.getElem?_cons_succ, List.getElem?_append];by_cases h3 : u < mid.length
      · rw [if_pos h3, if_pos (by omega)]; simp
      · rw [if_neg h3, if_neg (by omega)];by_cases h4 : u = mid.length
        · subst h4; rw [if_pos (by omega)]; simp
        · obtain ⟨v, hv⟩ : ∃ v, u - mid.length = v + 1 := ⟨u - mid.length - 1, by omega⟩;rw [if_neg (by omega), hv, List.getElem?_cons_succ, show u + 1 - 1 - mid.length - 1 = v by omega]
 refine dg_pair (i := pre.length) (j := pre.length + 1 + mid.length) (by omega) (by omega) (by omega) (by omega) (by omega) (fun t e1 e2 => ?_) ?_ ?_
 · show (pre ++ Nat.gcd x y :: mid ++ Nat.lcm x y :: suf).getD t 0 = (pre ++ x :: mid ++ y :: suf).getD t 0;rw [g1, g1, if_neg e1, if_neg e1, if_neg e2, if_neg e2]
 · show (pre ++ Nat.gcd x y :: mid ++ Nat.lcm x y :: suf).getD pre.length 0 = Nat.gcd ((pre ++ x :: mid ++ y :: suf).getD pre.length 0) ((pre ++ x :: mid ++ y :: suf).getD (pre.length + 1 + mid.length) 0);rw [g1, g1, g1, if_neg (by omega), if_pos rfl, if_neg (by omega), if_pos rfl, if_neg (by omega), if_neg (by omega), if_neg (by omega), if_pos rfl]
 · show (pre ++ Nat.gcd x y :: mid ++ Nat.lcm x y :: suf).getD (pre.length + 1 + mid.length) 0 = Nat.lcm ((pre ++ x :: mid ++ y :: suf).getD pre.length 0) ((pre ++ x :: mid ++ y :: suf).getD (pre.length + 1 + mid.length) 0);rw [g1, g1, g1, if_neg (by omega), if_neg (by omega), if_neg (by omega), if_pos rfl, if_neg (by omega), if_pos rfl, if_neg (by omega), if_neg (by omega), if_neg (by omega), if_pos rfl]
theorem dl_pass {r c : Nat} (pre : List Nat) : ∀ (suf mid : List Nat) (x : Nat), (pre ++ x :: mid ++ suf).length <= r -> (pre ++ x :: mid ++ suf).length <= c -> Eqv r c (Dl (pre ++ x :: mid ++ suf)) (Dl (pre ++ (chPass x suf).1 :: mid ++ (chPass x suf).2))
 | [], mid, x, _, _ => .refl _
 | y :: suf, mid, x, hr, hc => by
  refine .trans (dl_pair pre mid suf x y hr hc) ?_;have e : ∀ (a b : Nat) (l : List Nat), pre ++ a :: mid ++ b :: l = pre ++ a :: (mid ++ [b]) ++ l := fun a b l => by simp
  rw [e];have := dl_pass pre suf (mid ++ [Nat.lcm x y]) (Nat.gcd x y) (by rw [<- e]; simpa using hr) (by rw [<- e]; simpa using hc);rw [chPass, e];exact this
theorem dl_chain {r c : Nat} : ∀ (n : Nat) (l pre : List Nat), l.length = n -> (pre ++ l).length <= r -> (pre ++ l).length <= c -> Eqv r c (Dl (pre ++ l)) (Dl (pre ++ chProg l))
 | 0, l, pre, h, _, _ => by
  obtain rfl := List.eq_nil_of_length_eq_zero h;rw [chProg]; exact .refl _
 | n + 1, l, pre, h, hr, hc => by
  cases l with
  | nil => simp at h
  | cons x l =>
   have h1 := dl_pass pre l [] x (by simpa using hr) (by simpa using hc);have e : ∀ (a : Nat) (l : List Nat), pre ++ [a] ++ l = pre ++ a :: l := fun a l => by simp
   rw [chProg];refine .trans (B := Dl (pre ++ (chPass x l).1 :: (chPass x l).2)) (by simpa using h1) ?_;have hl := chPass_length l x;have h2 := dl_chain n (chPass x l).2 (pre ++ [(chPass x l).1]) (by rw [hl]; simpa using h) (by simp [hl] at hr ⊢; omega) (by simp [hl] at hc ⊢; omega);rw [e, e] at h2;exact h2
theorem chn_get {l : List Nat} (h : Chn l) : ∀ a b, a <= b -> (fun i => if i < l.length then l.getD i 0 else 0) a ∣ (fun i => if i < l.length then l.getD i 0 else 0) b := by
 induction l with
 | nil => intro a b _; simp
 | cons x l ih =>
  intro a b hab;have h3 : ∀ {l : List Nat} {x : Nat}, Chn (x :: l) -> ∀ y ∈ l, x ∣ y := by
   intro l;induction l with
   | nil => intro x _ y hy; cases hy
   | cons z l ih2 =>
    rintro x ⟨q1, q2⟩ y hy;rcases List.mem_cons.1 hy with rfl | hy
    · exact q1
    · exact Nat.dvd_trans q1 (ih2 q2 y hy)
  cases b with
  | zero =>
   obtain rfl : a = 0 := by omega
   exact Nat.dvd_refl _
  | succ b =>
   cases a with
   | zero =>
    show (if 0 < (x :: l).length then (x :: l).getD 0 0 else 0) ∣ (if b + 1 < (x :: l).length then (x :: l).getD (b + 1) 0 else 0);by_cases hb : b + 1 < (x :: l).length
    · rw [if_pos hb, if_pos (by omega)];have hb' : b < l.length := by simpa using hb
      exact h3 h _ (by simp [hb'])
    · rw [if_neg hb]; exact Nat.dvd_zero _
   | succ a =>
    have := ih h.tail a b (by omega);simpa using this
theorem smith_chain {r c : Nat} {A : Mx} {l m : List Nat} (hl : l.length = min r c) (hm : m.length = min r c) (h1 : Sm r c A (Dl l)) (h2 : Sm r c A (Dl m)) (c1 : Chn l) (c2 : Chn m) : l = m := by
 have e : ∀ l : List Nat, (fun i => if i < l.length then l.getD i 0 else 0) = fun i => l.getD i 0 := fun l => by
  funext i;by_cases h : i < l.length
  · rw [if_pos h]
  · rw [if_neg h]; simp [h]
 have k1 := chn_get c1;have k2 := chn_get c2;rw [e] at k1 k2;have := smith_unique (r := r) (c := c) (n := min r c) (Nat.min_le_left ..) (Nat.min_le_right ..) k1 k2 (h1.symm.trans h2);refine List.ext_getElem (hl.trans hm.symm) fun i q1 q2 => ?_;have := this i (by omega);simpa [q1, q2] using this
end Go.Proofs.Ytllkjlcdcbilcaa
namespace Go.Proofs.Ytllkjlcdcbilcaa
open Go.RowKit
section
variable {P : Program} {Q : Exit -> Act -> World -> Prop} {ds : List Deferred} {S0 : Nat -> Prop} {w0 : World} {n : Nat} {ls : List (Nat × Value)} {es : List En} {c : Code}
theorem wordW {ws : List Nat} {b o : Nat} (i : Nat) (hm : En.wat (some ⟨b, o, none⟩) ws ∈ es) (hi : i < ws.length) (k : CWm ds P n S0 w0 c Q ls (.cell ⟨b, o + i, none⟩ (.int .u64 ((gw ws i : Nat) : Int)) :: es)) : CWm ds P n S0 w0 c Q ls es := fun a w ha hw => by
 have hA : WAt w (some ⟨b, o, none⟩) ws := hw.all _ hm;obtain ⟨b', o', e, hb, hc⟩ := hA.2 (by omega);cases e;refine k a w ha (hw.cons (e := .cell ⟨b, o + i, none⟩ (.int .u64 ((gw ws i : Nat) : Int))) (hc i hi) (fun e' he' => ⟨(fun h => nomatch h), fun hwr g hg hg' => ?_⟩) (fun h => nomatch h));have hg' : g = b := hg';subst hg';obtain ⟨l1, l2, rfl⟩ := List.append_of_mem hm;have hS : (En.wat (some ⟨g, o, none⟩) ws).S g := ⟨by omega, o, rfl⟩;have hp := List.pairwise_append.1 hw.sep;rcases List.mem_append.1 he' with h | h
 · exact (hp.2.2 e' h _ (List.mem_cons_self ..)).1 hwr g hg hS
 · rcases List.mem_cons.1 h with rfl | h
   · cases hwr
   · exact ((List.pairwise_cons.1 hp.2.1).1 e' h).2 hwr g hg hS
theorem pickW {es' : List En} (k : CWm ds P n S0 w0 c Q ls es') (h : Pk es es' := by repeat (first | exact Pk.n | refine Pk.c (by repeat (first | exact Rm.z | apply Rm.s)) ?_)) : CWm ds P n S0 w0 c Q ls es := fun a w ha hw => k a w ha (hw.pick h)
end
section
variable {P : Program} {ops : Array Oper} {Q : Exit -> Act -> World -> Prop} {ds : List Deferred} {S0 : Nat -> Prop} {w0 : World} {E0 : List En} {hd : List (List Nat)} {n j s : Nat} {l : List Nat} {G E : List En} {ls : List (Nat × Value)} {op : Op} {ty : TypeId} {pos : String} {af : Array Edge} {v v' : Value}
theorem dE (hv : v' = v) (k : RWm ds ⟨P, ops, Q, S0, w0, E0, []⟩ n l G E ((s, v) :: ls))
 (ho : ops[j]? = some ⟨some s, op, ty, pos, af, none⟩ := by rfl) (hk : (isDet op && chkO ls op && Nat.blt s n) = true := by kernel_rfl)
 (hr : ∀ w, (isLd op = true -> Fr S0 w0 w E0) -> (execOp (evl ls) ⟨some s, op, ty, pos, af, none⟩).run P w = .ok (.value v') w := by intro w H; (first | (have c := (H rfl).c; try simp only [celN, cl, List.cons_append, List.nil_append] at c) | skip); clear H; go_simp <;> with_reducible rfl) : RWm ds ⟨P, ops, Q, S0, w0, E0, []⟩ n (j :: l) G E ls :=
 dW (v := v) k ho hk (by rw [<- hv]; exact hr)
theorem dB (b : Bool) (k : RWm ds ⟨P, ops, Q, S0, w0, E0, []⟩ n l G E ((s, .bool b) :: ls))
 (ho : ops[j]? = some ⟨some s, op, ty, pos, af, none⟩ := by rfl) (hk : (isDet op && chkO ls op && Nat.blt s n) = true := by kernel_rfl)
 (hr : ∀ w, (isLd op = true -> Fr S0 w0 w E0) -> (execOp (evl ls) ⟨some s, op, ty, pos, af, none⟩).run P w = .ok (.value v') w := by intro w H; (first | (have c := (H rfl).c; try simp only [celN, cl, List.cons_append, List.nil_append] at c) | skip); clear H; go_simp <;> with_reducible rfl)
 (hv : v' = .bool b := by first | rfl | (simp [*]; done) | (simp; omega)) : RWm ds ⟨P, ops, Q, S0, w0, E0, []⟩ n (j :: l) G E ls :=
 dE hv k ho hk hr
theorem dGB (b : Bool) {sg g : Nat} {want : Bool} (k : RWm ds ⟨P, ops, Q, S0, w0, E0, []⟩ n l G E ((s, .bool b) :: ls))
 (ho : ops[j]? = some ⟨some s, op, ty, pos, af, some (g, want)⟩ := by rfl) (hk : (isDet op && chkO ls op && Nat.blt s n) = true := by kernel_rfl)
 (hg : (ops[g]?).bind (·.dst) = some sg := by rfl) (hi : inLs ls (.tmp sg) = true := by kernel_rfl) (hb : evl ls (.tmp sg) = .bool want := by (simp only [evlN, Nat.reduceEqDiff, ↓reduceIte]) <;> first | rfl | simp [*])
 (hr : ∀ w, (isLd op = true -> Fr S0 w0 w E0) -> (execOp (evl ls) ⟨some s, op, ty, pos, af, some (g, want)⟩).run P w = .ok (.value v') w := by intro w H; (first | (have c := (H rfl).c; try simp only [celN, cl, List.cons_append, List.nil_append] at c) | skip); clear H; go_simp <;> with_reducible rfl)
 (hv : v' = .bool b := by first | rfl | (simp [*]; done) | (simp; omega)) : RWm ds ⟨P, ops, Q, S0, w0, E0, []⟩ n (j :: l) G E ls :=
 dG k ho hk hg hi hb (by rw [<- hv]; exact hr)
end
theorem Fr.apart {S0 : Nat -> Prop} {w0 w : World} {es : List En} (h : Fr S0 w0 w es) {e e1 : En} (he : e ∈ es) (he1 : e1 ∈ es) (hw : e.wr = true) (hw1 : e1.wr = false) {b : Nat} (hb : e.S b) : ¬ e1.S b := fun hb1 => by
 obtain ⟨l1, l2, rfl⟩ := List.append_of_mem he1;have hp := List.pairwise_append.1 h.sep;rcases List.mem_append.1 he with h | h
 · exact (hp.2.2 e h _ (List.mem_cons_self ..)).1 hw b hb hb1
 · rcases List.mem_cons.1 h with rfl | h
   · rw [hw] at hw1; cases hw1
   · exact ((List.pairwise_cons.1 hp.2.1).1 e h).2 hw b hb hb1
section
variable {P : Program} {ops : Array Oper} {Q : Exit -> Act -> World -> Prop} {ds : List Deferred} {S0 : Nat -> Prop} {w0 : World} {E0 : List En} {hd : List (List Nat)} {n j s sg g : Nat} {l : List Nat} {G E : List En} {ls : List (Nat × Value)} {op : Op} {ty : TypeId} {pos : String} {af : Array Edge} {f : FuncId} {args : Array Value} {want : Bool}
end
theorem gi_eq {xs : List Int} {i : Nat} (h : i < xs.length) : gi xs i = xs[i] := by simp [gi, h]
theorem gp_eq {ps : List P4} {i : Nat} (h : i < ps.length) : gp ps i = ps[i] := by simp [gp, h]
theorem gi_mem {xs : List Int} {i : Nat} (h : i < xs.length) : gi xs i ∈ xs := by rw [gi_eq h]; exact List.getElem_mem h
theorem gi_set {xs : List Int} {i j : Nat} (h : i < xs.length) (x : Int) : gi (xs.set i x) j = if j = i then x else gi xs j := by
 unfold gi;rw [List.getD_eq_getElem?_getD, List.getElem?_set, List.getD_eq_getElem?_getD];by_cases e : i = j
 · subst e; simp [h]
 · have e2 : ¬ j = i := fun q => e q.symm;simp [e, e2]
theorem rn0 {ps : List P4} {i : Nat} (tl : List Value) (h : i < ps.length) : (rn ps tl)[i * 2]? = some (.bool (gp ps i).1) := by
 have := flat_length ps;rw [gp_eq h, rn, List.getElem?_append_left (by omega)]; exact flat_get0 ps i h
theorem rn1 {ps : List P4} {i : Nat} (tl : List Value) (h : i < ps.length) : (rn ps tl)[i * 2 + 1]? = some (.slice (gp ps i).2.1 (gp ps i).2.2.1 (gp ps i).2.2.2) := by
 have := flat_length ps;rw [gp_eq h, rn, List.getElem?_append_left (by omega)]; exact flat_get1 ps i h
theorem rn_set {ps : List P4} {i : Nat} (tl : List Value) (h : i < ps.length) (p : P4) : setL (rn ps tl) (i * 2) [.bool p.1, .slice p.2.1 p.2.2.1 p.2.2.2] = rn (ps.set i p) tl := by
 have hl := flat_length ps;simp only [setL, rn];rw [List.set_append_left _ _ (by omega), List.set_append_left _ _ (by rw [List.length_set]; omega), flat_set]
theorem NoW.rn {ps : List P4} {tl : List Value} (h : NoW tl) : NoW (rn ps tl) := flat_app h
theorem NsAt.set {w : World} {ps : List P4} {xs : List Int} (h : NsAt w ps xs) (i : Nat) {p : P4} {x : Int} (hp : NumAt w (av p) x) : NsAt w (ps.set i p) (xs.set i x) := by
 refine ⟨by simp [h.1], fun j hj => ?_⟩;rw [List.length_set] at hj;have h1 := h.1;by_cases e : i = j
 · subst e;rw [gp_eq (by simpa using hj), gi_eq (by simp; omega)];simpa using hp
 · have := h.2 j hj;rw [gp_eq hj, gi_eq (by omega)] at this;rw [gp_eq (by simpa using hj), gi_eq (by simp; omega)];simpa [e] using this
theorem NsAt.snoc {w : World} {ps : List P4} {xs : List Int} (h : NsAt w ps xs) {p : P4} {x : Int} (hp : NumAt w (av p) x) : NsAt w (ps ++ [p]) (xs ++ [x]) := by
 refine ⟨by simp [h.1], fun j hj => ?_⟩;have h1 := h.1;rw [gp_eq hj, gi_eq (by simp at hj ⊢; omega)];by_cases e : j < ps.length
 · have := h.2 j e;rw [gp_eq e, gi_eq (by omega)] at this;rw [List.getElem_append_left e, List.getElem_append_left (by omega)]; exact this
 · have e1 : j = ps.length := by simp at hj; omega
   subst e1;simpa [h1] using hp
theorem NsAt.nil (w : World) : NsAt w [] [] := ⟨rfl, fun i h => absurd h (by simp)⟩
theorem NsAt.zeros (w : World) (n : Nat) : NsAt w (List.replicate n p0) (List.replicate n 0) := ⟨by simp, fun i h => by
 have h : i < n := by simpa using h
 rw [gp_eq (by simpa using h), gi_eq (by simpa using h)]; simp; exact NumAt.zero w⟩
theorem RowN.mk' {w : World} {b : Nat} {ps : List P4} {tl : List Value} {xs : List Int} (h : RowAt w b 39 (rn ps tl)) (ht : NoW tl) (hn : NsAt w ps xs) : RowN w b xs :=
 ⟨ps, tl, ht, h, hn.1, fun i h1 h2 => by have := hn.2 i h1; rw [gp_eq h1, gi_eq h2] at this; exact this⟩
theorem Fr.l {S0 : Nat -> Prop} {w0 w : World} {es : List En} (h : Fr S0 w0 w es) {L : Nat} {ao : Option Addr} {xs : List Int} (hx : LsAt w L ao xs) (hS : ∀ e ∈ es, e.wr = false) : Fr S0 w0 w (.ls L ao xs :: es) :=
 h.cons hx (fun e he => ⟨(fun q => nomatch q), fun q => by rw [hS e he] at q; cases q⟩) (fun q => nomatch q)
section
variable {P : Program} {Q : Exit -> Act -> World -> Prop} {ds : List Deferred} {S0 : Nat -> Prop} {w0 : World} {n : Nat} {ls : List (Nat × Value)} {es : List En} {c : Code}
theorem Fr.cellOf {w : World} {e : En} {a : Addr} {v : Value} (h : Fr S0 w0 w es) (hm : e ∈ es) (hwr : e.wr = false) (hS : e.S a.block) (hc : w.cell? a = some v) : Fr S0 w0 w (.cell a v :: es) :=
 h.cons (e := .cell a v) hc (fun e' he' => ⟨(fun q => nomatch q), fun q g hg hg' => by
  obtain rfl : g = a.block := hg';exact h.apart he' hm q hwr hg hS⟩) (fun q => nomatch q)
theorem numW {L : Nat} {xs : List Int} {b o : Nat} (i : Nat) (hm : En.ls L (some ⟨b, o, none⟩) xs ∈ es) (hi : i < xs.length) (k : ∀ p : P4, CWm ds P n S0 w0 c Q ls (.cell ⟨b, o + i * 2, none⟩ (.bool p.1) :: .cell ⟨b, o + i * 2 + 1, none⟩ (.slice p.2.1 p.2.2.1 p.2.2.2) :: .at L (av p) (gi xs i) :: es)) : CWm ds P n S0 w0 c Q ls es := fun a w ha hw => by
 have hA : LsAt w L (some ⟨b, o, none⟩) xs := hw.all _ hm;obtain ⟨b', o', e, hb, hc⟩ := hA (by omega);cases e;obtain ⟨p, h0, h1, hx⟩ := hc i hi;rw [<- gi_eq hi] at hx;have hS : (En.ls L (some ⟨b, o, none⟩) xs).S b := ⟨by omega, o, rfl⟩;exact k p a w ha (((hw.pure (e := .at L (av p) (gi xs i)) hx (fun _ h => h)).cellOf (List.mem_cons_of_mem _ hm) rfl hS h1).cellOf (List.mem_cons_of_mem _ (List.mem_cons_of_mem _ hm)) rfl hS h0)
theorem addW {e : En} (he : ∀ w, Fr S0 w0 w es -> e.F w) (k : CWm ds P n S0 w0 c Q ls (e :: es)) (hS : ∀ b, ¬ e.S b := by intro b h; exact h) : CWm ds P n S0 w0 c Q ls es := fun a w ha hw => k a w ha (hw.pure (he w hw) hS)
end
section
variable {ops : Array Oper} {Q : Exit -> Act -> World -> Prop} {ds : List Deferred} {S0 : Nat -> Prop} {w0 : World} {E0 : List En} {hd : List (List Nat)} {n j s : Nat} {l : List Nat} {G E : List En} {ls : List (Nat × Value)} {op : Op} {ty : TypeId} {pos : String} {af : Array Edge}
theorem mN {sl sc : Operand} {a b : Int} {kl kc : IntKind} (x y : Nat) (hx : a = x) (hy : b = y) (hxy : x <= y) (hb : y <= 8796093022208) (k : ∀ g, RWm ds ⟨Try.prog, ops, Q, S0, w0, E0, hd⟩ n l (.row g 39 (rn (List.replicate y p0) []) :: G) E ((s, .slice (some ⟨g, 0, none⟩) x y) :: ls))
 (ho : ops[j]? = some ⟨some s, .makeSlice 22 sl sc, ty, pos, af, none⟩ := by rfl) (hk : (chkO ls (.makeSlice 22 sl sc) && Nat.blt s n) = true := by kernel_rfl)
 (h1 : evl ls sl = .int kl a := by (simp only [evlN, Nat.reduceEqDiff, ↓reduceIte]) <;> rfl) (h2 : evl ls sc = .int kc b := by (simp only [evlN, Nat.reduceEqDiff, ↓reduceIte]) <;> rfl) : RWm ds ⟨Try.prog, ops, Q, S0, w0, E0, hd⟩ n (j :: l) G E ls := fun A hA => by
 simp only [Bool.and_eq_true] at hk;refine ⟨_, ho, .inr (.inl ⟨rfl, rfl, fun g => .slice (some ⟨g, 0, none⟩) x y, 39, rn (List.replicate y p0) [], ⟨rfl, fun w => ?_⟩, fun g => k g _ (hA.put (Nat.le_of_ble_eq_true hk.2) _)⟩)⟩;rw [hA.exec (o := ⟨some s, .makeSlice 22 sl sc, ty, pos, af, none⟩) hk.1];obtain ⟨i, hi, hz, hs, hbt⟩ := info_parts info_Int;subst hx hy;have hr := run_make (P := Try.prog) w 22 39 i (.agg #[.bool false, .slice none 0 0]) Try.underlying22 hi hz kl kc x y (by omega) (by omega) (by rw [hbt]; omega) (by omega);simp only [Int.toNat_natCast] at hr;have e : madeCells (Value.agg #[.bool false, .slice none 0 0]).cells (y * i.size) = (rn (List.replicate y p0) []).toArray := by
  have := made_flat y;rw [hs, rn, List.append_nil, <- this]
 simp [execOp, h1, h2, hr, Result.andThen, e]
theorem sN {b i : Nat} {ps ps' : List P4} {tl : List Value} {ad x : Operand} {sty : TypeId} {E' : List En} (q : Nat) (p : P4) (hq : q < ps.length) (ht : NoW tl) (hs : ps.set q p = ps')
 (k' : RWm ds ⟨Try.prog, ops, Q, S0, w0, E0, hd⟩ n l G E' ls)
 (ho : ops[j]? = some ⟨none, .store sty ad x, ty, pos, af, none⟩ := by rfl) (hk : chkO ls (.store sty ad x) = true := by kernel_rfl)
 (ha : evl ls ad = .pointer (some ⟨b, q * 2, none⟩) := by (simp only [evlN, Nat.reduceEqDiff, ↓reduceIte]) <;> rfl)
 (hv : evl ls x = .agg #[.bool p.1, .slice p.2.1 p.2.2.1 p.2.2.2] := by (simp only [evlN, Nat.reduceEqDiff, ↓reduceIte, av]) <;> rfl)
 (hE : Up (.row b 39 (rn ps tl)) (.row b 39 (rn ps' tl)) i E E' := by repeat first | exact .z | apply Up.s)
 (hr : ∀ w u v, w.cell? ⟨b, q * 2, none⟩ = some u -> w.cell? ⟨b, q * 2 + 1, none⟩ = some v -> w.frozen? ⟨b, q * 2, none⟩ = false -> w.frozen? ⟨b, q * 2 + 1, none⟩ = false -> (execOp (evl ls) ⟨none, .store sty ad x, ty, pos, af, none⟩).run Try.prog w = .ok .skip (stA w b (q * 2) [.bool p.1, .slice p.2.1 p.2.2.1 p.2.2.2]) := by intro w u v c0 c1 f0 f1; (try simp only [av]); go_simp <;> rfl)
 (hst : okSt ops hd j [i] = true := by kernel_rfl) : RWm ds ⟨Try.prog, ops, Q, S0, w0, E0, hd⟩ n (j :: l) G E ls := fun a hA => by
 subst hs;refine ⟨_, ho, .inr (.inr ⟨rfl, rfl, Unit, fun _ => undef, fun _ => G, fun _ => E', [i], ⟨()⟩, fun X w hX hw => ?_, hst, fun _ r hr => hE.other (by simpa using hr), fun _ => k' _ (hA.put0 _)⟩)⟩;obtain ⟨m, h1, h2⟩ := hE.right' X G;have hrow : RowAt w b 39 (rn ps tl) := (hw.perm h1).all _ (List.mem_cons_self ..);refine ifw rfl ?_;show wpR _ _ ((execOp a.eval _).run _ w);rw [hA.exec (o := ⟨none, .store sty ad x, ty, pos, af, none⟩) hk, hr w _ _ ((hrow.cell _).trans (rn0 tl hq)) ((hrow.cell _).trans (rn1 tl hq)) (hrow.free _) (hrow.free _)];exact ⟨(), rfl, hw.st (t := 39) _ _ (.inl ⟨NoW.rn ht, by decide⟩) h1 (by rw [rn_set tl hq]; exact h2)⟩
end
theorem Fr.conv {S0 : Nat -> Prop} {w0 w : World} {es : List En} {e e' : En} (h : Fr S0 w0 w (e :: es)) (h1 : e.F w -> e'.F w) (h2 : ∀ b, e'.S b -> e.S b) (h3 : e'.wr = true -> e.wr = true) : Fr S0 w0 w (e' :: es) := by
 have hp := List.pairwise_cons.1 h.sep;exact h.tl.cons (h1 h.m0) (fun x hx => ⟨fun q b hb => (hp.1 x hx).1 (h3 q) b (h2 b hb), fun q b hb hb' => (hp.1 x hx).2 q b hb (h2 b hb')⟩) (fun q b hb => h.own e (List.mem_cons_self ..) (h3 q) b (h2 b hb))
section
variable {P : Program} {Q : Exit -> Act -> World -> Prop} {ds : List Deferred} {S0 : Nat -> Prop} {w0 : World} {n : Nat} {ls : List (Nat × Value)} {es : List En} {c : Code}
end
theorem rn_snoc {ps : List P4} {tl : List Value} {cap : Nat} (hl : (rn ps tl).length = cap * 2) (h : ps.length < cap) (p : P4) : setL (rn ps tl) (ps.length * 2) [.bool p.1, .slice p.2.1 p.2.2.1 p.2.2.2] = rn (ps ++ [p]) (tl.drop 2) := by
 have hf := flat_length ps;obtain ⟨a, b, t, rfl⟩ : ∃ a b t, tl = a :: b :: t := by
  rw [rn, List.length_append] at hl;match tl, hl with
  | [], h => simp at h; omega
  | [_], h => simp at h; omega
  | a :: b :: t, _ => exact ⟨a, b, t, rfl⟩
 simp only [setL, rn];rw [List.set_append_right _ _ (by omega), List.set_append_right _ _ (by omega), flat_append, show ps.length * 2 - (flat ps).length = 0 by omega, show ps.length * 2 + 1 - (flat ps).length = 1 by omega];simp [flat]
theorem Chg.alloc' (T : Nat -> Prop) (w : World) (o : Obj) : Chg T w (w.drew.alloc o) := Chg.of_below ⟨rfl, rfl, rfl, by simp, fun q hq => alloc_oldD w _ hq⟩
theorem app_run {w : World} {ty : TypeId} {ao : Option Addr} {k cap : Nat} {ps : List P4} (h : LstF ao k cap ps w) (hb : k <= 100000000) {ad : Addr} {c : Nat} {p : P4} (h0 : w.cell? ad = some (.bool p.1)) (h1 : w.cell? (ad.add 1) = some (.slice p.2.1 p.2.2.1 p.2.2.2)) :
 ∃ ao' cap' w', (Builtin.append_ #[22, 22] ty #[.slice ao k cap, .slice (some ad) 1 c]).run Try.prog w = .ok (.slice ao' (k + 1) cap') w' /\ LstF ao' (k + 1) cap' (ps ++ [p]) w' /\ Chg (fun g => ∃ o, ao = some ⟨g, o, none⟩) w w' /\ ∀ g, (∃ o, ao' = some ⟨g, o, none⟩) -> (∃ o, ao = some ⟨g, o, none⟩) ∨ w.heap.size <= g := by
 obtain ⟨i, hi, hz, hsz, hby⟩ := info_parts info_Int;have hn : ∀ j u, [Value.bool p.1, .slice p.2.1 p.2.2.1 p.2.2.2][j]? = some u -> w.cell? (ad.add j) = some u := fun j u hj => by
  match j, hj with
  | 0, hj => cases hj; simpa [Addr.add] using h0
  | 1, hj => cases hj; exact h1
 have hsrc : Src Try.prog i.size 22 (.slice (some ad) 1 c) 1 [Value.bool p.1, .slice p.2.1 p.2.2.1 p.2.2.2] w := Src.ofSlice w Try.underlying22 ad 1 c _ (by rw [hsz]; rfl) hn (by simp [Value.oneCell']);obtain ⟨hk, hkc, hrow⟩ := h;by_cases hroom : k < cap
 · obtain ⟨_, h⟩ | ⟨b, tl, rfl, ht, hr, hl⟩ := hrow
   · omega
   subst hk;have hex : ∀ j, j < cap * 2 -> (w.cell? ⟨b, j, none⟩).isSome = true := fun j hj => by rw [hr.cell, List.getElem?_eq_getElem (by omega)]; rfl
   refine ⟨_, _, _, run_append_room_src w 22 22 ty 39 i Try.underlying22 hi b 0 ps.length cap _ 1 _ hsrc (by omega) (fun j hj => hex _ ?_) (fun j _ => hr.free _), ?_, ?_, fun g hg => .inl hg⟩
   · rw [hsz]; simp at hj; omega
   · rw [hsz, Nat.zero_add];have h2 := hr.stA [.bool p.1, .slice p.2.1 p.2.2.1 p.2.2.2] (ps.length * 2);rw [rn_snoc hl hroom] at h2;refine ⟨by simp, by omega, .inr ⟨b, tl.drop 2, rfl, fun v hv => ht v (List.mem_of_mem_drop hv), h2, ?_⟩⟩;have hf := flat_length ps;rw [rn, List.length_append] at hl;rw [rn, List.length_append, flat_length]; simp; omega
   · rw [hsz, Nat.zero_add];exact (Chg.stA [.bool p.1, .slice p.2.1 p.2.2.1 p.2.2.2] (ps.length * 2) (Chg.refl (· = b) w)).mono (fun g _ e => by obtain rfl : g = b := e; exact ⟨0, rfl⟩)
 · obtain rfl : k = cap := by omega
   have hf := flat_length ps;have hold : (Builtin.firstCells i.size k (.slice ao k k)).run Try.prog w.drew = .ok (flat ps).toArray w.drew := by
    obtain ⟨rfl, h⟩ | ⟨b, tl, rfl, ht, hr, hl⟩ := hrow
    · obtain rfl : ps = [] := List.eq_nil_of_length_eq_zero (by omega);exact run_firstCells_none w.drew i.size k k k
    · refine run_firstCells_some w.drew i.size k _ k k (flat ps) (by rw [hsz]; omega) fun j v hj => ?_;have e : w.drew.cell? ((⟨b, 0, none⟩ : Addr).add j) = w.cell? ⟨b, j, none⟩ := by simp only [Addr.add]; by_cases hj0 : j = 0 <;> simp [hj0]
      rw [e, hr.cell, rn, List.getElem?_append_left (List.getElem?_eq_some_iff.1 hj).1]; exact hj
   refine ⟨_, _, _, run_append_grow_src w 22 22 ty 39 i (.agg #[.bool false, .slice none 0 0]) Try.underlying22 hi hz ao k k (flat ps) hold _ 1 _ hsrc (by omega) (by omega) (growslice_fits (by omega) (by rw [hby]; omega)), ⟨by simp [hk], grownCap_ge .., .inr ⟨_, (Builtin.zeroCells (Value.agg #[.bool false, .slice none 0 0]).cells (grownCap w (k + 1) k 39 - (k + 1))).toList, rfl, zero_nums _, ?_, ?_⟩⟩, Chg.alloc' _ w _, fun g ⟨o, e⟩ => by cases e; exact .inr (Nat.le_refl _)⟩
   · have hnew := RowAt.new w.drew ((flat ps ++ [Value.bool p.1, .slice p.2.1 p.2.2.1 p.2.2.2]).toArray ++ Builtin.zeroCells (Value.agg #[.bool false, .slice none 0 0]).cells (grownCap w (k + 1) k 39 - (k + 1))) 39;rw [rn, flat_append];simpa [flat] using hnew
   · have hge := grownCap_ge w (k + 1) k 39;have hz2 : (Builtin.zeroCells (Value.agg #[.bool false, .slice none 0 0]).cells (grownCap w (k + 1) k 39 - (k + 1))).toList.length = (grownCap w (k + 1) k 39 - (k + 1)) * 2 := by rw [Array.length_toList, size_zeroCells]; rfl
     rw [rn, List.length_append, flat_length, List.length_append, hz2]; simp; omega
section
variable {ops : Array Oper} {Q : Exit -> Act -> World -> Prop} {ds : List Deferred} {S0 : Nat -> Prop} {w0 : World} {E0 : List En} {hd : List (List Nat)} {n j s : Nat} {l : List Nat} {G E : List En} {ls : List (Nat × Value)} {op : Op} {ty : TypeId} {pos : String} {af : Array Edge}
theorem appN {i k cap g : Nat} {ao : Option Addr} {ps : List P4} {t : TypeId} {c : Nat} (p : P4) {sa xa : Operand} {E' : Option Addr × Nat -> List En} (hb : k <= 100000000)
 (hm : En.row g t [.bool p.1, .slice p.2.1 p.2.2.1 p.2.2.2] ∈ G ++ E)
 (k' : ∀ q, RWm ds ⟨Try.prog, ops, Q, S0, w0, E0, hd⟩ n l G (E' q) ((s, .slice q.1 (k + 1) q.2) :: ls))
 (ho : ops[j]? = some ⟨some s, .call { callee := Callee.builtin Builtin.append, args := #[sa, xa], argTypes := #[22, 22] }, ty, pos, af, none⟩ := by rfl) (hk : (chkO ls (.call { callee := Callee.builtin Builtin.append, args := #[sa, xa], argTypes := #[22, 22] }) && Nat.blt s n) = true := by kernel_rfl)
 (ha : evl ls sa = .slice ao k cap := by (simp only [evlN, Nat.reduceEqDiff, ↓reduceIte]) <;> rfl)
 (hv : evl ls xa = .slice (some ⟨g, 0, none⟩) 1 c := by (simp only [evlN, Nat.reduceEqDiff, ↓reduceIte, av]) <;> rfl)
 (hE : ∀ q, Up (.lst ao k cap ps) (.lst q.1 (k + 1) q.2 (ps ++ [p])) i E (E' q) := by intro q; repeat first | exact .z | apply Up.s)
 (hst : okSt ops hd j [i] = true := by kernel_rfl) : RWm ds ⟨Try.prog, ops, Q, S0, w0, E0, hd⟩ n (j :: l) G E ls := fun a hA => by
 simp only [Bool.and_eq_true] at hk;refine ⟨_, ho, .inr (.inr ⟨rfl, rfl, Option Addr × Nat, fun q => .slice q.1 (k + 1) q.2, fun _ => G, E', [i], ⟨(none, 0)⟩, fun X w hX hw => ?_, hst, fun q r hr => (hE q).other (by simpa using hr), fun q => k' q _ (hA.put (Nat.le_of_ble_eq_true hk.2) _)⟩)⟩;have hrow : RowAt w g t [.bool p.1, .slice p.2.1 p.2.2.1 p.2.2.2] := hw.all _ (List.mem_append_right _ hm);have hl : LstF ao k cap ps w := by
  obtain ⟨m, h1, h2⟩ := (hE (none, 0)).right' X G;exact (hw.perm h1).all _ (List.mem_cons_self ..)
 obtain ⟨ao', cap', w', hrun, h1', hc, hS⟩ := app_run (ty := ty) hl hb (ad := ⟨g, 0, none⟩) (c := c) (hrow.cell 0) (hrow.cell 1);obtain ⟨m, h1, h2⟩ := (hE (ao', cap')).right' X G;refine ifw rfl ?_;show wpR _ _ ((execOp a.eval _).run _ w);rw [hA.exec (o := ⟨some s, .call { callee := Callee.builtin Builtin.append, args := #[sa, xa], argTypes := #[22, 22] }, ty, pos, af, none⟩) hk.1];have e : (execOp (evl ls) ⟨some s, .call { callee := Callee.builtin Builtin.append, args := #[sa, xa], argTypes := #[22, 22] }, ty, pos, af, none⟩).run Try.prog w = .ok (.value (.slice ao' (k + 1) cap')) w' := by
  simp [execOp, resolve, invoke, builtin, ha, hv, hrun, Result.andThen]
 rw [e];refine ⟨(ao', cap'), rfl, Fr.perm ((hw.perm h1).upd (e := .lst ao k cap ps) (e' := .lst ao' (k + 1) cap' (ps ++ [p])) rfl hc (fun x hx _ => ?_) (fun _ h => h) h1' hS) h2.symm⟩;rintro b ⟨o, rfl⟩;obtain ⟨_, _, ⟨h, _⟩ | ⟨b', tl, h, ht, hr, _⟩⟩ := hl
 · cases h
 · cases h; exact ⟨_, _, hr, NoW.rn ht, by decide⟩
end
theorem OwnW.blk {w : World} {B : Nat} {ao : Option Addr} {len cap : Nat} {ws : List Nat} (h : OwnW w B ao len cap ws) {g o : Nat} (e : ao = some ⟨g, o, none⟩) : B <= g := by
 obtain ⟨_, _, _, ⟨h4, _⟩ | ⟨g', c, cur, hv, hb, _⟩⟩ := h
 · cases h4; cases e
 · cases hv; cases e; exact hb
section
variable {P : Program} {ops : Array Oper} {Q : Exit -> Act -> World -> Prop} {ds : List Deferred} {S0 : Nat -> Prop} {w0 : World} {E0 : List En} {hd : List (List Nat)} {n j s : Nat} {l : List Nat} {G E : List En} {ls : List (Nat × Value)} {op : Op} {ty : TypeId} {pos : String} {af : Array Edge} {f : FuncId} {args : Array Value}
theorem cW1 {m : Nat} (c : ∀ w, Fr S0 w0 w (G ++ E) -> Calls P f args w fun e w' => (∃ ao cap, e = .returned (.slice ao (wlen m) cap) /\ OwnW w' w.heap.size ao (wlen m) cap (dig m)) /\ Below w.heap.size w w')
 (k : ∀ ao cap, RWm ds ⟨P, ops, Q, S0, w0, E0, hd⟩ n l (.ow w0.heap.size ao m cap :: .wat ao (dig m) :: G) E ((s, .slice ao (wlen m) cap) :: ls))
 (ho : ops[j]? = some ⟨some s, op, ty, pos, af, none⟩ := by rfl) (hk : (!isDet op && !isNew op && chkO ls op && Nat.blt s n) = true := by kernel_rfl)
 (hr : ∀ w, (execOp (evl ls) ⟨some s, op, ty, pos, af, none⟩).run P w = .ok (.enter f args) w := by intro w; (try simp only [av]); go_simp <;> with_reducible rfl)
 (hst : okSt ops hd j [] = true := by kernel_rfl) : RWm ds ⟨P, ops, Q, S0, w0, E0, hd⟩ n (j :: l) G E ls := by
 refine cG (α := Option Addr × Nat) (mk := fun p => .slice p.1 (wlen m) p.2) (ens := fun p => [.ow w0.heap.size p.1 m p.2, .wat p.1 (dig m)]) (fun w hw => (c w hw).mono ?_) (fun p => k p.1 p.2) ho hk hr ⟨(none, 0)⟩ hst;rintro e w' ⟨⟨ao, cap, rfl, hv⟩, hb⟩;exact ⟨(ao, cap), rfl, hb, fun e he => by
  rcases List.mem_cons.1 he with rfl | he
  · exact ⟨hv.mono hw.size, fun _ h => h.elim⟩
  · rcases List.mem_singleton.1 he with rfl;exact ⟨hv.at_, fun b ⟨_, o, e⟩ => hv.blk e⟩, List.pairwise_pair.2 ⟨(fun h => nomatch h), (fun h => nomatch h)⟩⟩
end
section
variable {P : Program} {Q : Exit -> Act -> World -> Prop} {ds : List Deferred} {S0 : Nat -> Prop} {w0 : World} {n : Nat} {ls : List (Nat × Value)} {es : List En} {c : Code}
theorem posW {ao : Option Addr} {ws : List Nat} (hm : En.wat ao ws ∈ es) (hl : 0 < ws.length) (k : ∀ b o, ao = some ⟨b, o, none⟩ -> CWm ds P n S0 w0 c Q ls es) : CWm ds P n S0 w0 c Q ls es := fun a w ha hw => by
 have hA : WAt w ao ws := hw.all _ hm;obtain ⟨b, o, e, _⟩ := hA.2 hl;exact k b o e a w ha hw
theorem word00W {ws : List Nat} {b o : Nat} (hm : En.wat (some ⟨b, o, none⟩) ws ∈ es) (hi : 0 < ws.length) (k : CWm ds P n S0 w0 c Q ls (.cell ⟨b, o, none⟩ (.int .u64 ((gw ws 0 : Nat) : Int)) :: es)) : CWm ds P n S0 w0 c Q ls es :=
 wordW 0 hm hi k
end
section
variable {P : Program} {ops : Array Oper} {Q : Exit -> Act -> World -> Prop} {ds : List Deferred} {S0 : Nat -> Prop} {w0 : World} {E0 : List En} {hd : List (List Nat)} {n j s : Nat} {l : List Nat} {G E : List En} {ls : List (Nat × Value)} {op : Op} {ty : TypeId} {pos : String} {af : Array Edge} {f : FuncId} {args : Array Value}
theorem bW {t : TypeId} {cs : List Value} {m : Nat} (k : ∀ g, RWm ds ⟨P, ops, Q, S0, w0, E0, hd⟩ n l (.row g t cs :: G) E ((s, .slice (some ⟨g, 0, none⟩) m m) :: ls))
 (ho : ops[j]? = some ⟨some s, op, ty, pos, af, none⟩ := by rfl) (hk : (!isDet op && isNew op && chkO ls op && Nat.blt s n) = true := by kernel_rfl)
 (hr : ∀ w, (execOp (evl ls) ⟨some s, op, ty, pos, af, none⟩).run P w = .ok (.value (.slice (some ⟨w.heap.size, 0, none⟩) m m)) (w.alloc (.cells cs.toArray t (0, 0))) := by intro w; (try simp only [av]); go_simp <;> with_reducible rfl) : RWm ds ⟨P, ops, Q, S0, w0, E0, hd⟩ n (j :: l) G E ls := fun a ha => by
 simp only [Bool.and_eq_true, Bool.not_eq_true'] at hk;refine ⟨_, ho, .inr (.inl ⟨hk.1.1.1, hk.1.1.2, fun g => .slice (some ⟨g, 0, none⟩) m m, t, cs, ⟨rfl, fun w => ?_⟩, fun g => k g _ (ha.put (Nat.le_of_ble_eq_true hk.2) _)⟩)⟩;rw [ha.exec hk.1.2];exact hr w
theorem cW2 {m q : Nat} {z : Value} (c : ∀ w, Fr S0 w0 w (G ++ E) -> Calls P f args w fun e w' => (∃ ao ca bo cb, e = .returned (.tuple #[.slice ao (wlen m) ca, .slice bo (wlen q) cb, z]) /\ OwnW w' w.heap.size ao (wlen m) ca (dig m) /\ OwnW w' w.heap.size bo (wlen q) cb (dig q)) /\ Below w.heap.size w w')
 (k : ∀ ao ca bo cb, RWm ds ⟨P, ops, Q, S0, w0, E0, hd⟩ n l (.ow w0.heap.size ao m ca :: .wat ao (dig m) :: .ow w0.heap.size bo q cb :: .wat bo (dig q) :: G) E ((s, .tuple #[.slice ao (wlen m) ca, .slice bo (wlen q) cb, z]) :: ls))
 (ho : ops[j]? = some ⟨some s, op, ty, pos, af, none⟩ := by rfl) (hk : (!isDet op && !isNew op && chkO ls op && Nat.blt s n) = true := by kernel_rfl)
 (hr : ∀ w, (execOp (evl ls) ⟨some s, op, ty, pos, af, none⟩).run P w = .ok (.enter f args) w := by intro w; (try simp only [av]); go_simp <;> with_reducible rfl)
 (hst : okSt ops hd j [] = true := by kernel_rfl) : RWm ds ⟨P, ops, Q, S0, w0, E0, hd⟩ n (j :: l) G E ls := by
 refine cG (α := (Option Addr × Nat) × Option Addr × Nat) (mk := fun p => .tuple #[.slice p.1.1 (wlen m) p.1.2, .slice p.2.1 (wlen q) p.2.2, z]) (ens := fun p => [.ow w0.heap.size p.1.1 m p.1.2, .wat p.1.1 (dig m), .ow w0.heap.size p.2.1 q p.2.2, .wat p.2.1 (dig q)]) (fun w hw => (c w hw).mono ?_) (fun p => k p.1.1 p.1.2 p.2.1 p.2.2) ho hk hr ⟨((none, 0), (none, 0))⟩ hst;rintro e w' ⟨⟨ao, ca, bo, cb, rfl, hv, hv'⟩, hb⟩;refine ⟨((ao, ca), (bo, cb)), rfl, hb, fun e he => ?_, ?_⟩
 · simp only [List.mem_cons, List.not_mem_nil, or_false] at he;rcases he with rfl | rfl | rfl | rfl
   · exact ⟨hv.mono hw.size, fun _ h => h.elim⟩
   · exact ⟨hv.at_, fun b ⟨_, o, e⟩ => hv.blk e⟩
   · exact ⟨hv'.mono hw.size, fun _ h => h.elim⟩
   · exact ⟨hv'.at_, fun b ⟨_, o, e⟩ => hv'.blk e⟩
 · refine (List.pairwise_of_forall_mem_list (r := Ap) (l := [En.ow w0.heap.size ao m ca, .wat ao (dig m), .ow w0.heap.size bo q cb, .wat bo (dig q)]) fun a ha b hb => ?_);simp only [List.mem_cons, List.not_mem_nil, or_false] at ha hb;rcases ha with rfl | rfl | rfl | rfl <;> rcases hb with rfl | rfl | rfl | rfl <;> exact ⟨(fun h => nomatch h), (fun h => nomatch h)⟩
end
theorem wlen_nval_le {ws : List Nat} (h : Ok ws) : wlen (nval ws) <= ws.length := by rw [wlen_nval h]; exact tlen_le ws
theorem ow_own {B m cap : Nat} {ao : Option Addr} {w : World} (h : OwnW w B ao (wlen m) cap (dig m)) : OwnI w B (.agg #[.bool false, .slice ao (wlen m) cap]) (m : Int) := OwnI.mk false h
theorem LsAt.pos {w : World} {L : Nat} {ao : Option Addr} {xs : List Int} (h : LsAt w L ao xs) {i : Nat} (hi : i < xs.length) : ∃ b o, ao = some ⟨b, o, none⟩ := by
 obtain ⟨b, o, e, _⟩ := h (by omega);exact ⟨b, o, e⟩
theorem lst_lsN {w : World} {ao : Option Addr} {k cap : Nat} {ps : List P4} {xs : List Int} (h : LstF ao k cap ps w) (hn : NsAt w ps xs) : LsN w ao xs := fun hl => by
 obtain ⟨h1, _, ⟨_, h2⟩ | ⟨b, tl, rfl, ht, hr, _⟩⟩ := h
 · have := hn.1; omega
 · exact (RowN.mk' hr ht hn).lsN hl
theorem rvM {ls : List (Nat × Value)} {w : World} {t b : Nat} {x y z : Value} (h : RowAt w b 24 [x, y, z]) (h1 : inLs ls (.tmp t) = true := by kernel_rfl) (h2 : evl ls (.tmp t) = .pointer (some ⟨b, 0, none⟩) := by (simp only [evlN, Nat.reduceEqDiff, ↓reduceIte]) <;> rfl) : rvOk Try.prog ls w (.cell t 24) (.agg #[x, y, z]) :=
 ⟨h1, _, h2, run_loadVar_row w b 24 24 #[x, y, z] (0, 0) _ h Try.underlying24 rfl (by kernel_rfl)⟩
section
variable {P : Program} {ops : Array Oper} {Q : Exit -> Act -> World -> Prop} {ds : List Deferred} {S0 : Nat -> Prop} {w0 : World} {E0 : List En} {hd : List (List Nat)} {n j s sg g : Nat} {l : List Nat} {G E : List En} {ls : List (Nat × Value)} {op : Op} {ty : TypeId} {pos : String} {af : Array Edge} {f : FuncId} {args : Array Value} {v : Value} {want : Bool}
theorem cGg {α : Type} {mk : α -> Value} {ens : α -> List En} (c : ∀ w, Fr S0 w0 w (G ++ E) -> Calls P f args w fun e w' => ∃ p, e = .returned (mk p) /\ Nw w w' (ens p))
 (k : ∀ p, RWm ds ⟨P, ops, Q, S0, w0, E0, hd⟩ n l (ens p ++ G) E ((s, mk p) :: ls))
 (ho : ops[j]? = some ⟨some s, op, ty, pos, af, some (g, want)⟩ := by rfl) (hk : (!isDet op && !isNew op && chkO ls op && Nat.blt s n) = true := by kernel_rfl)
 (hg : (ops[g]?).bind (·.dst) = some sg := by rfl) (hi : inLs ls (.tmp sg) = true := by kernel_rfl) (hb : evl ls (.tmp sg) = .bool want := by (simp only [evlN, Nat.reduceEqDiff, ↓reduceIte]) <;> first | rfl | simp [*])
 (hr : ∀ w, (execOp (evl ls) ⟨some s, op, ty, pos, af, some (g, want)⟩).run P w = .ok (.enter f args) w := by intro w; (try simp only [av]); go_simp <;> with_reducible rfl) (hne : Nonempty α := by infer_instance)
 (hst : okSt ops hd j [] = true := by kernel_rfl) : RWm ds ⟨P, ops, Q, S0, w0, E0, hd⟩ n (j :: l) G E ls := fun a ha => by
 simp only [Bool.and_eq_true, Bool.not_eq_true'] at hk;refine ⟨_, ho, .inr (.inr ⟨hk.1.1.1, hk.1.1.2, α, mk, fun p => ens p ++ G, fun _ => E, [], hne, fun X w hX hw => ?_, hst, fun _ _ _ => rfl, fun p => k p _ (ha.put (Nat.le_of_ble_eq_true hk.2) _)⟩)⟩;rw [if_pos (by rw [wanted_of ha hg hi hb]; simp)];show wpR P _ ((execOp a.eval _).run P w);rw [ha.exec hk.1.2, hr w];refine (c w (hw.sub (List.sublist_append_right ..))).mono ?_;rintro e w' ⟨p, rfl, hn⟩;refine ⟨_, rfl, p, rfl, (hn.fr hw).perm ?_⟩;rw [List.append_assoc];exact (List.perm_append_comm_assoc (ens p) X (G ++ E))
theorem cVg (c : ∀ w, Fr S0 w0 w (G ++ E) -> Calls P f args w fun e w' => e = .returned v /\ Below w.heap.size w w')
 (k : RWm ds ⟨P, ops, Q, S0, w0, E0, hd⟩ n l G E ((s, v) :: ls))
 (ho : ops[j]? = some ⟨some s, op, ty, pos, af, some (g, want)⟩ := by rfl) (hk : (!isDet op && !isNew op && chkO ls op && Nat.blt s n) = true := by kernel_rfl)
 (hg : (ops[g]?).bind (·.dst) = some sg := by rfl) (hi : inLs ls (.tmp sg) = true := by kernel_rfl) (hb : evl ls (.tmp sg) = .bool want := by (simp only [evlN, Nat.reduceEqDiff, ↓reduceIte]) <;> first | rfl | simp [*])
 (hr : ∀ w, (execOp (evl ls) ⟨some s, op, ty, pos, af, some (g, want)⟩).run P w = .ok (.enter f args) w := by intro w; (try simp only [av]); go_simp <;> with_reducible rfl)
 (hst : okSt ops hd j [] = true := by kernel_rfl) : RWm ds ⟨P, ops, Q, S0, w0, E0, hd⟩ n (j :: l) G E ls := by
 refine cGg (α := Unit) (mk := fun _ => v) (ens := fun _ => []) (fun w hw => (c w hw).mono ?_) (fun _ => k) ho hk hg hi hb hr ⟨()⟩ hst;rintro e w' ⟨rfl, hb⟩;exact ⟨(), rfl, hb, fun e he => (List.not_mem_nil he).elim, .nil⟩
theorem uC (k : RWm ds ⟨P, ops, Q, S0, w0, E0, hd⟩ n l G E ((s, undef) :: ls))
 (ho : ops[j]? = some ⟨some s, op, ty, pos, af, some (g, want)⟩ := by rfl) (hk : (!isDet op && !isNew op && Nat.blt s n) = true := by kernel_rfl)
 (hg : (ops[g]?).bind (·.dst) = some sg := by rfl) (hi : inLs ls (.tmp sg) = true := by kernel_rfl) (hb : evl ls (.tmp sg) = .bool (!want) := by (simp only [evlN, Nat.reduceEqDiff, ↓reduceIte]) <;> first | rfl | simp [*])
 (hst : okSt ops hd j [] = true := by kernel_rfl) : RWm ds ⟨P, ops, Q, S0, w0, E0, hd⟩ n (j :: l) G E ls := fun a ha => by
 simp only [Bool.and_eq_true, Bool.not_eq_true'] at hk;refine ⟨_, ho, .inr (.inr ⟨hk.1.1, hk.1.2, Unit, fun _ => undef, fun _ => G, fun _ => E, [], ⟨()⟩, fun X w hX hw => ?_, hst, fun _ _ _ => rfl, fun _ => k _ (ha.put (Nat.le_of_ble_eq_true hk.2) _)⟩)⟩;rw [if_neg (by rw [wanted_of ha hg hi hb]; simp)];exact ⟨(), rfl, hw⟩
theorem bWg {t : TypeId} {cs : List Value} {m : Nat} (k : ∀ g, RWm ds ⟨P, ops, Q, S0, w0, E0, hd⟩ n l (.row g t cs :: G) E ((s, .slice (some ⟨g, 0, none⟩) m m) :: ls))
 (ho : ops[j]? = some ⟨some s, op, ty, pos, af, some (g, want)⟩ := by rfl) (hk : (!isDet op && isNew op && chkO ls op && Nat.blt s n) = true := by kernel_rfl)
 (hg : (ops[g]?).bind (·.dst) = some sg := by rfl) (hi : inLs ls (.tmp sg) = true := by kernel_rfl) (hb : evl ls (.tmp sg) = .bool want := by (simp only [evlN, Nat.reduceEqDiff, ↓reduceIte]) <;> first | rfl | simp [*])
 (hr : ∀ w, (execOp (evl ls) ⟨some s, op, ty, pos, af, some (g, want)⟩).run P w = .ok (.value (.slice (some ⟨w.heap.size, 0, none⟩) m m)) (w.alloc (.cells cs.toArray t (0, 0))) := by intro w; (try simp only [av]); go_simp <;> with_reducible rfl) : RWm ds ⟨P, ops, Q, S0, w0, E0, hd⟩ n (j :: l) G E ls := fun a ha => by
 simp only [Bool.and_eq_true, Bool.not_eq_true'] at hk;refine ⟨_, ho, .inr (.inl ⟨hk.1.1.1, hk.1.1.2, fun g => .slice (some ⟨g, 0, none⟩) m m, t, cs, ⟨?_, fun w => ?_⟩, fun g => k g _ (ha.put (Nat.le_of_ble_eq_true hk.2) _)⟩)⟩
 · show Region.wanted _ (yielded ops a.tmps) = true;rw [wanted_of ha hg hi hb]; simp
 · rw [ha.exec hk.1.2];exact hr w
end
theorem cNo' {P : Program} {f : FuncId} {args : Array Value} {w : World} {B : Nat} {x : Int} (h : Calls P f args w fun e w' => (∃ v, e = .returned v /\ OwnI w' w.heap.size v x) /\ Below w.heap.size w w') (hB : B <= w.heap.size) : Calls P f args w fun e w' => ∃ p : P4, e = .returned (av p) /\ Nw w w' [.own B (av p) x] := h.mono fun e w' ⟨⟨v, he, hv⟩, hb⟩ => by
 subst he;obtain ⟨b, ao, l', k', rfl⟩ := OwnI.parts hv;exact ⟨(b, ao, l', k'), rfl, hb, fun e he => by
  rcases List.mem_singleton.1 he with rfl;exact ⟨OwnI.mono hv hB, fun _ h => h.elim⟩, List.pairwise_singleton ..⟩
section
variable {ops : Array Oper} {Q : Exit -> Act -> World -> Prop} {ds : List Deferred} {S0 : Nat -> Prop} {w0 : World} {E0 : List En} {hd : List (List Nat)} {n j s : Nat} {l : List Nat} {G E : List En} {ls : List (Nat × Value)} {ty : TypeId} {pos : String} {af : Array Edge}
end
set_option maxRecDepth 100000 in
set_option maxHeartbeats 2000000 in
theorem RSame_c (aoA aoB : Option Addr) (lA cA lB cB : Nat) (xs ys : List Nat) (w : World) (hA : WAt w aoA xs) (hB : WAt w aoB ys) (hlA : lA = xs.length) (hlB : lB = ys.length) (hmA : lA <= 17592186044415) (hmB : lB <= 17592186044415) :
 Calls Try.prog 35 #[.slice aoA lA cA, .slice aoB lB cB] w fun e w' => e = .returned (.bool (decide (xs = ys))) /\ Below w.heap.size w w' := by
 subst hlA hlB;have HA := Lib.hid hA; clear hA;have HB := Lib.hid hB; clear hB;go_enter Try.func35, Try.ntmps35;by_cases hs : xs.length = ys.length
 · have hb : (((xs.length : Nat) : Int) != ((ys.length : Nat) : Int)) = false := by rw [hs]; simp
   have Hs := Lib.hid hs; clear hs;go_wp2;go_loopw [5] (fun i wr => ∃ k : Nat, k <= xs.length /\ i = .int .i64 (k : Int) /\ Hid (∀ j, j < k -> gw xs j = gw ys j) /\ Below w.heap.size w wr) (fun i _ => xs.length - (intOf i).toNat)
   case atStart => exact ⟨0, Nat.zero_le _, rfl, Lib.hid (fun j hj => by omega), Below.refl _ _⟩
   case round =>
    obtain ⟨k, hk, rfl, hag, hbl⟩ := hrel;by_cases h0 : k < xs.length
    · have h01 : (k : Int) < (xs.length : Int) := by omega
      have h02 : (k : Int) < (ys.length : Int) := by have := Hs.out; omega
      obtain ⟨b1, o1, rfl, hb1, hc1⟩ := (HA.out.below hbl).pos (by omega);obtain ⟨b2, o2, rfl, hb2, hc2⟩ := (HB.out.below hbl).pos (by omega);have e1 := hc1 k h0;have e2 := hc2 k (by omega);clear hc1 hc2;by_cases hne : gw xs k = gw ys k
      · have t1 : (((gw xs k : Nat) : Int) != ((gw ys k : Nat) : Int)) = false := by rw [hne]; simp
        have HN := Lib.hid hne; clear hne;go_wp2
        go_quiet (fail)
        go_wp2;go_roundw
        case rel => exact ⟨k + 1, by omega, by go_num, Lib.hid (fun j hj => by
         by_cases e : j = k
         · subst e; exact HN.out
         · exact hag.out j (by omega)), below_drewN hbl _⟩
        case measure => simp [intOf]; omega
      · have t1 : (((gw xs k : Nat) : Int) != ((gw ys k : Nat) : Int)) = true := by rw [bne_iff_ne]; omega
        have hd : decide (xs = ys) = false := by
         rw [decide_eq_false_iff_not]; intro e; exact hne (by rw [e])
        have HD := Lib.hid hd; clear hd hne;go_wp2
        go_quiet (fail)
        go_wp2;go_ret;exact ⟨by rw [HD.out]; rfl, below_drewN hbl _⟩
    · obtain rfl : k = xs.length := by omega
      have hd : decide (xs = ys) = true := by
       rw [decide_eq_true_iff];refine List.ext_getElem Hs.out fun j h1 h2 => ?_;have := hag.out j h1;unfold gw at this;simpa [h1, h2] using this
      have HD := Lib.hid hd; clear hd;go_wp2;go_ret;exact ⟨by rw [HD.out]; rfl, hbl⟩
 · have hb : (((xs.length : Nat) : Int) != ((ys.length : Nat) : Int)) = true := by rw [bne_iff_ne]; omega
   have hd : decide (xs = ys) = false := by
    rw [decide_eq_false_iff_not]; intro e; exact hs (by rw [e])
   have HD := Lib.hid hd; clear hd hs;go_wp2;go_ret;exact ⟨by rw [HD.out]; rfl, Below.refl _ _⟩
theorem alike_bool (x y : Int) : (decide (dig x.natAbs = dig y.natAbs) && (decide (x < 0) == decide (y < 0))) = decide (x = y) := by
 have h1 : dig x.natAbs = dig y.natAbs ↔ x.natAbs = y.natAbs := ⟨fun h => by rw [<- nval_dig x.natAbs, h, nval_dig], fun h => by rw [h]⟩;rw [Bool.eq_iff_iff];simp only [Bool.and_eq_true, decide_eq_true_eq, beq_iff_eq, h1, decide_eq_decide];omega
theorem incB {a : Nat} (h : a < 9223372036854775807) : Value.int .i64 (IntKind.i64.wrap ((a : Int) + 1)) = .int .i64 ((a + 1 : Nat) : Int) := by
 rw [wrap_small] <;> first | rfl | omega
theorem sumI {a b : Nat} (h : a + b < 9223372036854775807) : Value.int .i64 (IntKind.i64.wrap ((a : Int) + b)) = .int .i64 ((a + b : Nat) : Int) := by
 rw [wrap_small] <;> first | rfl | omega
theorem mulI {a b : Nat} (h : a * b < 9223372036854775808) : Value.int .i64 (IntKind.i64.wrap ((a : Int) * b)) = .int .i64 ((a * b : Nat) : Int) := by
 rw [<- Int.natCast_mul, wrap_small] <;> first | rfl | omega
theorem minI (a b : Nat) : Value.int .i64 (min (a : Int) b) = .int .i64 ((min a b : Nat) : Int) := by congr 1; omega
theorem u64I {n : Nat} (h : n < W) : Value.int .u64 (IntKind.u64.wrap (n : Int)) = .int .u64 (n : Int) := by
 congr 1;unfold W at h;simp only [IntKind.wrap, IntKind.signed, IntKind.bits];simp; omega
theorem lsAt_of {w : World} {L b : Nat} {ps : List P4} {tl : List Value} {xs : List Int} (hr : RowAt w b 39 (rn ps tl)) (hl : ps.length = xs.length) (h : ∀ i, i < xs.length -> IntAt w L (av (gp ps i)) (gi xs i)) : LsAt w L (some ⟨b, 0, none⟩) xs := fun _ =>
 ⟨b, 0, rfl, hr.lt, fun i hi => ⟨gp ps i, by rw [Nat.zero_add]; exact (hr.cell _).trans (rn0 tl (by omega)), by rw [Nat.zero_add]; exact (hr.cell _).trans (rn1 tl (by omega)), by have := h i hi; rwa [gi_eq hi] at this⟩⟩
set_option maxRecDepth 100000 in
set_option maxHeartbeats 1000000 in
theorem KLike_c (v u : Value) (x y : Int) (w : World) (h1 : NumAt w v x) (h2 : NumAt w u y) (hx : wlen x.natAbs <= 17592186044415) (hy : wlen y.natAbs <= 17592186044415) :
 Calls Try.prog 21 #[v, u] w fun e w' => e = .returned (.bool (decide (x = y))) /\ Below w.heap.size w w' := by
 obtain ⟨ao1, cap1, rfl, hW1, _⟩ := h1.least;obtain ⟨ao2, cap2, rfl, hW2, _⟩ := h2.least;have hAL := alike_bool x y;obtain ⟨n1, hn1⟩ : ∃ n1, decide (x < 0) = n1 := ⟨_, rfl⟩;obtain ⟨n2, hn2⟩ : ∃ n2, decide (y < 0) = n2 := ⟨_, rfl⟩;obtain ⟨m, hm⟩ : ∃ m, decide (dig x.natAbs = dig y.natAbs) = m := ⟨_, rfl⟩;have hS := fun w' => RSame_c ao1 ao2 (wlen x.natAbs) cap1 (wlen y.natAbs) cap2 (dig x.natAbs) (dig y.natAbs) w';simp only [hm] at hS;obtain ⟨r, hr⟩ : ∃ r, decide (x = y) = r := ⟨_, rfl⟩;rw [hn1, hn2, hm, hr] at hAL;rw [hn1, hn2, hr];refine funW (S0 := fun _ => False) Try.func21 (Fr.nil _ w) ?_;refine goW ?_;refine rW [] ?_;refine aW fun g2 => ?_;refine aW fun g3 => ?_;refine dW ?_;refine eW ?_;refine goW ?_;refine rW [] ?_;refine dW ?_;refine dW ?_;refine dW ?_;refine dW ?_;clear hn1 hn2 hm hr;by_cases e : n1 = n2
 · subst e;have hAL : m = r := by simpa using hAL
   subst hAL;refine dB true ?_;refine dW ?_;refine dG ?_;refine dG ?_;refine dG ?_;refine dG ?_;refine cVg (fun w' H => hS w' (hW1.below H.below) (hW2.below H.below) rfl rfl hx hy) ?_;refine dW ?_;refine dW ?_;refine eW ?_;refine goW ?_;refine fin1 fun w' H => ?_;exact ⟨_, rvT, rfl, H.below⟩
 · have hr : r = false := by rw [<- hAL]; cases n1 <;> cases n2 <;> simp_all
   subst hr;refine dB false ?_;refine dW ?_;refine uG ?_;refine uG ?_;refine uG ?_;refine uG ?_;refine uC ?_;refine dW ?_;refine dW ?_;refine eW ?_;refine goW ?_;refine fin1 fun w' H => ?_;exact ⟨_, rvT, rfl, H.below⟩
theorem Fr.ln {S0 : Nat -> Prop} {w0 w : World} {es : List En} (h : Fr S0 w0 w es) {ao : Option Addr} {xs : List Int} (hx : LsN w ao xs) (hS : ∀ e ∈ es, e.wr = false) : Fr S0 w0 w (.lsn ao xs :: es) :=
 h.cons hx (fun e he => ⟨(fun q => nomatch q), fun q => by rw [hS e he] at q; cases q⟩) (fun q => nomatch q)
theorem LsN.pos {w : World} {ao : Option Addr} {xs : List Int} (h : LsN w ao xs) {i : Nat} (hi : i < xs.length) : ∃ b o, ao = some ⟨b, o, none⟩ := by
 obtain ⟨b, o, e, _⟩ := h (by omega);exact ⟨b, o, e⟩
section
variable {P : Program} {Q : Exit -> Act -> World -> Prop} {ds : List Deferred} {S0 : Nat -> Prop} {w0 : World} {n : Nat} {ls : List (Nat × Value)} {es : List En} {c : Code}
theorem numNW {xs : List Int} {b o : Nat} (i : Nat) (hm : En.lsn (some ⟨b, o, none⟩) xs ∈ es) (hi : i < xs.length) (k : ∀ p : P4, CWm ds P n S0 w0 c Q ls (.cell ⟨b, o + i * 2, none⟩ (.bool p.1) :: .cell ⟨b, o + i * 2 + 1, none⟩ (.slice p.2.1 p.2.2.1 p.2.2.2) :: .num (av p) (gi xs i) :: es)) : CWm ds P n S0 w0 c Q ls es := fun a w ha hw => by
 have hA : LsN w (some ⟨b, o, none⟩) xs := hw.all _ hm;obtain ⟨b', o', e, hb, hc⟩ := hA (by omega);cases e;obtain ⟨p, h0, h1, hx⟩ := hc i hi;rw [<- gi_eq hi] at hx;have hS : (En.lsn (some ⟨b, o, none⟩) xs).S b := ⟨by omega, o, rfl⟩;exact k p a w ha (((hw.pure (e := .num (av p) (gi xs i)) hx (fun _ h => h)).cellOf (List.mem_cons_of_mem _ hm) rfl hS h1).cellOf (List.mem_cons_of_mem _ (List.mem_cons_of_mem _ hm)) rfl hS h0)
end
set_option maxRecDepth 100000 in
set_option maxHeartbeats 2000000 in
theorem KLikeRow_c (aoA aoB : Option Addr) (cA cB : Nat) (xs ys : List Int) (w : World) (hA : LsN w aoA xs) (hB : LsN w aoB ys) (hmA : xs.length <= 8796093022208) (hmB : ys.length <= 8796093022208)
 (hx : ∀ x ∈ xs, wlen x.natAbs <= 17592186044415) (hy : ∀ x ∈ ys, wlen x.natAbs <= 17592186044415) :
 Calls Try.prog 10 #[.slice aoA xs.length cA, .slice aoB ys.length cB] w fun e w' => e = .returned (.bool (decide (xs = ys))) /\ Below w.heap.size w w' := by
 refine funW (S0 := fun _ => False) Try.func10 (((Fr.nil _ w).ln hA (by simp)).ln hB (by simp [En.wr, En.lsn])) ?_;refine goW ?_;refine rW [] ?_;refine dW ?_;refine eW ?_;refine goW ?_;refine rW [] ?_;refine dW ?_;refine dW ?_;refine dW ?_;refine dW ?_;by_cases hs : xs.length = ys.length
 · have HS := Lib.hid hs;have hne : ((xs.length : Int) != (ys.length : Int)) = false := by rw [hs]; simp
   clear hs;refine dB false ?_;refine eW ?_;refine goW ?_;refine cfW ?_;refine goW ?_;refine rW [] ?_;refine dW ?_;refine eW ?_;refine goW ?_;refine loopW (X := Nat) (fun i => i <= xs.length /\ ∀ k, k < i -> gi xs k = gi ys k) (fun i => xs.length - i) (fun i => [(5, .int .i64 (i : Int)), (0, .slice aoA xs.length cA), (1, .slice aoB ys.length cB)]) (fun _ => [.lsn aoB ys, .lsn aoA xs]) 0 ⟨Nat.zero_le _, fun k h => absurd h (Nat.not_lt_zero k)⟩ fun i hz => ?_;obtain ⟨hi, hag⟩ := hz;by_cases h : i < xs.length
   · have h' : i < ys.length := by have := HS.out; omega
     obtain ⟨bx, ox, rfl⟩ := hA.pos h;obtain ⟨b_, oy, rfl⟩ := hB.pos h';have HX := Lib.hid (hx _ (gi_mem h));have HY := Lib.hid (hy _ (gi_mem h'));have HH := Lib.hid h;refine goW ?_;refine rW [] ?_;refine dW ?_;refine dW ?_;refine dW ?_;refine dB true ?_;refine eW ?_;refine goW ?_;refine ctW ?_;refine numNW (xs := xs) (b := bx) (o := ox) i (by simp) h fun p => ?_;refine numNW (xs := ys) (b := b_) (o := oy) i (by simp) h' fun q => ?_;refine goW ?_;refine rW [] ?_;refine dW ?_;refine dW ?_;refine dW ?_;refine dW ?_;refine dW ?_;refine dW ?_;refine dW ?_;refine dW ?_;refine cV (fun w' H => KLike_c (av p) (av q) _ _ w' H.m5 H.m2 HX.out HY.out) ?_;by_cases e : gi xs i = gi ys i
     · have HE := Lib.hid e;rw [decide_eq_true e];clear e;refine dW ?_;refine eW ?_;refine goW ?_;refine cfW ?_;refine goW ?_;refine rW [] ?_;refine dW ?_;refine dE (incB (a := i) (by omega)) ?_;refine dW ?_;refine eW ?_;refine goW ?_;exact backW (i + 1) ⟨⟨h, fun k hk => by
        by_cases e : k = i
        · subst e; exact HE.out
        · exact hag k (by omega)⟩, by omega⟩
     · have hd : decide (xs = ys) = false := by
        rw [decide_eq_false_iff_not]; intro h; exact e (by rw [h])
       rw [decide_eq_false e, hd];refine dW ?_;refine eW ?_;refine goW ?_;refine ctW ?_;refine goW ?_;refine rW [] ?_;refine dW ?_;refine eW ?_;refine goW ?_;refine fin1 fun w' H => ?_;exact ⟨_, rvT, rfl, H.below⟩
   · obtain rfl : i = xs.length := by omega
     have hd : decide (xs = ys) = true := by
      rw [decide_eq_true_iff];refine List.ext_getElem HS.out fun j h1 h2 => ?_;have := hag j h1
      rwa [gi_eq h1, gi_eq h2] at this
     rw [hd];refine goW ?_;refine rW [] ?_;refine dW ?_;refine dW ?_;refine dW ?_;refine dB false ?_;refine eW ?_;refine goW ?_;refine cfW ?_;refine goW ?_;refine rW [] ?_;refine dW ?_;refine eW ?_;refine goW ?_;refine fin1 fun w' H => ?_;exact ⟨_, rvT, rfl, H.below⟩
 · have hne : ((xs.length : Int) != (ys.length : Int)) = true := by rw [bne_iff_ne]; omega
   have hd : decide (xs = ys) = false := by
    rw [decide_eq_false_iff_not]; intro h; exact hs (by rw [h])
   rw [hd];clear hs;refine dB true ?_;refine eW ?_;refine goW ?_;refine ctW ?_;refine goW ?_;refine rW [] ?_;refine dW ?_;refine eW ?_;refine goW ?_;refine fin1 fun w' H => ?_;exact ⟨_, rvT, rfl, H.below⟩
set_option maxRecDepth 100000 in
set_option maxHeartbeats 1000000 in
theorem KLikeMat_c (r c : Nat) (aoA aoB : Option Addr) (cA cB : Nat) (xs ys : List Int) (w : World) (hA : LsN w aoA xs) (hB : LsN w aoB ys) (hmA : xs.length <= 8796093022208) (hmB : ys.length <= 8796093022208)
 (hx : ∀ x ∈ xs, wlen x.natAbs <= 17592186044415) (hy : ∀ x ∈ ys, wlen x.natAbs <= 17592186044415) :
 Calls Try.prog 14 #[.agg #[.int .i64 (r : Int), .int .i64 (c : Int), .slice aoA xs.length cA], .agg #[.int .i64 (r : Int), .int .i64 (c : Int), .slice aoB ys.length cB]] w fun e w' => e = .returned (.bool (decide (xs = ys))) /\ Below w.heap.size w w' := by
 have hK := fun w' (hA : LsN w' aoA xs) (hB : LsN w' aoB ys) => KLikeRow_c aoA aoB cA cB xs ys w' hA hB hmA hmB hx hy;refine funW (S0 := fun _ => False) Try.func14 (Fr.nil _ w) ?_;refine goW ?_;refine rW [] ?_;refine aW fun g2 => ?_;refine aW fun g3 => ?_;refine dW ?_;refine eW ?_;refine goW ?_;refine rW [] ?_;refine dW ?_;refine dW ?_;refine dW ?_;refine dW ?_;refine dB true ?_;refine dW ?_;refine dG ?_;refine dG ?_;refine dG ?_;refine dG ?_;refine dGB true ?_;refine dW ?_;refine dW ?_;refine dG ?_;refine dG ?_;refine dG ?_;refine dG ?_;refine cVg (fun w' H => hK w' (hA.below H.below) (hB.below H.below)) ?_;refine dW ?_;refine dW ?_;refine eW ?_;refine goW ?_;refine fin1 fun w' H => ?_;exact ⟨_, rvT, rfl, H.below⟩
theorem INat_c (v u : Value) (x y : Nat) (w : World) (hA : IntAt w 17592186044415 v x) (hB : IntAt w 17592186044415 u y) (hy : y ≠ 0) :
 Calls Try.prog 96 #[v, u] w fun e w' => (∃ v' u', e = .returned (.tuple #[v', u', .int .i64 0]) /\ OwnI w' w.heap.size v' ((x / y : Nat) : Int) /\ OwnI w' w.heap.size u' ((x % y : Nat) : Int)) /\ Below w.heap.size w w' :=
 ITrunc_c v u x y w hA hB (by omega)
theorem zsign_neg {x : Int} (h : zsign x < 0) : x < 0 := by
 unfold zsign at h; split at h
 · assumption
 · split at h <;> omega
structure ExtX where
 r : Nat
 k : Nat
 m : Int
 l : Int
 p : P4
 q : P4
 s : P4
 t : P4
set_option maxRecDepth 100000 in
set_option maxHeartbeats 4000000 in
theorem IExt_c (v u : Value) (a b : Int) (w : World) (hA : IntAt w 4398046511103 v a) (hB : IntAt w 4398046511103 u b) :
 Calls Try.prog 93 #[v, u] w fun e w' => (∃ g x y vg vx vy, e = .returned (.tuple #[vg, vx, vy]) /\ ExtIs a b g x y /\ OwnI w' w.heap.size vg g /\ OwnI w' w.heap.size vx x /\ OwnI w' w.heap.size vy y) /\ Below w.heap.size w w' := by
 have hla := hA.wlen;have hlb := hB.wlen;obtain ⟨p, rfl⟩ := hA.parts;obtain ⟨q, rfl⟩ := hB.parts;have hA0 := hA;have hA := hA.mono (L' := 17592186044415) (by omega);have hB := hB.mono (L' := 17592186044415) (by omega);have hsa := zsign_cases a;refine funW (S0 := fun _ => False) Try.func93 (((Fr.nil _ w).i hA).i hB) ?_;refine goW ?_;refine rW [] ?_;refine aW fun g2 => ?_;refine aW fun g3 => ?_;refine aW fun g4 => ?_;refine aW fun g5 => ?_;refine aW fun g6 => ?_;refine eW ?_;refine goW ?_;refine rW [] ?_;refine dW ?_;refine cV (fun w H => ISign_c _ b w H.m5) ?_;refine dW ?_;refine eW ?_;refine goW ?_;refine condW (fun h => ?_) (fun h => ?_)
 · refine goW ?_;refine rW [[], [], [], [], [], [1, 2]] ?_;refine dH ?_;refine cN (fun w H => IAbs_c _ a w H.m6) fun p1 => ?_;refine dH ?_;refine cV (fun w H => ISign_c _ a w H.m7) ?_;refine cN (fun w H => IOf_c (zsign a) w (by omega) (by omega)) fun p2 => ?_;refine dH ?_;refine sW ?_;refine sW ?_;refine sW ?_;refine eW ?_;refine goW ?_;refine fin3 fun w H => ?_;obtain rfl : b = 0 := zsign_beq.1 (by simpa using h);exact ⟨_, _, _, rvI H.m4, rvI H.m3, rvI H.m2, ⟨_, _, _, _, _, _, rfl, extIs_zero a, H.m1, H.m0, OwnI.zero _ _⟩, H.below⟩
 refine goW ?_;refine rW [] ?_;refine dW ?_;refine cN (fun w H => IAbs_c _ a w H.m6) fun p1 => ?_;refine dW ?_;refine cN (fun w H => IAbs_c _ b w H.m6) fun p2 => ?_;refine dW ?_;refine aW fun g7 => ?_;refine sG ?_;refine eW ?_;refine goW ?_;refine rW [] ?_;refine cN (fun w H => IOf_c 1 w (by omega) (by omega)) fun p3 => ?_;refine cN (fun w H => IOf_c 0 w (by omega) (by omega)) fun p4 => ?_;refine dW ?_;refine aW fun g8 => ?_;refine sG ?_;refine eW ?_;refine goW ?_;have hb0 : b ≠ 0 := fun e => by rw [zsign_beq.2 e] at h; cases h
 refine loopW (X := ExtX) (fun x => EInv a.natAbs b x.r x.k x.m x.l /\ x.r <= max a.natAbs b.natAbs /\ x.k <= max a.natAbs b.natAbs) (·.k) (fun _ => [(8, .pointer (some ⟨g8, 0, none⟩)), (7, .pointer (some ⟨g7, 0, none⟩)), (6, .pointer (some ⟨g6, 0, none⟩)), (5, .pointer (some ⟨g5, 0, none⟩)), (4, .pointer (some ⟨g4, 0, none⟩)), (3, .pointer (some ⟨g3, 0, none⟩)), (2, .pointer (some ⟨g2, 0, none⟩))])
  (fun x => [.row g8 106 (cl x.s ++ cl x.t), .own w.heap.size (av x.t) x.l, .own w.heap.size (av x.s) x.m, .row g7 106 (cl x.p ++ cl x.q), .own w.heap.size (av x.q) x.k, .own w.heap.size (av x.p) x.r, .row g6 39 (cl p0), .row g5 39 (cl p0), .row g4 39 (cl p0), .row g3 39 (cl q), .row g2 39 (cl p), .at 17592186044415 (av q) b, .at 17592186044415 (av p) a])
  ⟨a.natAbs, b.natAbs, 1, 0, p1, p2, p3, p4⟩ ⟨EInv.start _ hb0, Nat.le_max_left .., Nat.le_max_right ..⟩ (fun x hx => ?_)
 · have hmx : wlen (max a.natAbs b.natAbs) <= 4398046511103 := by rcases Nat.le_total a.natAbs b.natAbs with h | h <;> simp [Nat.max_eq_left, Nat.max_eq_right, h, hla, hlb]
   obtain ⟨hE, hr, hk⟩ := hx;have br : wlen ((x.r : Nat) : Int).natAbs <= 4398046511103 := Nat.le_trans (wlen_mono hr) hmx;have bk : wlen ((x.k : Nat) : Int).natAbs <= 4398046511103 := Nat.le_trans (wlen_mono hk) hmx;have bm : wlen x.m.natAbs <= 4398046511103 := Nat.le_trans (wlen_mono hE.k0) hlb;have bl : wlen x.l.natAbs <= 4398046511103 := Nat.le_trans (wlen_mono hE.k1) hlb;refine goW ?_;refine rW [] ?_;refine dW ?_;refine dW ?_;refine cV (fun w H => ISign_c _ x.k w (OwnI.int H.m4 (by omega))) ?_;refine dW ?_;refine eW ?_;refine goW ?_;refine condW (fun h => ?_) (fun h => ?_)
   · have hk0 : x.k ≠ 0 := fun e => by rw [e] at h; cases h
     refine goW ?_;refine rW [] ?_;refine dW ?_;refine dW ?_;refine dW ?_;refine dW ?_;refine cN2 (fun w H => INat_c _ _ x.r x.k w (OwnI.int H.m5 (by omega)) (OwnI.int H.m4 (by omega)) (by omega)) fun p5 p6 => ?_;refine dW ?_;refine dW ?_;refine dW ?_;refine dW ?_;refine aW fun g9 => ?_;refine aW fun g10 => ?_;refine sG ?_;refine sG ?_;refine dW ?_;refine eW ?_;refine goW ?_;refine rW [] ?_;refine dW ?_;refine dW ?_;refine dW ?_;refine dW ?_;refine dW ?_;have hs := hE.step hk0;have bq : wlen ((x.r / x.k : Nat) : Int).natAbs <= 4398046511103 := Nat.le_trans (wlen_mono (Nat.le_trans (Nat.div_le_self ..) hr)) hmx;have bn := Nat.le_trans (wlen_mono hs.k1) hlb;refine cN (x := ((x.r / x.k : Nat) : Int) * x.l) (fun w H => IMul_c _ _ _ _ 4398046511103 4398046511103 w (OwnI.int H.m2 bq) (OwnI.int H.m5 bl) (by omega)) fun p7 => ?_;refine cN (fun w H => ISub_c _ _ _ _ w (OwnI.int H.m7 (by omega)) (OwnI.int H.m0 (Nat.le_trans (by rw [Int.natAbs_mul]; exact wlen_mul ..) (by omega : _ <= 17592186044415)))) fun p8 => ?_;refine aW fun g12 => ?_;refine sG ?_;refine eW ?_;refine goW ?_;refine rW [] ?_;refine dW ?_;refine dW ?_;refine dW ?_;refine dW ?_;refine sW ?_;refine eW ?_;refine goW ?_;refine rW [] ?_;refine dW ?_;refine dW ?_;refine dW ?_;refine dW ?_;refine sW ?_;refine eW ?_;refine goW ?_;refine backW ⟨x.k, x.r % x.k, x.l, x.m - ((x.r / x.k : Nat) : Int) * x.l, x.q, p6, x.t, p8⟩ ⟨⟨hs, hk, Nat.le_trans (Nat.le_of_lt (Nat.mod_lt _ (by omega))) hk⟩, Nat.mod_lt _ (by omega)⟩
   · have hk0 : x.k = 0 := by
      have := zsign_beq.1 (by simpa using h : zsign x.k = 0);omega
     rw [hk0] at hE;obtain ⟨hg, hd⟩ := hE.done hb0;have hmb := hE.k0;refine goW ?_;refine rW [[], [], [8], [8]] ?_;refine dH ?_;refine dH ?_;refine dH ?_;refine dH ?_;refine sW ?_;refine sW ?_;refine eW ?_;refine goW ?_;refine rW [] ?_;refine dW ?_;refine cV (fun w H => ISign_c _ a w H.m12) ?_;refine dW ?_;refine eW ?_;refine goW ?_;refine joinW (X := P4 × Int) (fun z => b ∣ (x.r : Int) - z.2 * a /\ wlen z.2.natAbs <= 4398046511103) (fun _ => [(6, .pointer (some ⟨g6, 0, none⟩)), (5, .pointer (some ⟨g5, 0, none⟩)), (4, .pointer (some ⟨g4, 0, none⟩)), (3, .pointer (some ⟨g3, 0, none⟩)), (2, .pointer (some ⟨g2, 0, none⟩))])
      (fun z => [.own w.heap.size (av z.1) z.2, .own w.heap.size (av x.p) x.r, .row g6 39 (cl p0), .row g5 39 (cl z.1), .row g4 39 (cl x.p), .row g3 39 (cl q), .row g2 39 (cl p), .at 17592186044415 (av q) b, .at 17592186044415 (av p) a]) ?_ (fun z hz => ?_)
     · refine condW (fun h => ?_) (fun h => ?_)
       · have ha := zsign_neg (by simpa using h);rw [if_pos ha] at hd;refine goW ?_;refine rW [] ?_;refine dW ?_;refine cN (fun w H => INeg_c _ x.m w (OwnI.int H.m2 (by omega))) fun p9 => ?_;refine sW ?_;refine eW ?_;refine goW ?_;exact joinE (p9, -x.m) ⟨hd, by simpa using bm⟩
       · have ha : ¬ a < 0 := fun e => by
          have : zsign a = -1 := by unfold zsign; rw [if_pos e]
          rw [this] at h; cases h
         rw [if_neg ha] at hd;refine goW ?_;exact joinE (x.s, x.m) ⟨hd, bm⟩
     · obtain ⟨pm, m⟩ := z;obtain ⟨h1, h2, h3, h4⟩ := ext_last hb0 hg hz.1;have bz : wlen m.natAbs <= 4398046511103 := hz.2;have hr0 : (x.r : Int) ≠ 0 := fun e => hb0 (Int.zero_dvd.1 (e ▸ h1));have bq : wlen (b / (x.r : Int)).natAbs <= 4398046511103 := Nat.le_trans (wlen_mono (Int.natAbs_ediv_le_natAbs _ _)) hlb;have bx : wlen (m % (b / (x.r : Int))).natAbs <= 4398046511103 := Nat.le_trans (wlen_mono (by have := Int.emod_nonneg m h2; have := Int.emod_lt m h2; omega)) bq;refine goW ?_;refine rW [] ?_;refine dW ?_;refine dW ?_;refine cN1 (fun w H => IExact_c _ _ b x.r w H.m7 (OwnI.int H.m1 (by omega)) hr0 h1) fun p9 => ?_;refine dW ?_;refine dW ?_;refine dW ?_;refine aW fun g13 => ?_;refine sG ?_;refine dW ?_;refine eW ?_;refine goW ?_;refine rW [[], [], [], [], [], [5]] ?_;refine dH ?_;refine dH ?_;refine cN1 (fun w H => IMod_c _ _ m _ w (OwnI.int H.m2 (by omega)) (OwnI.int H.m1 (by omega)) h2) fun p10 => ?_;refine dH ?_;refine dH ?_;refine dH ?_;refine sW ?_;refine eW ?_;refine goW ?_;refine rW [[], [], [], [], [], [], [], [], [], [5]] ?_;refine dH ?_;refine dH ?_;refine dH ?_;refine cN (fun w H => IMul_c _ _ a _ 4398046511103 4398046511103 w (IntAt.below hA0 H.below) (OwnI.int H.m0 bx) (by omega)) fun p11 => ?_;have bp : wlen (a * (m % (b / (x.r : Int)))).natAbs <= 8796093022206 := Nat.le_trans (by rw [Int.natAbs_mul]; exact wlen_mul ..) (by omega : _ <= 8796093022206);refine cN (fun w H => ISub_c _ _ _ _ w (OwnI.int H.m5 (by omega)) (OwnI.int H.m0 (by omega))) fun p12 => ?_;refine dH ?_;have bs : wlen ((x.r : Int) - a * (m % (b / (x.r : Int)))).natAbs <= 17592186044415 := by
        have h5 := wlen_mono (Int.natAbs_sub_le (x.r : Int) (a * (m % (b / (x.r : Int)))));have h6 := wlen_add (x.r : Int).natAbs (a * (m % (b / (x.r : Int)))).natAbs;have h7 : max (wlen (x.r : Int).natAbs) (wlen (a * (m % (b / (x.r : Int)))).natAbs) <= 8796093022206 := Nat.max_le.2 ⟨by omega, bp⟩;omega
       refine cN1 (fun w H => IExact_c _ _ _ b w (OwnI.int H.m0 bs) H.m12 hb0 h3) fun p13 => ?_;refine dH ?_;refine dH ?_;refine dH ?_;refine sW ?_;refine eW ?_;refine goW ?_;refine rW [[], [10], [10, 9]] ?_;refine dH ?_;refine dH ?_;refine dH ?_;refine sW ?_;refine sW ?_;refine sW ?_;refine eW ?_;refine goW ?_;refine fin3 fun w H => ?_;exact ⟨_, _, _, rvI H.m10, rvI H.m9, rvI H.m8, ⟨_, _, _, _, _, _, rfl, h4, H.m7, H.m3, H.m0⟩, H.below⟩
theorem remGW (a b : Nat) : Value.int .u64 ((a : Int).tmod (b : Int)) = .int .u64 ((a % b : Nat) : Int) := by
 rw [Int.tmod_eq_emod_of_nonneg (Int.natCast_nonneg a), Int.natCast_emod]
theorem digOne {n : Nat} (h0 : 0 < n) (h : n < W) : dig n = [n] := by
 have e := dig_nval (Ok.one h);have hv : nval [n] = n := by simp [nval]
 have hw : wlen n = 1 := by
  have e1 : wlen n ≠ 0 := fun e => by have := wlen_eq_zero.1 e; omega
  have e2 : wlen n <= 1 := wlen_le_of_lt (by simpa using h);omega
 have ht := wlen_nval (Ok.one h);rw [hv, hw] at ht;rw [hv, <- ht] at e;simpa using e
theorem wlenOne {n : Nat} (h0 : 0 < n) (h : n < W) : wlen n = 1 := by
 have e1 : wlen n ≠ 0 := fun e => by have := wlen_eq_zero.1 e; omega
 have e2 : wlen n <= 1 := wlen_le_of_lt (by simpa using h);omega
structure WdX where
 x : Nat
 y : Nat
structure WdI (g : Nat) (z : WdX) : Prop where
 hx : z.x < W
 hy : z.y < W
 h0 : 0 < g
 gcd : Nat.gcd z.x z.y = g
set_option maxRecDepth 100000 in
set_option maxHeartbeats 1000000 in
theorem DWords_c (x y : Nat) (w : World) (hx : x < W) (hy : y < W) (h0 : 0 < Nat.gcd x y) :
 Calls Try.prog 44 #[.int .u64 (x : Int), .int .u64 (y : Int)] w fun e w' => (∃ o c, e = .returned (.slice o (wlen (Nat.gcd x y)) c) /\ OwnW w' w.heap.size o (wlen (Nat.gcd x y)) c (dig (Nat.gcd x y))) /\ Below w.heap.size w w' := by
 obtain ⟨g, hg⟩ : ∃ g, Nat.gcd x y = g := ⟨_, rfl⟩;rw [hg] at h0 ⊢;refine funW (S0 := fun _ => False) Try.func44 (Fr.nil _ w) ?_;refine goW ?_;refine rW [] ?_;refine dW ?_;refine eW ?_;refine goW ?_;refine loopW (X := WdX) (WdI g) (fun z => z.y) (fun z => [(0, .int .u64 (z.x : Int)), (1, .int .u64 (z.y : Int))]) (fun _ => []) ⟨x, y⟩ ⟨hx, hy, h0, hg⟩ fun z hz => ?_;obtain ⟨x, y⟩ := z;obtain ⟨hx, hy, h0, hg⟩ := hz;have hx : x < W := hx;have hy : y < W := hy;have hg : Nat.gcd x y = g := hg;by_cases hy0 : y = 0
 · subst hy0;obtain rfl : x = g := by rw [<- hg, Nat.gcd_zero_right]
   refine goW ?_;refine rW [] ?_;refine dW ?_;refine dB false ?_;refine eW ?_;refine goW ?_;refine cfW ?_;refine goW ?_;refine rW [] ?_;refine dW ?_;refine bW (m := 1) fun g12 => ?_;refine dW ?_;refine eW ?_;refine goW ?_;refine fin1 fun w' H => ?_;rw [wlenOne h0 hx, digOne h0 hx];exact ⟨_, rvT, ⟨_, _, rfl, RowAt.own (ws := [x]) H.m0 (Ok.one hx) (H.own _ (List.mem_cons_self ..) rfl _ rfl |>.elim (fun h => h.elim) id) (by simp) rfl (by unfold maxLen; simp)⟩, H.below⟩
 · refine goW ?_;refine rW [] ?_;refine dW ?_;refine dB true ?_;refine eW ?_;refine goW ?_;refine ctW ?_;refine goW ?_;refine rW [] ?_;refine dW ?_;refine dW ?_;refine dW ?_;refine dE (remGW x y) ?_;refine dW ?_;refine dW ?_;refine eW ?_;refine goW ?_;exact backW (⟨y, x % y⟩ : WdX) ⟨⟨hy, Nat.lt_of_lt_of_le (Nat.mod_lt _ (by omega)) (Nat.le_of_lt hy), h0, by show Nat.gcd y (x % y) = g; rw [<- hg, Nat.gcd_comm x y, Nat.gcd_rec y x, Nat.gcd_comm]⟩, Nat.mod_lt _ (by omega)⟩
structure GcX where
 xo : Option Addr
 cx : Nat
 x : Nat
 yo : Option Addr
 cy : Nat
 y : Nat
structure GcI (g : Nat) (z : GcX) : Prop where
 hx : wlen z.x <= 17592186044415
 hy : wlen z.y <= 17592186044415
 gcd : Nat.gcd z.x z.y = g
set_option maxRecDepth 100000 in
set_option maxHeartbeats 4000000 in
theorem DGcd_c (ao bo : Option Addr) (la lb ca cb : Nat) (us vs : List Nat) (w : World) (hA : WAt w ao us) (hB : WAt w bo vs) (hla : la = us.length) (hlb : lb = vs.length) (hma : la <= 17592186044415) (hmb : lb <= 17592186044415) :
 Calls Try.prog 36 #[.slice ao la ca, .slice bo lb cb] w fun e w' => (∃ o c, e = .returned (.slice o (wlen (Nat.gcd (nval us) (nval vs))) c) /\ OwnW w' w.heap.size o (wlen (Nat.gcd (nval us) (nval vs))) c (dig (Nat.gcd (nval us) (nval vs)))) /\ Below w.heap.size w w' := by
 obtain ⟨g, hg⟩ : ∃ g, Nat.gcd (nval us) (nval vs) = g := ⟨_, rfl⟩;have wx : wlen (nval us) <= 17592186044415 := Nat.le_trans (wlen_nval_le hA.ok) (hla ▸ hma);have wy : wlen (nval vs) <= 17592186044415 := Nat.le_trans (wlen_nval_le hB.ok) (hlb ▸ hmb);rw [hg];refine funW (S0 := fun _ => False) Try.func36 (Fr.nil _ w) ?_;refine goW ?_;refine rW [] ?_;refine dW ?_;refine eW ?_;refine goW ?_;refine rW [] ?_;refine dW ?_;refine cW1 (fun w' H => Least_c ao la ca us w' (hA.below H.below) hla (by omega)) fun xo cx => ?_;refine dW ?_;refine cW1 (fun w' H => Least_c bo lb cb vs w' (hB.below H.below) hlb (by omega)) fun yo cy => ?_;refine dW ?_;refine dW ?_;refine eW ?_;refine goW ?_;refine loopW (X := GcX) (GcI g) (fun z => z.y) (fun z => [(6, .slice z.yo (wlen z.y) z.cy), (5, .slice z.xo (wlen z.x) z.cx)]) (fun z => [.ow w.heap.size z.xo z.x z.cx, .wat z.xo (dig z.x), .ow w.heap.size z.yo z.y z.cy, .wat z.yo (dig z.y)]) ⟨xo, cx, nval us, yo, cy, nval vs⟩ ⟨wx, wy, hg⟩ fun z hz => ?_;clear hg wx wy;obtain ⟨xo, cx, x, yo, cy, y⟩ := z;obtain ⟨hx, hy, hg⟩ := hz;have hx : wlen x <= 17592186044415 := hx;have hy : wlen y <= 17592186044415 := hy;have hg : Nat.gcd x y = g := hg;by_cases hy0 : y = 0
 · subst hy0;obtain rfl : x = g := by rw [<- hg, Nat.gcd_zero_right]
   clear hg;have hz := wlen_zero;refine goW ?_;refine rW [] ?_;refine dW ?_;refine dW ?_;refine dB false ?_;refine eW ?_;refine goW ?_;refine cfW ?_;refine goW ?_;refine rW [] ?_;refine dW ?_;refine dW ?_;refine eW ?_;refine goW ?_;refine fin1 fun w' H => ?_;exact ⟨_, rvT, ⟨_, _, rfl, H.m0⟩, H.below⟩
 · have hyl : 0 < wlen y := by
    rcases Nat.eq_zero_or_pos (wlen y) with h | h
    · exact absurd (wlen_eq_zero.1 h) hy0
    · exact h
   have HG := Lib.hid hg;clear hg;refine goW ?_;refine rW [] ?_;refine dW ?_;refine dW ?_;refine dB true ?_;refine eW ?_;refine goW ?_;refine ctW ?_;by_cases h1 : wlen x = 1 /\ wlen y = 1
   · obtain ⟨h1, h2⟩ := h1;have hxW : x < W := by have := lt_pow_wlen x; rw [h1] at this; simpa using this
     have hyW : y < W := by have := lt_pow_wlen y; rw [h2] at this; simpa using this
     have hx0 : 0 < x := by
      rcases Nat.eq_zero_or_pos x with h | h
      · subst h; rw [wlen_zero] at h1; omega
      · exact h
     have ex := digOne hx0 hxW;have ey := digOne (Nat.pos_of_ne_zero hy0) hyW;rw [ex, ey, h1, h2];refine goW ?_;refine rW [] ?_;refine dW ?_;refine dW ?_;refine dW ?_;refine dW ?_;refine dG ?_;refine dG ?_;refine dG ?_;refine dW ?_;refine eW ?_;refine goW ?_;refine ctW ?_;refine posW (ao := xo) (ws := [x]) (by simp) (by simp) fun bx ox e => ?_;subst e;refine posW (ao := yo) (ws := [y]) (by simp) (by simp) fun b_ oy e => ?_;subst e;refine word00W (ws := [x]) (b := bx) (o := ox) (by simp) (by simp) ?_;refine word00W (ws := [y]) (b := b_) (o := oy) (by simp) (by simp) ?_;rw [show gw [x] 0 = x by simp [gw], show gw [y] 0 = y by simp [gw]];refine goW ?_;refine rW [] ?_;refine dW ?_;refine dW ?_;refine dW ?_;refine dW ?_;refine dW ?_;refine dW ?_;refine cW1 (m := g) (fun w' H => by have := DWords_c x y w' hxW hyW (Nat.gcd_pos_of_pos_left _ hx0); rw [HG.out] at this; exact this) fun o c => ?_;refine dW ?_;refine eW ?_;refine goW ?_;refine fin1 fun w' H => ?_;exact ⟨_, rvT, ⟨_, _, rfl, H.m0⟩, H.below⟩
   · refine goW ?_;refine rW [] ?_;refine dW ?_;refine dW ?_;rcases (Decidable.em (wlen x = 1)) with h2 | h2
     case' inl =>
      have h3 : ¬ wlen y = 1 := fun h => h1 ⟨h2, h⟩;refine dB true ?_;refine dW ?_;refine dG ?_;refine dG ?_;refine dGB false ?_;refine dW ?_
     case' inr =>
      refine dB false ?_;refine dW ?_;refine uG ?_;refine uG ?_;refine uG ?_;refine dW ?_
     all_goals
      refine eW ?_;refine goW ?_;refine cfW ?_;refine goW ?_;refine rW [] ?_;refine dW ?_;refine dW ?_;refine cW2 (m := x / y) (q := x % y) (fun w' H => by
       have := DivMod_c xo yo (wlen x) (wlen y) cx cy (dig x) (dig y) w' H.m1 H.m3 (dig_length x).symm (dig_length y).symm hx hy (by rw [nval_dig]; exact hy0);simp only [nval_dig] at this;exact this) fun qo cq ro cr => ?_
      refine dW ?_;refine dW ?_;refine dW ?_;refine dW ?_;refine dW ?_;refine dW ?_;refine dW ?_;refine eW ?_;refine goW ?_;refine rW [] ?_;refine dW ?_;refine dW ?_;refine dW ?_;refine dW ?_;refine eW ?_;refine goW ?_;exact backW (⟨yo, cy, y, ro, cr, x % y⟩ : GcX) ⟨⟨hy, Nat.le_trans (wlen_mono (Nat.mod_le ..)) hx, by show Nat.gcd y (x % y) = g; rw [<- HG.out, Nat.gcd_comm x y, Nat.gcd_rec y x, Nat.gcd_comm]⟩, Nat.mod_lt _ (by omega)⟩
set_option maxRecDepth 100000 in
set_option maxHeartbeats 1000000 in
theorem BGcd_c (v u : Value) (x y : Int) (w : World) (hA : IntAt w 17592186044415 v x) (hB : IntAt w 17592186044415 u y) :
 Calls Try.prog 23 #[v, u] w fun e w' => (∃ v', e = .returned v' /\ OwnI w' w.heap.size v' (Int.gcd x y : Int)) /\ Below w.heap.size w w' := by
 obtain ⟨n, ao, len, cap, ws, rfl, hW, hl, hL1, hc, hx⟩ := hA;obtain ⟨n2, ao2, len2, cap2, ws2, rfl, hW2, hl2, hL2, hc2, hx2⟩ := hB;have hg : Int.gcd x y = Nat.gcd (nval ws) (nval ws2) := by rw [hx, hx2]; unfold Int.gcd; rw [zi_abs, zi_abs]
 rw [hg];refine funW (S0 := fun _ => False) Try.func23 (Fr.nil _ w) ?_;refine goW ?_;refine rW [] ?_;refine aW fun g2 => ?_;refine aW fun g3 => ?_;refine aW fun g4 => ?_;refine eW ?_;refine goW ?_;refine rW [] ?_;refine dW ?_;refine dW ?_;refine dW ?_;refine dW ?_;refine cW1 (fun w' H => DGcd_c ao ao2 len len2 cap cap2 ws ws2 w' (hW.below H.below) (hW2.below H.below) hl hl2 hL1 hL2) fun o c => ?_;refine dW ?_;refine sW ?_;refine eW ?_;refine goW ?_;refine fin1 fun w' H => ?_;exact ⟨_, rvI H.m2, ⟨_, rfl, ow_own H.m0⟩, H.below⟩
theorem zsign_zero {x : Int} : zsign x = 0 ↔ x = 0 := by
 unfold zsign;constructor
 · intro h; split at h <;> first | omega | (split at h <;> omega)
 · rintro rfl; rfl
theorem lcm_int (x y : Int) : ((x / (Int.gcd x y : Int) * y).natAbs : Int) = (Int.lcm x y : Int) := by
 congr 1;have hd : (Int.gcd x y : Int) ∣ x := Int.gcd_dvd_left ..;rw [Int.natAbs_mul, Int.natAbs_ediv_of_dvd hd, Int.natAbs_natCast];unfold Int.lcm Nat.lcm;have h2 : Int.gcd x y ∣ x.natAbs := Nat.gcd_dvd_left ..;show _ = x.natAbs * y.natAbs / Int.gcd x y;rw [Nat.mul_comm x.natAbs, Nat.mul_div_assoc _ h2, Nat.mul_comm]
set_option maxRecDepth 100000 in
set_option maxHeartbeats 1000000 in
theorem BLcm_c (v u : Value) (x y : Int) (L : Nat) (w : World) (hA : IntAt w L v x) (hB : IntAt w L u y) (hL : L <= 8796093022207) :
 Calls Try.prog 24 #[v, u] w fun e w' => (∃ v', e = .returned v' /\ OwnI w' w.heap.size v' (Int.lcm x y : Int)) /\ Below w.heap.size w w' := by
 have hlx := hA.wlen;obtain ⟨p, rfl⟩ := hA.parts;obtain ⟨q, rfl⟩ := hB.parts;have hd : (Int.gcd x y : Int) ∣ x := Int.gcd_dvd_left ..;have hlc := lcm_int x y;have h00 : (Int.gcd x y : Int) = 0 -> Int.lcm x y = 0 := fun h => by
  have : Int.gcd x y = 0 := by omega
  have h1 := (Int.gcd_eq_zero_iff.1 this).1;subst h1; simp
 have hgl : wlen (Int.gcd x y) <= 17592186044415 := by
  rcases Nat.eq_zero_or_pos x.natAbs with h | h
  · have : x = 0 := by omega
    subst this;rw [Int.gcd_zero_left]; have := hB.wlen; omega
  · exact Nat.le_trans (wlen_mono (Nat.gcd_le_left _ h)) (by omega)
 have hql : wlen (x / (Int.gcd x y : Int)).natAbs <= L := Nat.le_trans (wlen_mono (by rw [Int.natAbs_ediv_of_dvd hd]; exact Nat.div_le_self ..)) hlx;have hml : wlen (x / (Int.gcd x y : Int) * y).natAbs <= 17592186044415 := by
  rw [Int.natAbs_mul]; exact Nat.le_trans (wlen_mul ..) (by have := hB.wlen; omega)
 refine funW (S0 := fun _ => False) Try.func24 (((Fr.nil _ w).i hB).i hA) ?_;refine goW ?_;refine rW [] ?_;refine aW fun g2 => ?_;refine aW fun g3 => ?_;refine aW fun g4 => ?_;refine eW ?_;refine goW ?_;refine rW [] ?_;refine dW ?_;refine dW ?_;refine cN (fun w H => BGcd_c _ _ x y w (H.m3.mono (by omega)) (H.m4.mono (by omega))) fun p10 => ?_;refine aW fun g5 => ?_;refine sG ?_;refine eW ?_;refine goW ?_;refine rW [] ?_;refine dW ?_;refine cV (fun w H => ISign_c _ _ w (OwnI.int H.m1 hgl)) ?_;obtain ⟨g, hg⟩ : ∃ g : Int, (Int.gcd x y : Int) = g := ⟨_, rfl⟩;have hgl' : wlen g.natAbs <= 17592186044415 := by rw [<- hg]; exact hgl
 rw [hg] at hd hlc h00 hql hml ⊢;clear hg hgl;by_cases h0 : g = 0
 · have hz : zsign g = 0 := zsign_zero.2 h0;rw [h00 h0];refine dB true ?_;refine eW ?_;refine goW ?_;refine ctW ?_;refine goW ?_;refine rW [] ?_;refine dW ?_;refine sW ?_;refine eW ?_;refine goW ?_;refine fin1 fun w' H => ?_;exact ⟨_, rvI H.m2, ⟨_, rfl, OwnI.zero _ _⟩, H.below⟩
 · have hz : ¬ zsign g = 0 := fun h => h0 (zsign_zero.1 h);rw [<- hlc];refine dB false ?_;refine eW ?_;refine goW ?_;refine cfW ?_;refine goW ?_;refine rW [] ?_;refine dW ?_;refine dW ?_;refine cN1 (fun w H => IExact_c _ _ x g w (H.m5.mono (by omega)) (OwnI.int H.m1 hgl') h0 hd) fun p18 => ?_;refine dW ?_;refine dW ?_;refine dW ?_;refine aW fun g6 => ?_;refine sG ?_;refine dW ?_;refine eW ?_;refine goW ?_;refine rW [] ?_;refine dW ?_;refine dW ?_;refine cN (fun w H => IMul_c _ _ _ y L L w (OwnI.int H.m1 hql) H.m8 (by omega)) fun p23 => ?_;refine cN (fun w H => IAbs_c _ _ w (OwnI.int H.m0 hml)) fun p24 => ?_;refine sW ?_;refine eW ?_;refine goW ?_;refine fin1 fun w' H => ?_;exact ⟨_, rvI H.m6, ⟨_, rfl, H.m0⟩, H.below⟩
theorem idxL {r c i j : Nat} (hi : i < r) (hj : j < c) : i * c + j < r * c := by
 have h1 : (i + 1) * c <= r * c := Nat.mul_le_mul_right _ hi;have h2 : (i + 1) * c = i * c + c := Nat.succ_mul i c;omega
section
variable {P : Program} {ops : Array Oper} {Q : Exit -> Act -> World -> Prop} {ds : List Deferred} {S0 : Nat -> Prop} {w0 : World} {E0 : List En} {n j s sg g : Nat} {l : List Nat} {G E : List En} {ls : List (Nat × Value)} {op : Op} {ty : TypeId} {pos : String} {af : Array Edge} {v v' : Value} {want : Bool}
theorem dGE (hv : v' = v) (k : RWm ds ⟨P, ops, Q, S0, w0, E0, []⟩ n l G E ((s, v) :: ls))
 (ho : ops[j]? = some ⟨some s, op, ty, pos, af, some (g, want)⟩ := by rfl) (hk : (isDet op && chkO ls op && Nat.blt s n) = true := by kernel_rfl)
 (hg : (ops[g]?).bind (·.dst) = some sg := by rfl) (hi : inLs ls (.tmp sg) = true := by kernel_rfl) (hb : evl ls (.tmp sg) = .bool want := by (simp only [evlN, Nat.reduceEqDiff, ↓reduceIte]) <;> first | rfl | simp [*])
 (hr : ∀ w, (isLd op = true -> Fr S0 w0 w E0) -> (execOp (evl ls) ⟨some s, op, ty, pos, af, some (g, want)⟩).run P w = .ok (.value v') w := by intro w H; (first | (have c := (H rfl).c; try simp only [celN, cl, List.cons_append, List.nil_append] at c) | skip); clear H; go_simp <;> with_reducible rfl) : RWm ds ⟨P, ops, Q, S0, w0, E0, []⟩ n (j :: l) G E ls :=
 dG k ho hk hg hi hb (by rw [<- hv]; exact hr)
end
theorem Fr.cl {S0 : Nat -> Prop} {w0 w : World} {es : List En} (h : Fr S0 w0 w es) {a : Addr} {v : Value} (hc : w.cell? a = some v) (hS : ∀ e ∈ es, e.wr = false) : Fr S0 w0 w (.cell a v :: es) :=
 h.cons (e := .cell a v) hc (fun e he => ⟨(fun q => nomatch q), fun q => by rw [hS e he] at q; cases q⟩) (fun q => nomatch q)
def diagL (c k : Nat) (xs : List Int) : List Int := (List.range k).map fun i => gi xs (i * c + i)
theorem diagL_length (c k : Nat) (xs : List Int) : (diagL c k xs).length = k := by simp [diagL]
theorem gi_diagL {c k : Nat} {xs : List Int} {i : Nat} (h : i < k) : gi (diagL c k xs) i = gi xs (i * c + i) := by
 rw [gi_eq (by rw [diagL_length]; exact h)]; simp [diagL]
structure L1X where
 i : Nat
 ps : List P4
 zs : List Int
structure L1I (xs : List Int) (c k : Nat) (z : L1X) : Prop where
 hi : z.i <= k
 hp : z.ps.length = k
 hz : z.zs.length = k
 ok : ∀ q, q < z.i -> gi z.zs q = gi xs (q * c + q)
set_option maxRecDepth 100000 in
set_option maxHeartbeats 2000000 in
theorem SList_c (r c : Nat) (ao : Option Addr) (cap L : Nat) (xs : List Int) (w : World) (hr : r <= 64) (hc : c <= 64) (hA : LsAt w L ao xs) (hL : L <= 17592186044415) (hs : xs.length = r * c) :
 Calls Try.prog 15 #[.agg #[.int .i64 (r : Int), .int .i64 (c : Int), .slice ao xs.length cap]] w fun e w' => (∃ b, e = .returned (.slice (some ⟨b, 0, none⟩) (min r c) (min r c)) /\ w.heap.size <= b /\ RowN w' b (diagL c (min r c) xs)) /\ Below w.heap.size w w' := by
 have hkr : min r c <= r := Nat.min_le_left ..;have hkc : min r c <= c := Nat.min_le_right ..;have HS0 : Hid (xs.length = r * c) := Lib.hid hs;clear hs;refine funW (S0 := fun _ => False) Try.func15 ((Fr.nil _ w).l hA (by simp)) ?_;refine goW ?_;refine rW [] ?_;refine aW fun g1 => ?_;refine dW ?_;refine eW ?_;refine goW ?_;refine rW [] ?_;refine dW ?_;refine dW ?_;refine dW ?_;refine dW ?_;refine dE (minI r c) ?_;obtain ⟨k, hk⟩ : ∃ k, min r c = k := ⟨_, rfl⟩;rw [hk] at hkr hkc ⊢;refine mN k k rfl rfl (Nat.le_refl _) (by omega) fun b => ?_;refine dW ?_;refine eW ?_;refine addW (e := .ns (List.replicate k p0) (List.replicate k 0)) (fun w' _ => NsAt.zeros w' k) ?_;refine goW ?_;refine rW [] ?_;refine dW ?_;refine dW ?_;refine dW ?_;refine eW ?_;refine goW ?_;refine loopW (X := L1X) (L1I xs c k) (fun z => k - z.i) (fun z => [(13, .int .i64 (z.i : Int)), (12, .int .i64 (k : Int)), (1, .pointer (some ⟨g1, 0, none⟩)), (3, .slice (some ⟨b, 0, none⟩) k k)]) (fun z => [.row b 39 (rn z.ps []), .row g1 24 [.int .i64 (r : Int), .int .i64 (c : Int), .slice ao xs.length cap], .ns z.ps z.zs, .ls L ao xs]) ⟨0, List.replicate k p0, List.replicate k 0⟩ ⟨Nat.zero_le _, by simp, by simp, fun q h => absurd h (Nat.not_lt_zero q)⟩ fun z hz => ?_;obtain ⟨i, ps, zs⟩ := z;obtain ⟨hi, hp, hz, hok⟩ := hz
 replace hi : i <= k := hi
 replace hp : ps.length = k := hp
 replace hz : zs.length = k := hz
 replace hok : ∀ q, q < i -> gi zs q = gi xs (q * c + q) := hok
 have HZ : Hid (ps.length = k /\ zs.length = k /\ ∀ q, q < i -> gi zs q = gi xs (q * c + q)) := Lib.hid ⟨hp, hz, hok⟩;have HS : Hid (xs.length = r * c /\ min r c = k) := Lib.hid ⟨HS0.out, hk⟩;clear hp hz hok hk;by_cases h : i < k
 · have h01 : (i : Int) < (k : Int) := by omega
   have hlt := idxL (r := r) (c := c) (i := i) (j := i) (by omega) (by omega);have hrc : r * c <= 4096 := Nat.mul_le_mul hr hc;obtain ⟨bx, ox, rfl⟩ := hA.pos (i := i * c + i) (by rw [HS.out.1]; exact hlt);obtain ⟨A, hA'⟩ : ∃ A, i * c = A := ⟨_, rfl⟩;obtain ⟨B, hB⟩ : ∃ B, A + i = B := ⟨_, rfl⟩;have hBl : B < xs.length := by rw [HS.out.1, <- hB, <- hA']; exact hlt
   have hBl' : (B : Int) < (xs.length : Int) := by omega
   have hAs : i * c < 9223372036854775808 := by omega
   have hgl : A + i < 9223372036854775807 := by omega
   have HAB : Hid (i * c + i = B) := Lib.hid (by rw [hA', hB]);refine goW ?_;refine rW [] ?_;refine dB true ?_;refine eW ?_;refine goW ?_;refine ctW ?_;refine numW (L := L) (xs := xs) (b := bx) (o := ox) B (by simp) hBl fun p => ?_;clear hBl hlt hrc;refine goW ?_;refine rW [] ?_;refine dW ?_;refine dW ?_;refine eW ?_;refine goW ?_;refine rW [] ?_;refine dW ?_;refine dW ?_;refine dW ?_;refine dW ?_;refine dW ?_;refine dW ?_;refine dW ?_;refine dE ((mulI (a := i) (b := c) hAs).trans (by rw [hA'])) ?_;refine dW ?_;refine dE ((sumI (a := A) (b := i) hgl).trans (by rw [hB])) ?_;clear hA' hB hAs;refine dW ?_;refine dW ?_;refine cN (fun w' H => ILeast_c (av p) _ w' (H.m2.mono hL)) fun q => ?_;refine dW ?_;refine moreW (e := .ns (ps.set i q) (zs.set i (gi xs B))) (fun w' H => NsAt.set H.m6 i H.m0.num) ?_;refine sN (ps := ps) i q (by rw [HZ.out.1]; exact h) NoW.nil rfl ?_;refine eW ?_;refine goW ?_;refine rW [] ?_;refine dE (incB (a := i) (by omega)) ?_;refine dW ?_;refine eW ?_;refine goW ?_;refine backW (⟨i + 1, ps.set i q, zs.set i (gi xs B)⟩ : L1X) ⟨⟨h, by simpa using HZ.out.1, by simpa using HZ.out.2.1, fun q hq => ?_⟩, by show k - (i + 1) < k - i; omega⟩;show gi (zs.set i (gi xs B)) q = _;rw [gi_set (by rw [HZ.out.2.1]; exact h)];by_cases e : q = i
   · subst e; rw [if_pos rfl, HAB.out]
   · rw [if_neg e]; exact HZ.out.2.2 q (by have : q < i + 1 := hq; omega)
 · obtain rfl : i = k := by omega
   have hzs : zs = diagL c i xs := by
    refine List.ext_getElem (by rw [HZ.out.2.1, diagL_length]) fun q h1 h2 => ?_;have hq : q < i := by rw [HZ.out.2.1] at h1; exact h1
    have := HZ.out.2.2 q hq;rw [<- gi_diagL hq, gi_eq h1, gi_eq h2] at this; exact this
   subst hzs;refine goW ?_;refine rW [] ?_;refine dB false ?_;refine eW ?_;refine goW ?_;refine cfW ?_;refine goW ?_;refine rW [] ?_;refine dW ?_;refine dW ?_;refine eW ?_;refine goW ?_;refine fin1 fun w' H => ?_;exact ⟨_, rvT, ⟨b, rfl, (H.own _ (List.mem_cons_self ..) rfl _ rfl).elim (fun h => h.elim) id, RowN.mk' H.m0 NoW.nil H.m2⟩, H.below⟩
def IsDg (r c : Nat) (xs : List Int) : Prop := ∀ i j, i < r -> j < c -> i ≠ j -> gi xs (i * c + j) = 0
theorem IsDg.not {r c i j : Nat} {xs : List Int} (hi : i < r) (hj : j < c) (hne : i ≠ j) (h : gi xs (i * c + j) ≠ 0) : ¬ IsDg r c xs := fun q => h (q i j hi hj hne)
set_option maxRecDepth 100000 in
set_option maxHeartbeats 2000000 in
theorem SDiag_c (r c : Nat) (ao : Option Addr) (cap L : Nat) (xs : List Int) (w : World) (hr : r <= 64) (hc : c <= 64) (hA : LsAt w L ao xs) (hL : L <= 17592186044415) (hs : xs.length = r * c) :
 Calls Try.prog 26 #[.agg #[.int .i64 (r : Int), .int .i64 (c : Int), .slice ao xs.length cap]] w fun e w' => (∃ t, e = .returned (.bool t) /\ (t = true ↔ IsDg r c xs)) /\ Below w.heap.size w w' := by
 have HS : Hid (xs.length = r * c) := Lib.hid hs;clear hs;refine funW (S0 := fun _ => False) Try.func26 ((Fr.nil _ w).l hA (by simp)) ?_;refine goW ?_;refine rW [] ?_;refine aW fun g1 => ?_;refine dW ?_;refine eW ?_;refine goW ?_;refine rW [] ?_;refine dW ?_;refine dW ?_;refine dW ?_;refine eW ?_;refine goW ?_;refine loopW (X := Nat) (fun i => i <= r /\ Hid (∀ a b, a < i -> b < c -> a ≠ b -> gi xs (a * c + b) = 0)) (fun i => r - i) (fun i => [(7, .int .i64 (i : Int)), (6, .int .i64 (r : Int)), (1, .pointer (some ⟨g1, 0, none⟩))]) (fun _ => [.row g1 24 [.int .i64 (r : Int), .int .i64 (c : Int), .slice ao xs.length cap], .ls L ao xs]) 0 ⟨Nat.zero_le _, Lib.hid fun a b h => absurd h (Nat.not_lt_zero a)⟩ fun i hi => ?_;obtain ⟨hi, HI⟩ := hi;by_cases h : i < r
 · have h01 : (i : Int) < (r : Int) := by omega
   refine goW ?_;refine rW [] ?_;refine dB true ?_;refine eW ?_;refine goW ?_;refine ctW ?_;refine goW ?_;refine rW [] ?_;refine dW ?_;refine dW ?_;refine eW ?_;refine goW ?_;refine rW [] ?_;refine dW ?_;refine dW ?_;refine dW ?_;refine eW ?_;refine goW ?_;refine loopW (X := Nat) (fun j => j <= c /\ Hid (∀ b, b < j -> i ≠ b -> gi xs (i * c + b) = 0)) (fun j => c - j) (fun j => [(12, .int .i64 (j : Int)), (11, .int .i64 (c : Int)), (7, .int .i64 (i : Int)), (6, .int .i64 (r : Int)), (3, .int .i64 (i : Int)), (1, .pointer (some ⟨g1, 0, none⟩))]) (fun _ => [.row g1 24 [.int .i64 (r : Int), .int .i64 (c : Int), .slice ao xs.length cap], .ls L ao xs]) 0 ⟨Nat.zero_le _, Lib.hid fun b h => absurd h (Nat.not_lt_zero b)⟩ fun j hj => ?_;obtain ⟨hj, HJ⟩ := hj;by_cases h' : j < c
   · have h02 : (j : Int) < (c : Int) := by omega
     have hlt := idxL h h';have hrc : r * c <= 4096 := Nat.mul_le_mul hr hc;obtain ⟨bx, ox, rfl⟩ := hA.pos (i := i * c + j) (by rw [HS.out]; exact hlt);obtain ⟨A, hA'⟩ : ∃ A, i * c = A := ⟨_, rfl⟩;obtain ⟨B, hB⟩ : ∃ B, A + j = B := ⟨_, rfl⟩;have hBl : B < xs.length := by rw [HS.out, <- hB, <- hA']; exact hlt
     have hBl' : (B : Int) < (xs.length : Int) := by omega
     have hAs : i * c < 9223372036854775808 := by omega
     have HAB : Hid (i * c + j = B) := Lib.hid (by rw [hA', hB]);have hgl : A + j < 9223372036854775807 := by omega
     refine goW ?_;refine rW [] ?_;refine dB true ?_;refine eW ?_;refine goW ?_;refine ctW ?_;refine numW (L := L) (xs := xs) (b := bx) (o := ox) B (by simp) hBl fun p => ?_;clear hBl hlt hrc;refine goW ?_;refine rW [] ?_;refine dW ?_;refine dW ?_;refine eW ?_;refine goW ?_;refine rW [] ?_;refine dW ?_;refine dW ?_;by_cases hnz : i ≠ j /\ gi xs B ≠ 0
     · obtain ⟨e, hz⟩ := hnz;have hz' : ¬ zsign (gi xs B) = 0 := fun q => hz (zsign_zero.1 q);have hnd : ¬ IsDg r c xs := IsDg.not h h' e (by rw [HAB.out]; exact hz);refine dB true ?_;refine dW ?_;refine dG ?_;refine dG ?_;refine dG ?_;refine dG ?_;refine dG ?_;refine dGE ((mulI (a := i) (b := c) hAs).trans (by rw [hA'])) ?_;refine dG ?_;refine dGE ((sumI (a := A) (b := j) hgl).trans (by rw [hB])) ?_;refine dG ?_;refine dG ?_;refine cVg (fun w' H => ISign_c (av p) _ w' (H.m2.mono hL)) ?_;refine dGB true ?_;refine dW ?_;refine eW ?_;refine goW ?_;refine ctW ?_;refine goW ?_;refine rW [] ?_;refine dW ?_;refine eW ?_;refine goW ?_;refine fin1 fun w' H => ?_;exact ⟨_, rvT, ⟨false, rfl, (fun q => nomatch q), fun q => absurd q hnd⟩, H.below⟩
     · have hz : i ≠ j -> zsign (gi xs B) = 0 := fun e => zsign_zero.2 (Decidable.byContradiction fun q => hnz ⟨e, q⟩);have HJ' : Hid (∀ b, b < j + 1 -> i ≠ b -> gi xs (i * c + b) = 0) := Lib.hid fun b hb hne => by
        by_cases e : b = j
        · subst e; rw [HAB.out]; exact Decidable.byContradiction fun q => hnz ⟨hne, q⟩
        · exact HJ.out b (by omega) hne
       clear hnz;rcases Decidable.em (i = j) with e | e
       case' inl =>
        refine dB false ?_;refine dW ?_;refine uG ?_;refine uG ?_;refine uG ?_;refine uG ?_;refine uG ?_;refine uG ?_;refine uG ?_;refine uG ?_;refine uG ?_;refine uG ?_;refine uC ?_;refine uG ?_;refine dW ?_
       case' inr =>
        replace hz := hz e
        refine dB true ?_;refine dW ?_;refine dG ?_;refine dG ?_;refine dG ?_;refine dG ?_;refine dG ?_;refine dGE ((mulI (a := i) (b := c) hAs).trans (by rw [hA'])) ?_;refine dG ?_;refine dGE ((sumI (a := A) (b := j) hgl).trans (by rw [hB])) ?_;refine dG ?_;refine dG ?_;refine cVg (fun w' H => ISign_c (av p) _ w' (H.m2.mono hL)) ?_;refine dGB false ?_;refine dW ?_
       all_goals
        refine eW ?_;refine goW ?_;refine cfW ?_;refine goW ?_;refine rW [] ?_;refine dE (incB (a := j) (by omega)) ?_;refine dW ?_;refine eW ?_;refine goW ?_;exact backW (j + 1) ⟨⟨h', HJ'⟩, by show c - (j + 1) < c - j; omega⟩
   · obtain rfl : j = c := by omega
     have HI' : Hid (∀ a b, a < i + 1 -> b < j -> a ≠ b -> gi xs (a * j + b) = 0) := Lib.hid fun a b ha hb hne => by
      by_cases e : a = i
      · subst e; exact HJ.out b hb hne
      · exact HI.out a b (by omega) hb hne
     refine goW ?_;refine rW [] ?_;refine dB false ?_;refine eW ?_;refine goW ?_;refine cfW ?_;refine goW ?_;refine rW [] ?_;refine dE (incB (a := i) (by omega)) ?_;refine dW ?_;refine eW ?_;refine goW ?_;exact backW (i + 1) ⟨⟨h, HI'⟩, by show r - (i + 1) < r - i; omega⟩
 · obtain rfl : i = r := by omega
   refine goW ?_;refine rW [] ?_;refine dB false ?_;refine eW ?_;refine goW ?_;refine cfW ?_;refine goW ?_;refine rW [] ?_;refine dW ?_;refine eW ?_;refine goW ?_;refine fin1 fun w' H => ?_;exact ⟨_, rvT, ⟨true, rfl, fun _ => HI.out, fun _ => rfl⟩, H.below⟩
theorem SDiag_v {r c : Nat} {ao : Option Addr} {cap L : Nat} {xs : List Int} {w : World} (t : Bool) (hr : r <= 64) (hc : c <= 64) (hA : LsAt w L ao xs) (hL : L <= 17592186044415) (hs : xs.length = r * c) (ht : t = true ↔ IsDg r c xs) :
 Calls Try.prog 26 #[.agg #[.int .i64 (r : Int), .int .i64 (c : Int), .slice ao xs.length cap]] w fun e w' => e = .returned (.bool t) /\ Below w.heap.size w w' :=
 (SDiag_c r c ao cap L xs w hr hc hA hL hs).mono fun e w' ⟨⟨t', he, h⟩, hb⟩ => ⟨by rw [he]; congr 2; rw [Bool.eq_iff_iff, h, ht], hb⟩
end Go.Proofs.Ytllkjlcdcbilcaa
namespace Go.Proofs.Ytllkjlcdcbilcaa
def tabK (c : Nat) (f : Nat -> Nat -> Int) (k : Nat) : List Int := (List.range k).map fun q => f (q / c) (q % c)
theorem tabK_length (c : Nat) (f : Nat -> Nat -> Int) (k : Nat) : (tabK c f k).length = k := by simp [tabK]
theorem tabK_succ {c i j : Nat} (f : Nat -> Nat -> Int) (hj : j < c) : tabK c f (i * c + j + 1) = tabK c f (i * c + j) ++ [f i j] := by
 have h1 : (i * c + j) / c = i := by rw [Nat.mul_comm, Nat.mul_add_div (by omega), Nat.div_eq_of_lt hj]; rfl
 have h2 : (i * c + j) % c = j := by rw [Nat.mul_comm, Nat.mul_add_mod, Nat.mod_eq_of_lt hj]
 unfold tabK;rw [List.range_succ, List.map_append];simp [h1, h2]
theorem tabK_matE {r c i j : Nat} (f : Nat -> Nat -> Int) (hi : i < r) (hj : j < c) : (tabK c f (r * c)).getD (i * c + j) 0 = f i j := by
 have h1 : (i * c + j) / c = i := by rw [Nat.mul_comm, Nat.mul_add_div (by omega), Nat.div_eq_of_lt hj]; rfl
 have h2 : (i * c + j) % c = j := by rw [Nat.mul_comm, Nat.mul_add_mod, Nat.mod_eq_of_lt hj]
 have h3 : (i + 1) * c <= r * c := Nat.mul_le_mul_right _ hi;have h4 : (i + 1) * c = i * c + c := Nat.succ_mul i c;unfold tabK;rw [List.getD_eq_getElem?_getD, List.getElem?_map, List.getElem?_range (by omega)];simp [h1, h2]
end Go.Proofs.Ytllkjlcdcbilcaa
namespace Go.Proofs.Ytllkjlcdcbilcaa
open Go.RowKit
def diagF (xs : List Int) (i j : Nat) : Int := if i = j /\ i < xs.length then gi xs i else 0
set_option maxRecDepth 100000 in
set_option maxHeartbeats 1000000 in
theorem Diag1_c (i j g : Nat) (la : Option Addr) (cap L : Nat) (xs : List Int) (w : World) (hg : w.cell? ⟨g, 0, none⟩ = some (.slice la xs.length cap)) (hA : LsAt w L la xs) (hL : L <= 17592186044415) :
 Calls Try.prog 30 #[.int .i64 (i : Int), .int .i64 (j : Int), .pointer (some ⟨g, 0, none⟩)] w fun e w' => (∃ v, e = .returned v /\ OwnI w' w.heap.size v (diagF xs i j)) /\ Below w.heap.size w w' := by
 refine funW (S0 := fun _ => False) Try.func30 (((Fr.nil _ w).l hA (by simp)).cl hg (by simp [En.wr])) ?_;refine goW ?_;refine rW [] ?_;refine aW fun g5 => ?_;refine eW ?_;by_cases h : i = j /\ i < xs.length
 · obtain ⟨rfl, h2⟩ := h;have e0 : diagF xs i i = gi xs i := by rw [diagF, if_pos ⟨rfl, h2⟩]
   rw [e0];obtain ⟨bx, ox, rfl⟩ := hA.pos h2;refine goW ?_;refine rW [] ?_;refine dW ?_;refine dW ?_;refine dB true ?_;refine dW ?_;refine dG ?_;refine dG ?_;refine dG ?_;refine dGB true ?_;refine dW ?_;refine eW ?_;refine goW ?_;refine ctW ?_;refine numW (L := L) (xs := xs) (b := bx) (o := ox) i (by simp) h2 fun p => ?_;refine goW ?_;refine rW [] ?_;refine dW ?_;refine dW ?_;refine dW ?_;refine dW ?_;refine cN (fun w' H => ILeast_c (av p) _ w' (H.m2.mono hL)) fun q => ?_;refine sW ?_;refine eW ?_;refine goW ?_;refine fin1 fun w' H => ?_;exact ⟨_, rvI H.m4, ⟨_, rfl, H.m0⟩, H.below⟩
 · have e0 : diagF xs i j = 0 := by rw [diagF, if_neg h]
   rw [e0];refine goW ?_;refine rW [] ?_;refine dW ?_;refine dW ?_;rcases Decidable.em (i = j) with e | e
   case' inl =>
    have hlt : ¬ i < xs.length := fun q => h ⟨e, q⟩;subst e;clear h;refine dB true ?_;refine dW ?_;refine dG ?_;refine dG ?_;refine dG ?_;refine dGB false ?_
   case' inr =>
    clear h;refine dB false ?_;refine dW ?_;refine uG ?_;refine uG ?_;refine uG ?_;refine uG ?_
   all_goals
    refine dW ?_;refine eW ?_;refine goW ?_;refine cfW ?_;refine goW ?_;refine rW [] ?_;refine dW ?_;refine sW ?_;refine eW ?_;refine goW ?_;refine fin1 fun w' H => ?_;exact ⟨_, rvI H.m0, ⟨_, rfl, OwnI.zero _ _⟩, H.below⟩
theorem mkLst {P : Program} {Q : Exit -> Act -> World -> Prop} {ds : List Deferred} {S0 : Nat -> Prop} {w0 : World} {n b N : Nat} {ls : List (Nat × Value)} {es : List En} {c : Code} (k : CWm ds P n S0 w0 c Q ls (.lst (some ⟨b, 0, none⟩) 0 N [] :: es)) : CWm ds P n S0 w0 c Q ls (.row b 39 (rn (List.replicate N p0) []) :: es) := fun a w ha hw =>
 k a w ha (hw.conv (fun hr => ⟨rfl, Nat.zero_le _, .inr ⟨b, rn (List.replicate N p0) [], rfl, NoW.rn NoW.nil, hr, by show (rn (List.replicate N p0) []).length = _; rw [rn, List.append_nil, flat_length]; simp; omega⟩⟩) (fun g ⟨o, e⟩ => by cases e; rfl) (fun _ => rfl))
structure B1X where
 i : Nat
 K : Nat
 ao : Option Addr
 cap : Nat
 ps : List P4
structure B1I (r c : Nat) (z : B1X) : Prop where
 hi : z.i <= r
 hK : z.i * c = z.K
structure B2X where
 j : Nat
 K : Nat
 ao : Option Addr
 cap : Nat
 ps : List P4
structure B2I (c i : Nat) (z : B2X) : Prop where
 hj : z.j <= c
 hK : i * c + z.j = z.K
set_option maxRecDepth 100000 in
set_option maxHeartbeats 4000000 in
theorem Build1_c (F : FuncId) (hF : ∀ (args : Array Value) (w : World), (callFunc F args).run Try.prog w = .ok (.enter F args) w) (r c g : Nat) (f : Nat -> Nat -> Int) (w : World) (hr : r <= 64) (hc : c <= 64)
 (hf : ∀ (i j : Nat) (w' : World), i < r -> j < c -> Below w.heap.size w w' -> Calls Try.prog F #[.int .i64 (i : Int), .int .i64 (j : Int), .pointer (some ⟨g, 0, none⟩)] w' fun e w'' => (∃ v, e = .returned v /\ OwnI w'' w'.heap.size v (f i j)) /\ Below w'.heap.size w' w'') :
 Calls Try.prog 29 #[.int .i64 (r : Int), .int .i64 (c : Int), .func (.func F) #[] #[.pointer (some ⟨g, 0, none⟩)]] w fun e w' => (∃ ao cap, e = .returned (.agg #[.int .i64 (r : Int), .int .i64 (c : Int), .slice ao (r * c) cap]) /\ LsN w' ao (tabK c f (r * c)) /\ r * c <= cap /\ ∀ b o, ao = some ⟨b, o, none⟩ -> w.heap.size <= b) /\ Below w.heap.size w w' := by
 have hnc : r * c <= 4096 := Nat.mul_le_mul hr hc;have hms : r * c < 9223372036854775808 := by omega
 refine funW (S0 := fun _ => False) Try.func29 (Fr.nil _ w) ?_;refine goW ?_;refine rW [] ?_;refine aW fun g6 => ?_;refine eW ?_;refine goW ?_;refine rW [] ?_;refine dW ?_;refine dW ?_;refine dW ?_;refine dW ?_;refine dE (mulI (a := r) (b := c) hms) ?_;obtain ⟨N, hN⟩ : ∃ N, r * c = N := ⟨_, rfl⟩;rw [hN] at hnc ⊢;have HN : Hid (r * c = N) := Lib.hid hN;clear hms hN;refine mN 0 N rfl rfl (Nat.zero_le _) (by omega) fun b => ?_;refine dW ?_;refine aW fun g7 => ?_;refine sG ?_;refine eW ?_;refine pickW (es' := [.row b 39 (rn (List.replicate N p0) []), .row g7 24 [.int .i64 (r : Int), .int .i64 (c : Int), .slice (some ⟨b, 0, none⟩) 0 N], .row g6 24 [.int .i64 0, .int .i64 0, .slice none 0 0]]) ?_;refine mkLst ?_;refine addW (e := .ns [] (tabK c f 0)) (fun w' _ => NsAt.nil w') ?_;refine pickW (es' := [.row g7 24 [.int .i64 (r : Int), .int .i64 (c : Int), .slice (some ⟨b, 0, none⟩) 0 N], .row g6 24 [.int .i64 0, .int .i64 0, .slice none 0 0], .lst (some ⟨b, 0, none⟩) 0 N [], .ns [] (tabK c f 0)]) ?_;refine goW ?_;refine rW [] ?_;refine dW ?_;refine dW ?_;refine eW ?_;refine goW ?_;refine loopW (X := B1X) (B1I r c) (fun z => r - z.i) (fun z => [(18, .int .i64 (z.i : Int)), (17, .int .i64 (r : Int)), (1, .int .i64 (c : Int)), (2, .func (.func F) #[] #[.pointer (some ⟨g, 0, none⟩)]), (7, .pointer (some ⟨g7, 0, none⟩)), (6, .pointer (some ⟨g6, 0, none⟩))])
  (fun z => [.row g7 24 [.int .i64 (r : Int), .int .i64 (c : Int), .slice z.ao z.K z.cap], .row g6 24 [.int .i64 0, .int .i64 0, .slice none 0 0], .lst z.ao z.K z.cap z.ps, .ns z.ps (tabK c f z.K)]) ⟨0, 0, some ⟨b, 0, none⟩, N, []⟩ ⟨Nat.zero_le _, Nat.zero_mul _⟩ fun z hz => ?_
 obtain ⟨i, K, ao, cap, ps⟩ := z;obtain ⟨hi, hK⟩ := hz
 replace hi : i <= r := hi
 replace hK : i * c = K := hK
 by_cases h : i < r
 · have h01 : (i : Int) < (r : Int) := by omega
   have HK : Hid (i * c + 0 = K) := Lib.hid hK;clear hK;refine goW ?_;refine rW [] ?_;refine dB true ?_;refine eW ?_;refine goW ?_;refine ctW ?_;refine goW ?_;refine rW [] ?_;refine dW ?_;refine dW ?_;refine eW ?_;refine goW ?_;refine rW [] ?_;refine dW ?_;refine dW ?_;refine eW ?_;refine goW ?_;refine loopW (X := B2X) (B2I c i) (fun z => c - z.j) (fun z => [(22, .int .i64 (z.j : Int)), (21, .int .i64 (c : Int)), (8, .int .i64 (i : Int)), (18, .int .i64 (i : Int)), (17, .int .i64 (r : Int)), (1, .int .i64 (c : Int)), (2, .func (.func F) #[] #[.pointer (some ⟨g, 0, none⟩)]), (7, .pointer (some ⟨g7, 0, none⟩)), (6, .pointer (some ⟨g6, 0, none⟩))])
    (fun z => [.row g7 24 [.int .i64 (r : Int), .int .i64 (c : Int), .slice z.ao z.K z.cap], .row g6 24 [.int .i64 0, .int .i64 0, .slice none 0 0], .lst z.ao z.K z.cap z.ps, .ns z.ps (tabK c f z.K)]) ⟨0, K, ao, cap, ps⟩ ⟨Nat.zero_le _, HK.out⟩ fun z hz => ?_
   clear HK;obtain ⟨j, K, ao, cap, ps⟩ := z;obtain ⟨hj, hK⟩ := hz
   replace hj : j <= c := hj
   replace hK : i * c + j = K := hK
   by_cases h' : j < c
   · have h02 : (j : Int) < (c : Int) := by omega
     have hlt := idxL h h';have ht := tabK_succ (i := i) f h';have hKN : K <= 100000000 := by have := HN.out; omega
     rw [hK] at ht;have HT : Hid (tabK c f (K + 1) = tabK c f K ++ [f i j] /\ i * c + j = K) := Lib.hid ⟨ht, hK⟩;clear ht hK hlt;refine goW ?_;refine rW [] ?_;refine dB true ?_;refine eW ?_;refine goW ?_;refine ctW ?_;refine goW ?_;refine rW [] ?_;refine dW ?_;refine dW ?_;refine eW ?_;refine goW ?_;refine rW [] ?_;refine dW ?_;refine dW ?_;refine dW ?_;refine dW ?_;refine dW ?_;refine cN (fun w' H => hf i j w' h h' H.below) fun q => ?_;refine bW (m := 1) fun g31 => ?_;refine moreW (e := .ns (ps ++ [q]) (tabK c f (K + 1))) (fun w' H => by rw [HT.out.1]; exact NsAt.snoc H.m5 H.m1.num) ?_;refine appN (g := g31) (t := 39) (c := 1) (ao := ao) (k := K) (cap := cap) (ps := ps) q hKN (by simp) fun z => ?_;refine dW ?_;refine sW ?_;refine eW ?_;refine goW ?_;refine rW [] ?_;refine dE (incB (a := j) (by omega)) ?_;refine dW ?_;refine eW ?_;refine goW ?_;exact backW (⟨j + 1, K + 1, z.1, z.2, ps ++ [q]⟩ : B2X) ⟨⟨h', by show i * c + (j + 1) = K + 1; have := HT.out.2; omega⟩, by show c - (j + 1) < c - j; omega⟩
   · obtain rfl : j = c := by omega
     have HK : Hid ((i + 1) * j = K) := Lib.hid (by rw [Nat.succ_mul]; exact hK);clear hK;refine goW ?_;refine rW [] ?_;refine dB false ?_;refine eW ?_;refine goW ?_;refine cfW ?_;refine goW ?_;refine rW [] ?_;refine dE (incB (a := i) (by omega)) ?_;refine dW ?_;refine eW ?_;refine goW ?_;exact backW (⟨i + 1, K, ao, cap, ps⟩ : B1X) ⟨⟨h, HK.out⟩, by show r - (i + 1) < r - i; omega⟩
 · obtain rfl : i = r := by omega
   obtain rfl : K = N := by rw [<- hK]; exact HN.out
   clear hK;refine goW ?_;refine rW [] ?_;refine dB false ?_;refine eW ?_;refine goW ?_;refine cfW ?_;refine goW ?_;refine rW [] ?_;refine dW ?_;refine sW ?_;refine eW ?_;refine goW ?_;refine fin1 fun w' H => ?_;exact ⟨_, rvM H.m1, ⟨ao, cap, rfl, lst_lsN H.m2 H.m3, (show LstF ao K cap ps w' from H.m2).2.1, fun b o e => (H.own (.lst ao K cap ps) (by simp) rfl b ⟨o, e⟩).elim (fun h => h.elim) id⟩, H.below⟩
theorem prW {A : Prop} {P : Program} {Q : Exit -> Act -> World -> Prop} {ds : List Deferred} {S0 : Nat -> Prop} {w0 : World} {n : Nat} {ls : List (Nat × Value)} {es : List En} {c : Code} (hm : En.pr A ∈ es) (k : A -> CWm ds P n S0 w0 c Q ls es) : CWm ds P n S0 w0 c Q ls es := fun a w ha hw => k (hw.all _ hm) a w ha hw
section
variable {P : Program} {ops : Array Oper} {Q : Exit -> Act -> World -> Prop} {ds : List Deferred} {S0 : Nat -> Prop} {w0 : World} {E0 : List En} {hd : List (List Nat)} {n j s : Nat} {l : List Nat} {G E : List En} {ls : List (Nat × Value)} {op : Op} {ty : TypeId} {pos : String} {af : Array Edge} {v : Value} {f : FuncId} {args : Array Value}
theorem fW (k : RWm ds ⟨P, ops, Q, S0, w0, E0, hd⟩ n l G E ((s, v) :: ls))
 (ho : ops[j]? = some ⟨some s, op, ty, pos, af, none⟩ := by rfl) (hk : (!isDet op && !isNew op && chkO ls op && Nat.blt s n) = true := by kernel_rfl)
 (hr : ∀ w, (execOp (evl ls) ⟨some s, op, ty, pos, af, none⟩).run P w = .ok (.value v) w := by intro w; (try simp only [av]); go_simp <;> with_reducible rfl)
 (hst : okSt ops hd j [] = true := by kernel_rfl) : RWm ds ⟨P, ops, Q, S0, w0, E0, hd⟩ n (j :: l) G E ls := fun a ha => by
 simp only [Bool.and_eq_true, Bool.not_eq_true'] at hk;refine ⟨_, ho, .inr (.inr ⟨hk.1.1.1, hk.1.1.2, Unit, fun _ => v, fun _ => G, fun _ => E, [], ⟨()⟩, fun X w hX hw => ?_, hst, fun _ _ _ => rfl, fun _ => k _ (ha.put (Nat.le_of_ble_eq_true hk.2) _)⟩)⟩;refine ifw rfl ?_;show wpR P _ ((execOp a.eval _).run P w);rw [ha.exec hk.1.2, hr w];exact ⟨(), rfl, hw⟩
theorem cLn {α : Type} {mk : α -> Value} {ao : α -> Option Addr} {xs : α -> List Int} {A : α -> Prop} (c : ∀ w, Fr S0 w0 w (G ++ E) -> Calls P f args w fun e w' => (∃ p, e = .returned (mk p) /\ LsN w' (ao p) (xs p) /\ A p /\ ∀ b o, ao p = some ⟨b, o, none⟩ -> w.heap.size <= b) /\ Below w.heap.size w w')
 (k : ∀ p, RWm ds ⟨P, ops, Q, S0, w0, E0, hd⟩ n l (.lsn (ao p) (xs p) :: .pr (A p /\ ∀ b o, ao p = some ⟨b, o, none⟩ -> w0.heap.size <= b) :: G) E ((s, mk p) :: ls))
 (ho : ops[j]? = some ⟨some s, op, ty, pos, af, none⟩ := by rfl) (hk : (!isDet op && !isNew op && chkO ls op && Nat.blt s n) = true := by kernel_rfl)
 (hr : ∀ w, (execOp (evl ls) ⟨some s, op, ty, pos, af, none⟩).run P w = .ok (.enter f args) w := by intro w; (try simp only [av]); go_simp <;> with_reducible rfl) (hne : Nonempty α := by infer_instance)
 (hst : okSt ops hd j [] = true := by kernel_rfl) : RWm ds ⟨P, ops, Q, S0, w0, E0, hd⟩ n (j :: l) G E ls := by
 refine cG (mk := mk) (ens := fun p => [.lsn (ao p) (xs p), .pr (A p /\ ∀ b o, ao p = some ⟨b, o, none⟩ -> w0.heap.size <= b)]) (fun w hw => (c w hw).mono ?_) k ho hk hr hne hst;rintro e w' ⟨⟨p, rfl, hl, hA, hS⟩, hb⟩;exact ⟨p, rfl, hb, fun e he => by
  rcases List.mem_cons.1 he with rfl | he
  · exact ⟨hl, fun b ⟨_, o, e⟩ => hS b o e⟩
  · rcases List.mem_singleton.1 he with rfl;exact ⟨⟨hA, fun b o e => Nat.le_trans hw.size (hS b o e)⟩, fun _ h => h.elim⟩, List.pairwise_pair.2 ⟨(fun h => nomatch h), (fun h => nomatch h)⟩⟩
end
set_option maxRecDepth 100000 in
set_option maxHeartbeats 2000000 in
theorem MDiag_c (r c : Nat) (la : Option Addr) (cap L : Nat) (xs : List Int) (w : World) (hr : r <= 64) (hc : c <= 64) (hx : xs.length <= min r c) (hA : LsAt w L la xs) (hL : L <= 17592186044415) :
 Calls Try.prog 16 #[.int .i64 (r : Int), .int .i64 (c : Int), .slice la xs.length cap] w fun e w' => (∃ p : Option Addr × Nat, e = .returned (.tuple #[.agg #[.int .i64 (r : Int), .int .i64 (c : Int), .slice p.1 (r * c) p.2], .int .i64 0]) /\ LsN w' p.1 (tabK c (diagF xs) (r * c)) /\ True /\ ∀ b o, p.1 = some ⟨b, o, none⟩ -> w.heap.size <= b) /\ Below w.heap.size w w' := by
 have s1 : sideOk (r : Int) = true := by unfold sideOk; simp; omega
 have s2 : sideOk (c : Int) = true := by unfold sideOk; simp; omega
 have hS1 : ∀ w', Calls Try.prog 28 #[.int .i64 (r : Int)] w' fun e w'' => e = .returned (.bool true) /\ Below w'.heap.size w' w'' := fun w' => (side_c r w').mono fun e w'' ⟨h1, h2⟩ => ⟨by rw [h1, s1], h2 ▸ Below.refl _ _⟩;have hS2 : ∀ w', Calls Try.prog 28 #[.int .i64 (c : Int)] w' fun e w'' => e = .returned (.bool true) /\ Below w'.heap.size w' w'' := fun w' => (side_c c w').mono fun e w'' ⟨h1, h2⟩ => ⟨by rw [h1, s2], h2 ▸ Below.refl _ _⟩;clear s1 s2;refine funW (S0 := fun _ => False) Try.func16 ((Fr.nil _ w).l hA (by simp)) ?_;refine goW ?_;refine rW [] ?_;refine aW fun g5 => ?_;refine aW fun g6 => ?_;refine dW ?_;refine eW ?_;refine goW ?_;refine rW [] ?_;refine dW ?_;refine cV (fun w' H => hS1 w') ?_;refine dW ?_;refine dW ?_;refine dG ?_;refine cVg (fun w' H => hS2 w') ?_;refine dG ?_;refine dW ?_;refine eW ?_;refine goW ?_;refine cfW ?_;refine goW ?_;refine rW [] ?_;refine dW ?_;refine dW ?_;refine dW ?_;refine dW ?_;refine dE (minI r c) ?_;obtain ⟨k, hk⟩ : ∃ k, min r c = k := ⟨_, rfl⟩;rw [hk] at hx ⊢;clear hk;refine dB false ?_;refine eW ?_;refine goW ?_;refine cfW ?_;refine goW ?_;refine rW [] ?_;refine dW ?_;refine dW ?_;refine fW ?_;refine cLn (α := Option Addr × Nat) (mk := fun p => .agg #[.int .i64 (r : Int), .int .i64 (c : Int), .slice p.1 (r * c) p.2]) (ao := fun p => p.1) (xs := fun _ => tabK c (diagF xs) (r * c)) (A := fun _ => True)
  (fun w' H => (Build1_c 30 (fun _ _ => by go_simp) r c g5 (diagF xs) w' hr hc (fun i j w2 hi hj hb => by
   have h1 : RowAt w' g5 22 [.slice la xs.length cap] := H.m1;have h2 : LsAt w' L la xs := H.m2;exact Diag1_c i j g5 la cap L xs w2 ((h1.below hb h1.lt).cell 0) (h2.below hb) hL)).mono (by
    rintro e w3 ⟨⟨ao, cap', rfl, hl, _, hS⟩, hb⟩;exact ⟨⟨(ao, cap'), rfl, hl, trivial, hS⟩, hb⟩)) fun q => ?_
 refine sW ?_;refine dW ?_;refine eW ?_;refine goW ?_;refine fin2 fun w' H => ?_;exact ⟨_, _, rvM H.m2, rvT, ⟨q, rfl, H.m0, trivial, (show True /\ ∀ b o, q.1 = some ⟨b, o, none⟩ -> w.heap.size <= b from H.m1).2⟩, H.below⟩
theorem results_mat_tmp {fn : Func} {p q : Tmp} (h : fn.results = #[.cell p 24, .tmp q]) (tmps : Array Value) (w : World) (g : Nat) (a b c : Value) (hp : tmps.getD p undef = .pointer (some ⟨g, 0, none⟩)) (hr : RowAt w g 24 [a, b, c]) :
 (results fn tmps).run Try.prog w = .ok (.tuple #[.agg #[a, b, c], tmps.getD q undef]) w := by
 have hp' : tmps[p]?.getD undef = .pointer (some ⟨g, 0, none⟩) := by simpa using hp
 simp [results, h, hp', asAddr, run_loadVar_row w g 24 24 #[a, b, c] (0, 0) _ hr Try.underlying24 rfl (by kernel_rfl)]
theorem RowAt.set3 {w : World} {b : Nat} {t : TypeId} {x y z : Value} (h : RowAt w b t [x, y, z]) (u v s : Value) : RowAt (((w.setCell ⟨b, 0, none⟩ u).setCell ⟨b, 1, none⟩ v).setCell ⟨b, 2, none⟩ s) b t [u, v, s] := by
 have := ((h.set 0 u).set 1 v).set 2 s;exact this
theorem NoW.mat (a b : Int) (ao : Option Addr) (l k : Nat) : NoW [.int .i64 a, .int .i64 b, .slice ao l k] := NoW.i64 (NoW.i64 (NoW.slice NoW.nil))
theorem RowN.setMat {w : World} {b : Nat} {xs : List Int} (h : RowN w b xs) {g : Nat} {x y : Int} {ao : Option Addr} {l k : Nat} (hr : RowAt w g 24 [.int .i64 x, .int .i64 y, .slice ao l k]) (u v : Int) (ao' : Option Addr) (l' k' : Nat) : RowN (((w.setCell ⟨g, 0, none⟩ (.int .i64 u)).setCell ⟨g, 1, none⟩ (.int .i64 v)).setCell ⟨g, 2, none⟩ (.slice ao' l' k')) b xs := by
 have h1 := h.setFar hr (by decide) (NoW.mat x y ao l k) 0 (.int .i64 u);have r1 : RowAt _ g 24 [.int .i64 u, .int .i64 y, .slice ao l k] := hr.set 0 (.int .i64 u);have h2 := h1.setFar r1 (by decide) (NoW.mat u y ao l k) 1 (.int .i64 v);have r2 : RowAt _ g 24 [.int .i64 u, .int .i64 v, .slice ao l k] := r1.set 1 (.int .i64 v);exact h2.setFar r2 (by decide) (NoW.mat u v ao l k) 2 (.slice ao' l' k')
set_option maxRecDepth 100000 in
set_option maxHeartbeats 4000000 in
theorem MLeast_c (r c : Int) (ao : Option Addr) (len cap : Nat) (xs : List Int) (w : World) (hr : -9223372036854775808 <= r /\ r <= 9223372036854775807) (hc : -9223372036854775808 <= c /\ c <= 9223372036854775807) (h : LsAt w 17592186044415 ao xs) (hl : len = xs.length) (hs : soundM r c len = true) (hlen : xs.length <= 8796093022208) :
 Calls Try.prog 61 #[.agg #[.int .i64 r, .int .i64 c, .slice ao len cap]] w fun e w' => (∃ b, e = .returned (.tuple #[.agg #[.int .i64 r, .int .i64 c, .slice (some ⟨b, 0, none⟩) xs.length xs.length], .int .i64 0]) /\ w.heap.size <= b /\ RowN w' b xs) /\ Below w.heap.size w w' := by
 subst hl;have HL := Lib.hid h; clear h;have HS := Lib.hid (chkM_ok hs); clear hs;go_enter Try.func61, Try.ntmps61;go_wp2_with fail
 obtain ⟨r1, r2, hb⟩ := two_new w #[.int .i64 r, .int .i64 c, .slice ao xs.length cap] #[.int .i64 0, .int .i64 0, .slice none 0 0] 24 24;generalize (w.alloc (.cells #[.int .i64 r, .int .i64 c, .slice ao xs.length cap] 24)).alloc (.cells #[.int .i64 0, .int .i64 0, .slice none 0 0] 24) = w2 at *;refine (Check_c r c ao xs.length cap _ hr hc).mono ?_;rintro e w3 ⟨rfl, hb3⟩;rw [HS.out];have R1 := r1.below hb3 r1.lt;have R2 := Lib.hid (r2.below hb3 r2.lt);have L3 := Lib.hid ((HL.out.below hb).below hb3);have B3 := Lib.hid (hb.trans (hb3.mono hb.size));have hs2 : w.heap.size + 1 < w3.heap.size := R2.out.lt;have e0 : w3.cell? ⟨w.heap.size, 0, none⟩ = some (.int .i64 r) := R1.cell 0;have e1 : w3.cell? ⟨w.heap.size, 1, none⟩ = some (.int .i64 c) := R1.cell 1;have e2 : w3.cell? ⟨w.heap.size, 2, none⟩ = some (.slice ao xs.length cap) := R1.cell 2;have hne : ¬ w.heap.size + 1 = w.heap.size := by omega
 have hlt : w.heap.size < w3.heap.size := by omega
 clear r1 r2 hb hb3 R1;go_wp2
 go_region_held3 (fun w' => w'.cell? ⟨w.heap.size, 0, none⟩ = some (.int .i64 r) /\ w'.cell? ⟨w.heap.size, 1, none⟩ = some (.int .i64 c) /\ w'.cell? ⟨w.heap.size, 2, none⟩ = some (.slice ao xs.length cap))
  (first
   | exact ⟨e0, e1, e2⟩
   | exact ⟨k0, k1, k2⟩
   | exact ⟨m0, m1, m2⟩)
  (first
   | (go_at_call 19; (refine (EachLeast_c ao cap xs _ (LsAt.below (w := w3) L3.out (Below.refl _ _).drew) hlen).mono ?_); rintro e w4 ⟨⟨b, rfl, hbl, hRb⟩, hb4⟩; have k0 := (hb4.cell (p := ⟨w.heap.size, 0, none⟩) hlt).trans e0; have k1 := (hb4.cell (p := ⟨w.heap.size, 1, none⟩) hlt).trans e1; have k2 := (hb4.cell (p := ⟨w.heap.size, 2, none⟩) hlt).trans e2; have hR4 := RowAt.below (w := w3.drew) R2.out hb4 R2.out.lt; have z0 := hR4.cell 0; have z1 := hR4.cell 1; have z2 := hR4.cell 2; have y0 := hR4.free 0; have y1 := hR4.free 1; have y2 := hR4.free 2; have m0 := ((World.cell?_setCell_far _ ⟨w.heap.size + 1, 2, none⟩ ⟨w.heap.size, 0, none⟩ (.slice (some ⟨b, 0, none⟩) xs.length xs.length) hne).trans ((World.cell?_setCell_far _ ⟨w.heap.size + 1, 1, none⟩ ⟨w.heap.size, 0, none⟩ (.int .i64 c) hne).trans ((World.cell?_setCell_far w4 ⟨w.heap.size + 1, 0, none⟩ ⟨w.heap.size, 0, none⟩ (.int .i64 r) hne).trans k0))); have m1 := ((World.cell?_setCell_far _ ⟨w.heap.size + 1, 2, none⟩ ⟨w.heap.size, 1, none⟩ (.slice (some ⟨b, 0, none⟩) xs.length xs.length) hne).trans ((World.cell?_setCell_far _ ⟨w.heap.size + 1, 1, none⟩ ⟨w.heap.size, 1, none⟩ (.int .i64 c) hne).trans ((World.cell?_setCell_far w4 ⟨w.heap.size + 1, 0, none⟩ ⟨w.heap.size, 1, none⟩ (.int .i64 r) hne).trans k1))); have m2 := ((World.cell?_setCell_far _ ⟨w.heap.size + 1, 2, none⟩ ⟨w.heap.size, 2, none⟩ (.slice (some ⟨b, 0, none⟩) xs.length xs.length) hne).trans ((World.cell?_setCell_far _ ⟨w.heap.size + 1, 1, none⟩ ⟨w.heap.size, 2, none⟩ (.int .i64 c) hne).trans ((World.cell?_setCell_far w4 ⟨w.heap.size + 1, 0, none⟩ ⟨w.heap.size, 2, none⟩ (.int .i64 r) hne).trans k2)))))
 go_wp2;have hs4 := hb4.size;have hbl : w3.heap.size <= b := hbl;have hbw : Below w.heap.size w w4 := B3.out.drew.trans (hb4.mono B3.out.size);refine bodyPost_ret (results_mat_tmp (p := 2) (q := 3) (by kernel_rfl) _ _ (w.heap.size + 1) _ _ _ rfl (hR4.set3 (.int .i64 r) (.int .i64 c) (.slice (some ⟨b, 0, none⟩) xs.length xs.length))) rfl ?_;exact ⟨⟨b, rfl, by omega, hRb.setMat hR4 r c _ _ _⟩, ((hbw.setCell (p := ⟨w.heap.size + 1, 0, none⟩) (Nat.le_succ _) _).setCell (p := ⟨w.heap.size + 1, 1, none⟩) (Nat.le_succ _) _).setCell (p := ⟨w.heap.size + 1, 2, none⟩) (Nat.le_succ _) _⟩
set_option maxRecDepth 100000 in
set_option maxHeartbeats 4000000 in
theorem MLines_c (r c : Int) (ao : Option Addr) (len cap : Nat) (xs : List Int) (w : World) (hr : -9223372036854775808 <= r /\ r <= 9223372036854775807) (hc : -9223372036854775808 <= c /\ c <= 9223372036854775807) (h : LsAt w 17592186044415 ao xs) (hl : len = xs.length) (hs : soundM r c len = true) (hlen : xs.length <= 8796093022208) :
 Calls Try.prog 51 #[.agg #[.int .i64 r, .int .i64 c, .slice ao len cap]] w fun e w' => (∃ g b, e = .returned (.func (.func 62) #[] #[.pointer (some ⟨g, 0, none⟩)]) /\ w.heap.size <= g /\ w.heap.size <= b /\ RowAt w' g 24 [.int .i64 r, .int .i64 c, .slice (some ⟨b, 0, none⟩) xs.length xs.length] /\ RowN w' b xs) /\ Below w.heap.size w w' := by
 subst hl;have HL := Lib.hid h; clear h;have hb0 : Below w.heap.size w (w.alloc (.cells #[.int .i64 r, .int .i64 c, .slice ao xs.length cap] 24)) := (Below.refl _ _).alloc (Nat.le_refl _) _;have HB0 := Lib.hid hb0; clear hb0;go_enter Try.func51, Try.ntmps51;go_wp2_with fail
 generalize w.alloc (.cells #[.int .i64 r, .int .i64 c, .slice ao xs.length cap] 24) = w1 at *;refine (MLeast_c r c ao xs.length cap xs _ hr hc (HL.out.below HB0.out) rfl hs hlen).mono ?_;rintro e w2 ⟨⟨b, rfl, hb, hR⟩, hb2⟩;have hbw : Below w.heap.size w w2 := HB0.out.trans (hb2.mono HB0.out.size);have hs1 := HB0.out.size;have HBW := Lib.hid hbw; clear hbw;have HR := Lib.hid hR; clear hR;have hs2 := hb2.size;clear hb2;go_wp2;go_ret;have hb3 : Below w2.heap.size w2 (w2.alloc (.cells #[.int .i64 r, .int .i64 c, .slice (some ⟨b, 0, none⟩) xs.length xs.length] 24)) := (Below.refl _ _).alloc (Nat.le_refl _) _;have hr3 := RowAt.new w2 #[.int .i64 r, .int .i64 c, .slice (some ⟨b, 0, none⟩) xs.length xs.length] 24;have hsz := HBW.out.size;exact ⟨⟨w2.heap.size, b, rfl, by omega, by omega, hr3, HR.out.below hb3⟩, HBW.out.trans (hb3.mono (by omega))⟩
def lead : List Int -> Nat
 | [] => 0
 | x :: xs => if x = 0 then lead xs + 1 else 0
theorem lead_le : ∀ xs : List Int, lead xs <= xs.length
 | [] => Nat.le_refl _
 | x :: xs => by
  unfold lead; split
  · have := lead_le xs; simp; omega
  · simp
theorem lead_of : ∀ (xs : List Int) (k : Nat) (h : k < xs.length), (∀ i (h' : i < k), xs[i]'(by omega) = 0) -> xs[k] ≠ 0 -> lead xs = k
 | x :: xs, 0, _, _, hn => by unfold lead; rw [if_neg]; simpa using hn
 | x :: xs, k + 1, h, hz, hn => by
  have h0 : x = 0 := hz 0 (by omega);unfold lead; rw [if_pos h0, lead_of xs k (by simpa using h) (fun i hi => by have := hz (i + 1) (by omega); simpa using this) (by simpa using hn)]
theorem lead_all : ∀ (xs : List Int), (∀ i (h : i < xs.length), xs[i] = 0) -> lead xs = xs.length
 | [], _ => rfl
 | x :: xs, hz => by
  have h0 : x = 0 := hz 0 (by simp);unfold lead; rw [if_pos h0, lead_all xs (fun i hi => by have := hz (i + 1) (by simpa using hi); simpa using this)]; rfl
set_option maxRecDepth 100000 in
set_option maxHeartbeats 4000000 in
theorem Lead_c (b cap : Nat) (xs : List Int) (w : World) (hR : RowN w b xs) (hL : ∀ x ∈ xs, wlen x.natAbs <= 17592186044415) (hlen : xs.length <= 9223372036854775807) :
 Calls Try.prog 81 #[.slice (some ⟨b, 0, none⟩) xs.length cap] w fun e w' => e = .returned (.int .i64 (lead xs : Nat)) /\ Below w.heap.size w w' := by
 have HL := Lib.hid hL; clear hL;have HR := Lib.hid hR; clear hR;go_enter Try.func81, Try.ntmps81;go_wp2;go_loopw [7] (fun i wr => ∃ k : Nat, k <= xs.length /\ i = .int .i64 (k : Int) /\ Hid (∀ j (h : j < k) (h' : j < xs.length), xs[j] = 0) /\ Below w.heap.size w wr) (fun i _ => xs.length - (intOf i).toNat)
 case atStart => exact ⟨0, Nat.zero_le _, rfl, fun j h => by omega, Below.refl _ _⟩
 case round =>
  obtain ⟨k, hk, rfl, hz, hb⟩ := hrel;by_cases hkl : k < xs.length
  · have hR2 := HR.out.below hb;obtain ⟨p, hc0, hc1, hn⟩ := hR2.get hkl;have hkl' : (k : Int) < (xs.length : Int) := by omega
    have HN := Lib.hid hn;clear hn;go_wp2_with fail
    have hb1 : Below wr.heap.size wr (wr.alloc (.cells #[.bool p.fst, .slice p.snd.fst p.snd.snd.fst p.snd.snd.snd] 39)) := (Below.refl _ _).alloc (Nat.le_refl _) _;refine (ISign_c (av p) xs[k] _ ((HN.out.int (HL.out _ (List.getElem_mem hkl))).below hb1)).mono ?_;rintro e w2 ⟨rfl, hb2⟩;have hb3 : Below w.heap.size w w2 := hb.trans ((hb1.trans (hb2.mono hb1.size)).mono hb.size);have HB3 := Lib.hid hb3;clear hb1 hb2 hb3 hc0 hc1;by_cases h0 : xs[k] = 0
    · have hz0 : zsign xs[k] = 0 := zsign_beq.2 h0;rw [hz0];have H0 := Lib.hid h0;clear h0 hz0;go_wp2;go_roundw
      case rel => exact ⟨k + 1, by omega, by go_num, Lib.hid (fun j hj hj' => (Nat.lt_succ_iff_lt_or_eq.1 hj).elim (fun h => hz.out j h hj') (fun h => by subst h; exact H0.out)), HB3.out⟩
      case measure => simp [intOf]; omega
    · have hn0 : ¬ zsign xs[k] = 0 := fun h => h0 (zsign_beq.1 h);have hle := lead_of xs k hkl (fun i h' => hz.out i h' (by omega)) h0;have HLE := Lib.hid hle;obtain ⟨s, hs⟩ : ∃ s, zsign xs[k] = s := ⟨_, rfl⟩;rw [hs] at hn0 ⊢;have hb0 : (s != 0) = true := by simpa using hn0
      clear h0 hle hs;go_wp2;go_ret;rw [HLE.out];exact ⟨rfl, HB3.out⟩
  · obtain rfl : k = xs.length := by omega
    have hle := lead_all xs (fun i h => hz.out i h h);have HLE := Lib.hid hle;clear hle;go_wp2;go_ret;rw [HLE.out];exact ⟨rfl, hb⟩
end Go.Proofs.Ytllkjlcdcbilcaa
