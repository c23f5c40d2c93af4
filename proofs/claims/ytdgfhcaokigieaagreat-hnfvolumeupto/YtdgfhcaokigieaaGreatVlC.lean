/- Part 3 of 9 of the proof that the law HnfVolume returns true for every input of bulk at most 1048576 and leaves its arguments as they were: here the contracts of the functions that it calls, and plain lemmas. -/
import Derived.Test.YtdgfhcaokigieaaGreatRows
import Derived.WalkKit
import Derived.ProofKit
import Derived.OpenShut
import Derived.JoinedCond
import Derived.Carry
import Derived.Deep.Slices
import Derived.Lib.SmallJoins
import Derived.Deep.AppendSrc
import Derived.Test.YtdgfhcaokigieaaGreatVlB
set_option linter.all false
namespace Go.Proofs.YtdgfhcaokigieaaGreat
open Go.ChangeShapes Go.WideShapes Go.ChangeAt Go.RowKit Go.Deep
section
variable {H : Type} {enc : TypeId × Value -> H} {w : World} {base : Nat} {sp : Nat -> Bool} {held : Bool}
theorem bulk_one (d : DataW H) : 1 <= Rows.uptoBulk d := by
 cases d with
 | lit l => cases l <;> simp [Rows.uptoBulk]
 | nil => simp [Rows.uptoBulk]
 | ptr d => simp [Rows.uptoBulk]
 | slice elems spare => simp [Rows.uptoBulk]
 | agg parts => simp [Rows.uptoBulk]
 | iface t d => simp [Rows.uptoBulk]
 | map entries => simp [Rows.uptoBulk]
 | held h => simp [Rows.uptoBulk]
theorem bulk_append (l r : List (DataW H)) : Rows.uptoBulkAll (l ++ r) = Rows.uptoBulkAll l + Rows.uptoBulkAll r := by
 induction l with
 | nil => simp [Rows.uptoBulkAll]
 | cons x l ih => simp only [List.cons_append, Rows.uptoBulkAll, ih]; omega
theorem bulk_mem {d : DataW H} {l : List (DataW H)} (h : d ∈ l) : Rows.uptoBulk d <= Rows.uptoBulkAll l := by
 induction l with
 | nil => cases h
 | cons x r ih =>
  simp only [Rows.uptoBulkAll];rcases List.mem_cons.1 h with rfl | h
  · omega
  · have := ih h; omega
theorem bulk_length (l : List (DataW H)) : l.length <= Rows.uptoBulkAll l := by
 induction l with
 | nil => simp [Rows.uptoBulkAll]
 | cons x r ih => have := bulk_one x; simp only [Rows.uptoBulkAll, List.length_cons]; omega
theorem bulk_slice (l r : List (DataW H)) : Rows.uptoBulk (.slice l r) = Rows.uptoBulkAll l + Rows.uptoBulkAll r + 1 := by simp [Rows.uptoBulk]
theorem bulk_agg (l : List (DataW H)) : Rows.uptoBulk (.agg l) = Rows.uptoBulkAll l + 1 := by simp [Rows.uptoBulk]
theorem list_of {α : Type} {n : Nat} {p : Nat -> α -> Prop} (h : ∀ i, i < n -> ∃ x, p i x) : ∃ l : List α, l.length = n /\ ∀ i (hi : i < l.length), p i l[i] := by
 induction n with
 | zero => exact ⟨[], rfl, fun i hi => by simp at hi⟩
 | succ n ih =>
  obtain ⟨l, hl, hp⟩ := ih (fun i hi => h i (by omega));obtain ⟨x, hx⟩ := h n (by omega);refine ⟨l ++ [x], by simp [hl], fun i hi => ?_⟩;by_cases hin : i < l.length
  · rw [List.getElem_append_left hin]; exact hp i hin
  · have : i = n := by simp at hi; omega
    subst this;rw [List.getElem_append_right (by omega)];simp [hl]; exact hx
theorem addr_none {w : World} {a : Addr} {v : Value} (h : w.cell? a = some v) : ∃ b o, a = ⟨b, o, none⟩ /\ b < w.heap.size := by
 have h1 := World.cell?_spot h;obtain ⟨b, o, s⟩ := a;exact ⟨b, o, by simpa using h1, cell_lt h⟩
set_option maxRecDepth 100000 in
theorem open_words {fuel : Nat} {cs : List Value} {x : DataW H × List MemPlace} (h : DataW.trod enc Tryz.prog w base sp held fuel 35 cs = some x) :
 ∃ ao len cap ws, cs = [.slice ao len cap] /\ len = ws.length /\ len <= cap /\ WAt w ao ws /\ ws.length + 1 <= Rows.uptoBulk x.1 := by
 rcases open_ints Tryz.underlying35 Tryz.underlying41 (by kernel_rfl) h with ⟨rfl, rfl⟩ | ⟨a, len, cap, zs, rfl, hb, hl, hm, hz, rfl, hcell, hwf⟩
 · exact ⟨none, 0, 0, [], rfl, rfl, Nat.le_refl _, ⟨fun x h => (by cases h), fun h => absurd h (by simp)⟩, by simp [Rows.uptoBulk]⟩
 · have hlz : len <= zs.length := by rw [hz]; split <;> omega
   have hrng : ∀ z ∈ zs, 0 <= z /\ z < 18446744073709551616 := fun z hzm => by
    have h1 : 0 <= z /\ z <= 18446744073709551615 := by simpa [Lit.wf, IntKind.min, IntKind.max, IntKind.signed, IntKind.bits] using hwf z hzm
    omega
   have hll : ((zs.take len).map Int.toNat).length = len := by simp; omega
   refine ⟨some a, len, cap, (zs.take len).map Int.toNat, rfl, hll.symm, hl, ⟨fun x hx => ?_, fun hp => ?_⟩, ?_⟩
   · obtain ⟨z, hz1, rfl⟩ := List.mem_map.1 hx;have := hrng z (List.mem_of_mem_take hz1);unfold W; omega
   · rw [hll] at hp;have h0 := hcell 0 (by omega);obtain ⟨b, o, rfl, hblt⟩ := addr_none (a := a) (w := w) (by simpa [Addr.add] using h0);refine ⟨b, o, rfl, hblt, fun i hi => ?_⟩;rw [hll] at hi;have h1 := hcell i (by omega);rw [add_plain] at h1;rw [h1];have h2 := hrng (zs[i]'(by omega)) (List.getElem_mem (by omega));have e1 : zs.getD i 0 = zs[i]'(by omega) := by rw [List.getD_eq_getElem?_getD, List.getElem?_eq_getElem (by omega)]; rfl
     have e2 : gw ((zs.take len).map Int.toNat) i = (zs[i]'(by omega)).toNat := by
      unfold gw;rw [List.getD_eq_getElem?_getD, List.getElem?_eq_getElem (by rw [hll]; exact hi)];simp
     rw [e1, e2];congr 2;omega
   · rw [bulk_slice, hll];have := bulk_length (lits (H := H) .u64 (zs.take len));have e : (lits (H := H) .u64 (zs.take len)).length = len := by simp [lits]; omega
     omega
set_option maxRecDepth 100000 in
theorem open_num {fuel : Nat} {cs : List Value} {x : DataW H × List MemPlace} (h : DataW.trod enc Tryz.prog w base sp held fuel 37 cs = some x) :
 ∃ (p : P4) (L : Nat) (z : Int), cs = [.bool p.1, .slice p.2.1 p.2.2.1 p.2.2.2] /\ IntAt w L (av p) z /\ L + 3 <= Rows.uptoBulk x.1 := by
 obtain ⟨y0, y1, n, rfl, hl, h0, h1⟩ := trod_struct2 Tryz.underlying37 h;obtain ⟨c0, c1, rfl⟩ : ∃ c0 c1, cs = [c0, c1] := by
  have e : cs.length = 2 := hl.trans (by kernel_rfl);match cs, e with
  | [a, b], _ => exact ⟨a, b, rfl⟩
 rw [show Tryz.prog.cellsOf 4 = 1 by kernel_rfl] at h0;rw [show Tryz.prog.cellsOf 35 = 1 by kernel_rfl] at h1;obtain ⟨b, hb, hy0⟩ := DataW.trod_bool Tryz.underlying4 h0;obtain ⟨ao, len, cap, ws, hc, hlen, hcap, hW, hbk⟩ := open_words h1;simp at hb hc;subst hb hc;refine ⟨(b, ao, len, cap), len, zi b (nval ws), rfl, ⟨b, ao, len, cap, ws, rfl, hW, hlen, Nat.le_refl _, hcap, rfl⟩, ?_⟩;rw [bulk_agg];simp only [Rows.uptoBulkAll];have := bulk_one y0.1;omega
theorem bulk_sum (D : Nat -> DataW H) (f : Nat -> Nat) : ∀ n, (∀ i, i < n -> f i <= Rows.uptoBulk (D i)) -> ((List.range n).map f).sum <= Rows.uptoBulkAll ((List.range n).map D)
 | 0, _ => by simp
 | n + 1, h => by
  have h1 := bulk_sum D f n fun i hi => h i (by omega);have h2 := h n (by omega);rw [List.range_succ, List.map_append, List.map_append, List.sum_append, bulk_append];simp only [List.map_cons, List.map_nil, List.sum_cons, List.sum_nil, Rows.uptoBulkAll];omega
set_option maxRecDepth 100000 in
theorem open_nums_s {fuel : Nat} {cs : List Value} {x : DataW H × List MemPlace} (h : DataW.trod enc Tryz.prog w base sp held fuel 22 cs = some x) :
 ∃ ao len cap xs, cs = [.slice ao len cap] /\ len = xs.length /\ len <= cap /\ LsAt w (Rows.uptoBulk x.1) ao xs /\ xs.length + 1 <= Rows.uptoBulk x.1 /\ (xs.map fun z => wlen z.natAbs).sum <= Rows.uptoBulk x.1 := by
 rcases open_slice Tryz.underlying22 h with ⟨rfl, rfl⟩ | ⟨a, len, cap, m, n, D, Pl, rfl, hb, hl, hm, hmm, rfl, hi⟩
 · exact ⟨none, 0, 0, [], rfl, rfl, Nat.le_refl _, fun h => absurd h (by simp), by simp [Rows.uptoBulk], by simp⟩
 · have hlm : len <= m := by rw [hmm]; split <;> omega
   have hD : ∀ i, i < len -> Rows.uptoBulk (D i) <= Rows.uptoBulkAll ((List.range len).map D) := fun i hi => bulk_mem (List.mem_map.2 ⟨i, List.mem_range.2 hi, rfl⟩);obtain ⟨l, hll, hp⟩ := list_of (n := len) (p := fun i (q : P4 × Int) => (w.cell? (a.add (i * 2)) = some (.bool q.1.1) /\ w.cell? (a.add (i * 2 + 1)) = some (.slice q.1.2.1 q.1.2.2.1 q.1.2.2.2)) /\ IntAt w (Rows.uptoBulkAll ((List.range len).map D)) (av q.1) q.2 /\ wlen q.2.natAbs <= Rows.uptoBulk (D i)) (fun i hil => by
    obtain ⟨cs', hc, ht⟩ := hi i (by omega);rw [show Tryz.prog.cellsOf 37 = 2 by kernel_rfl] at hc;obtain ⟨p, L, z, rfl, hI, hbk⟩ := open_num ht;obtain ⟨_, _, hcell⟩ := World.cells?_some hc;have c0 := hcell 0 (by omega);have c1 := hcell 1 (by omega);rw [add_add] at c0 c1;exact ⟨(p, z), ⟨by simpa using c0, by simpa using c1⟩, hI.mono (by have := hD i hil; have : Rows.uptoBulk (D i, Pl i).1 = Rows.uptoBulk (D i) := rfl; omega), by show wlen z.natAbs <= _; have h8 := hI.wlen; have h9 : Rows.uptoBulk (D i, Pl i).1 = Rows.uptoBulk (D i) := rfl; omega⟩)
   have hbl : len <= Rows.uptoBulkAll ((List.range len).map D) := by have := bulk_length ((List.range len).map D); simpa using this
   refine ⟨some a, len, cap, l.map Prod.snd, rfl, by simp [hll], hl, fun hpos => ?_, ?_, ?_⟩
   · have hpos' : 0 < len := by simpa [hll] using hpos
     have h0 := (hp 0 (by omega)).1.1;obtain ⟨b, o, rfl, hblt⟩ := addr_none (a := a) (w := w) (by simpa [Addr.add] using h0);refine ⟨b, o, rfl, hblt, fun i hi' => ?_⟩;have hil : i < l.length := by simpa using hi'
     obtain ⟨⟨c0, c1⟩, hI, _⟩ := hp i hil;rw [add_plain] at c0 c1;refine ⟨l[i].1, c0, by rw [<- Nat.add_assoc] at c1; exact c1, ?_⟩;have e : (l.map Prod.snd)[i]'hi' = l[i].2 := by simp
     rw [e, bulk_slice];exact hI.mono (by omega)
   · rw [bulk_slice]; simp [hll]; omega
   · have h1 := bulk_sum D (fun i => wlen ((l.map Prod.snd).getD i 0).natAbs) len (fun i hi => by
      have h2 := (hp i (by omega)).2.2;have e : (l.map Prod.snd).getD i 0 = (l[i]'(by omega)).2 := by
       rw [List.getD_eq_getElem?_getD, List.getElem?_map, List.getElem?_eq_getElem (by omega)]; rfl
      rw [e]; exact h2)
     have e : (List.range len).map (fun i => wlen ((l.map Prod.snd).getD i 0).natAbs) = (l.map Prod.snd).map fun z => wlen z.natAbs := by
      refine List.ext_getElem (by simp [hll]) fun i h1 h2 => ?_;have hi : i < l.length := by simpa using h2
      simp [hi]
     rw [e] at h1;rw [bulk_slice]; omega
theorem open_nums {fuel : Nat} {cs : List Value} {x : DataW H × List MemPlace} (h : DataW.trod enc Tryz.prog w base sp held fuel 22 cs = some x) :
 ∃ ao len cap xs, cs = [.slice ao len cap] /\ len = xs.length /\ len <= cap /\ LsAt w (Rows.uptoBulk x.1) ao xs /\ xs.length + 1 <= Rows.uptoBulk x.1 := by
 obtain ⟨ao, len, cap, xs, h1, h2, h3, h4, h5, _⟩ := open_nums_s h;exact ⟨ao, len, cap, xs, h1, h2, h3, h4, h5⟩
set_option maxRecDepth 100000 in
theorem open_mat {r : Reach} {b0 : Nat} {v : Value} {d : DataW H} {p : List MemPlace} (hv : Value.okWide Tryz.prog w r b0 24 v) (h : DataW.Trod enc Tryz.prog w base sp held 24 v d p) :
 ∃ (m n : Int) (ao : Option Addr) (len cap : Nat) (xs : List Int), v = .agg #[.int .i64 m, .int .i64 n, .slice ao len cap] /\ len = xs.length /\ len <= cap /\ LsAt w (Rows.uptoBulk d) ao xs /\ xs.length + 1 <= Rows.uptoBulk d := by
 obtain ⟨v0, v1, v2, y0, y1, y2, n, rfl, rfl, rfl, h0, h1, h2⟩ := Joins.open_agg3 Tryz.underlying24 (by kernel_rfl) (by kernel_rfl) hv h;obtain ⟨m, e0, -, -⟩ := DataW.trod_int Tryz.underlying3 h0;obtain ⟨k, e1, -, -⟩ := DataW.trod_int Tryz.underlying3 h1;obtain ⟨ao, len, cap, xs, e2, hlen, hcap, hL, hbk⟩ := open_nums h2;simp at e0 e1 e2;subst e0 e1 e2;have hle : Rows.uptoBulk y2.1 <= Rows.uptoBulk (.agg [y0.1, y1.1, y2.1]) := by rw [bulk_agg]; simp only [Rows.uptoBulkAll]; omega
 refine ⟨m, k, ao, len, cap, xs, rfl, hlen, hcap, fun hp => ?_, by omega⟩;obtain ⟨b, o, e, hlt, hc⟩ := hL hp;exact ⟨b, o, e, hlt, fun i hi => by obtain ⟨q, q0, q1, hq⟩ := hc i hi; exact ⟨q, q0, q1, hq.mono hle⟩⟩
theorem soundM_nat {r c : Int} {len : Nat} (h : soundM r c len = true) : ∃ m n : Nat, r = (m : Int) /\ c = (n : Int) /\ m <= 64 /\ n <= 64 /\ len = m * n := by
 unfold soundM sideOk at h;simp only [Bool.and_eq_true, decide_eq_true_eq, beq_iff_eq] at h;obtain ⟨⟨⟨h1, h2⟩, h3, h4⟩, h5⟩ := h;obtain ⟨m, rfl⟩ := Int.eq_ofNat_of_zero_le h1;obtain ⟨n, rfl⟩ := Int.eq_ofNat_of_zero_le h3;refine ⟨m, n, rfl, rfl, by omega, by omega, ?_⟩;rw [<- Int.natCast_mul] at h5;exact Int.ofNat.inj h5
set_option maxRecDepth 100000 in
theorem trodAll_stays {P : Program} (hl : laidOutB P = true) {W W' : World} {spf : Nat -> Bool} : ∀ {ts : List TypeId} {vs : List Value} {ds : List (DataW H)} {ps : List MemPlace}, (ts.all fun t => P.readableRec t && decide (t < P.types.size)) = true ->
 DataW.TrodAll enc P W 0 (fun _ => true) true ts vs ds ps -> (∀ x ∈ ps, W.sameAt W' x) -> (∀ x ∈ ps, spf x.block = true) -> DataW.TrodAll enc P W' 0 spf true ts vs ds ps := by
 intro ts;induction ts with
 | nil =>
  intro vs ds ps _ h _ _;cases vs <;> cases ds <;> exact h
 | cons t ts ih =>
  intro vs ds ps ha h hs hp;cases vs with
  | nil => exact h.elim
  | cons v vs =>
   cases ds with
   | nil => exact h.elim
   | cons d ds =>
    obtain ⟨p, q, h1, h2, rfl⟩ := h;simp only [List.all_cons, Bool.and_eq_true, decide_eq_true_eq] at ha;exact ⟨p, q, WideElems.Trod_stays hl ha.1.1 ha.1.2 h1 (fun x hx => hs x (List.mem_append_left _ hx)) (fun x hx => hp x (List.mem_append_left _ hx)),
     ih ha.2 h2 (fun x hx => hs x (List.mem_append_right _ hx)) (fun x hx => hp x (List.mem_append_right _ hx)), rfl⟩
theorem laid_out : laidOutB Tryz.prog = true := by kernel_rfl
set_option maxRecDepth 100000 in
theorem law_post {f : Func} {s : ChangeSpec} {W W' : World} {args : Array Value} {ds gs : List (DataW H)} {before : List MemPlace} (ha : (f.params.toList.all fun t => Tryz.prog.readableRec t && decide (t < Tryz.prog.types.size)) = true) (hv : s.vars = []) (hr : f.resultTypes = #[4])
 (hW : DataW.Whole enc Tryz.prog f.params.toList s.vars false W args.toList ds gs before) (h1 : (s.fn H (ds ++ gs)).results = [.lit (.bool true)]) (h2 : (s.fn H (ds ++ gs)).args = ds) (h3 : (s.fn H (ds ++ gs)).vars = []) (hb : Below W.heap.size W W') :
 s.post enc Tryz.prog f false true false false W args (.bool true) W' := by
 have hlt : ∀ p ∈ before, p.block < W.heap.size := fun p hp => hW.lt p hp;have hold : ∀ p ∈ before, (fun b => decide (b < W.heap.size)) p.block = true := fun p hp => by simpa using hlt p hp
 have hW' := hW;obtain ⟨p, q, hA, hV, rfl, hz, hn⟩ := hW;rw [hv] at hV;obtain ⟨rfl, rfl⟩ := trodVars_none hV;have hsame : ∀ x ∈ p, W.sameAt W' x := fun x hx => hb.same (hlt x (List.mem_append_left _ hx));have hargs : ∀ spf : Nat -> Bool, (∀ x ∈ p ++ [], spf x.block = true) -> DataW.TrodAll enc Tryz.prog W' 0 spf true f.params.toList args.toList (s.fn H (ds ++ [])).args p := fun spf hs => by
  rw [h2]; exact trodAll_stays laid_out ha hA hsame (fun x hx => hs x (List.mem_append_left _ hx))
 have hres : ∀ (b : Nat) (spf : Nat -> Bool) (hd : Bool), DataW.TrodAll enc Tryz.prog W' b spf hd f.resultTypes.toList ((Value.bool true).resultList f.resultTypes.size) (s.fn H (ds ++ [])).results [] := fun b spf hd => by
  rw [hr, h1]; exact trodAll_cons_mk (shut_bool Tryz.underlying4 _) trodAll_mk0
 have hvars : ∀ spf : Nat -> Bool, DataW.TrodVars enc Tryz.prog W' spf s.vars (s.fn H (ds ++ [])).vars [] := fun spf => by rw [hv, h3]; rfl
 refine ⟨ds, [], p ++ [], [], p, [], hW', hres _ _ _, hargs _ hold, hvars _, World.keptBut_mono (fun x hx => ⟨hx, Or.inr (by simpa using hx)⟩) (hb.frame (· ∈ p ++ [])), fun _ => ?_⟩;have hb1 : Value.okWide Tryz.prog W' .any 0 4 (.bool true) := okWide_bool_mk Tryz.underlying4 true;refine ⟨ok_one hr rfl hb1, _, _, ([] ++ p) ++ [], ⟨[] ++ p, [], trodAll_append (hargs _ (fun _ _ => rfl)) (hres _ _ _), hvars _, rfl, ?_, ?_⟩, ?_⟩
 · intro b off hp;have hin : MemPlace.cell b off ∈ p ++ [] := by simpa using hp
   rw [hb.frozen (hlt _ hin)];exact hz b off hin
 · intro h; cases h
 · intro x hx _;simpa using hx
end
set_option maxRecDepth 100000 in
theorem bulk_bound {H : Type} {l : List (DataW H)} (hk : Rows.uptoSmall H l = true) : Rows.uptoBulkAll l <= 1048576 := of_decide_eq_true hk
end Go.Proofs.YtdgfhcaokigieaaGreat
namespace Go.Proofs.YtdgfhcaokigieaaGreat
def sm : Nat -> (Nat -> Int) -> Int
 | 0, _ => 0
 | n + 1, f => sm n f + f n
theorem sm_congr {n : Nat} {f g : Nat -> Int} (h : ∀ k, k < n -> f k = g k) : sm n f = sm n g := by
 induction n with
 | zero => rfl
 | succ n ih => unfold sm; rw [ih (fun k hk => h k (by omega)), h n (by omega)]
theorem sm_zero {n : Nat} {f : Nat -> Int} (h : ∀ k, k < n -> f k = 0) : sm n f = 0 := by
 induction n with
 | zero => rfl
 | succ n ih => unfold sm; rw [ih (fun k hk => h k (by omega)), h n (by omega)]; rfl
theorem sm_add (n : Nat) (f g : Nat -> Int) : sm n (fun k => f k + g k) = sm n f + sm n g := by
 induction n with
 | zero => rfl
 | succ n ih => simp only [sm, ih]; omega
theorem sm_sub (n : Nat) (f g : Nat -> Int) : sm n (fun k => f k - g k) = sm n f - sm n g := by
 induction n with
 | zero => rfl
 | succ n ih => simp only [sm, ih]; omega
theorem sm_mul (n : Nat) (c : Int) (f : Nat -> Int) : sm n (fun k => c * f k) = c * sm n f := by
 induction n with
 | zero => simp [sm]
 | succ n ih => simp only [sm, ih, Int.mul_add]
theorem sm_one {n : Nat} {f : Nat -> Int} (i : Nat) (hi : i < n) (h : ∀ k, k < n -> k ≠ i -> f k = 0) : sm n f = f i := by
 induction n with
 | zero => omega
 | succ n ih =>
  unfold sm;by_cases e : i = n
  · subst e; rw [sm_zero (fun k hk => h k (by omega) (by omega))]; omega
  · rw [ih (by omega) (fun k hk hne => h k (by omega) hne), h n (by omega) (fun e' => e e'.symm)]; omega
theorem sm_abs {n : Nat} {f : Nat -> Int} {B : Nat} (h : ∀ k, k < n -> (f k).natAbs <= B) : (sm n f).natAbs <= n * B := by
 induction n with
 | zero => simp [sm]
 | succ n ih =>
  unfold sm;have h1 := ih (fun k hk => h k (by omega));have h2 := h n (by omega);have h3 := Int.natAbs_add_le (sm n f) (f n);rw [Nat.succ_mul]; omega
theorem sm_split (n m : Nat) (f : Nat -> Int) : sm (n + m) f = sm n f + sm m (fun k => f (n + k)) := by
 induction m with
 | zero => simp [sm]
 | succ m ih => rw [<- Nat.add_assoc]; simp only [sm, ih]; omega
theorem pigeon : ∀ (n : Nat) (f : Nat -> Nat), (∀ i, i <= n -> f i < n) -> ∃ i j, i < j /\ j <= n /\ f i = f j
 | 0, f, h => by have := h 0 (Nat.le_refl _); omega
 | n + 1, f, h => by
  by_cases hc : ∃ i, i <= n /\ f i = f (n + 1)
  · obtain ⟨i, hi, he⟩ := hc;exact ⟨i, n + 1, by omega, Nat.le_refl _, he⟩
  · have hn : ∀ i, i <= n -> f i ≠ f (n + 1) := fun i hi he => hc ⟨i, hi, he⟩;obtain ⟨i, j, hij, hj, he⟩ := pigeon n (fun i => if f i = n then f (n + 1) else f i) (fun i hi => by
     have h1 := h i (by omega);have h2 := h (n + 1) (Nat.le_refl _);have h3 := hn i hi;split <;> omega)
    refine ⟨i, j, hij, by omega, ?_⟩;have h1 := hn i (by omega);have h2 := hn j hj;split at he <;> split at he <;> omega
def encQ (Q : Nat) (v : Nat -> Nat) : Nat -> Nat
 | 0 => 0
 | s + 1 => encQ Q v s + v s * Q ^ s
theorem encQ_lt {Q : Nat} {v : Nat -> Nat} : ∀ {s : Nat}, (∀ j, j < s -> v j < Q) -> encQ Q v s < Q ^ s
 | 0, _ => by simp [encQ]
 | s + 1, h => by
  have h1 := encQ_lt (s := s) (fun j hj => h j (by omega));have h2 := h s (by omega);have h3 : (v s + 1) * Q ^ s <= Q * Q ^ s := Nat.mul_le_mul_right _ h2;rw [Nat.succ_mul] at h3;rw [Nat.pow_succ, Nat.mul_comm];unfold encQ; omega
theorem encQ_inj {Q : Nat} {u v : Nat -> Nat} : ∀ {s : Nat}, (∀ j, j < s -> u j < Q) -> (∀ j, j < s -> v j < Q) -> encQ Q u s = encQ Q v s -> ∀ j, j < s -> u j = v j
 | 0, _, _, _, j, hj => by omega
 | s + 1, hu, hv, he, j, hj => by
  have h1 := encQ_lt (s := s) (fun j hj => hu j (by omega));have h2 := encQ_lt (s := s) (fun j hj => hv j (by omega));have hp : 0 < Q ^ s := by omega
  unfold encQ at he;have d1 : (encQ Q u s + u s * Q ^ s) / Q ^ s = u s := by rw [Nat.add_mul_div_right _ _ hp, Nat.div_eq_of_lt h1, Nat.zero_add]
  have d2 : (encQ Q v s + v s * Q ^ s) / Q ^ s = v s := by rw [Nat.add_mul_div_right _ _ hp, Nat.div_eq_of_lt h2, Nat.zero_add]
  have hs : u s = v s := by rw [<- d1, <- d2, he]
  by_cases e : j = s
  · subst e; exact hs
  · rw [hs] at he;exact encQ_inj (s := s) (fun j hj => hu j (by omega)) (fun j hj => hv j (by omega)) (by omega) j (by omega)
theorem encQ_digits (Q n : Nat) : ∀ s, encQ Q (fun k => n / Q ^ k % Q) s = n % Q ^ s
 | 0 => by simp [encQ, Nat.mod_one]
 | s + 1 => by
  unfold encQ;rw [encQ_digits Q n s, Nat.mod_pow_succ, Nat.mul_comm]
theorem siegel (r s M : Nat) (A : Nat -> Nat -> Int) (hs : s < r) (hA : ∀ k j, k < r -> j < s -> (A k j).natAbs <= M) :
 ∃ x : Nat -> Int, (∃ k, k < r /\ x k ≠ 0) /\ (∀ k, k < r -> (x k).natAbs <= (2 * r * M + 1) ^ s) /\ ∀ j, j < s -> sm r (fun k => x k * A k j) = 0 := by
 obtain ⟨T, hT⟩ : ∃ T, (2 * r * M + 1) ^ s = T := ⟨_, rfl⟩;obtain ⟨V, hV⟩ : ∃ V, r * (T * M) = V := ⟨_, rfl⟩;have hTp : 0 < T := by rw [<- hT]; exact Nat.pow_pos (by omega)
 have hy : ∀ n j, j < s -> (sm r (fun k => ((n / (T + 1) ^ k % (T + 1) : Nat) : Int) * A k j)).natAbs <= V := by
  intro n j hj;rw [<- hV];refine sm_abs (fun k hk => ?_);rw [Int.natAbs_mul, Int.natAbs_natCast];have h1 : n / (T + 1) ^ k % (T + 1) < T + 1 := Nat.mod_lt _ (by omega);exact Nat.mul_le_mul (by omega) (hA k j hk hj)
 have hQ : (2 * V + 1) ^ s < (T + 1) ^ r := by
  have h1 : 2 * V + 1 <= (2 * r * M + 1) * (T + 1) := by
   have e1 : (2 * r * M + 1) * (T + 1) = 2 * r * M * T + 2 * r * M + T + 1 := by
    rw [Nat.mul_add, Nat.add_mul]; omega
   have e2 : 2 * r * M * T = 2 * V := by
    rw [<- hV]; simp only [Nat.mul_assoc, Nat.mul_comm, Nat.mul_left_comm]
   omega
  have h2 : (2 * V + 1) ^ s <= T * (T + 1) ^ s := by
   rw [<- hT, <- Nat.mul_pow, hT]; exact Nat.pow_le_pow_left h1 s
  have h3 : T * (T + 1) ^ s < (T + 1) ^ (s + 1) := by
   rw [Nat.pow_succ, Nat.mul_comm];exact Nat.mul_lt_mul_of_pos_left (by omega) (Nat.pow_pos (by omega))
  have h4 : (T + 1) ^ (s + 1) <= (T + 1) ^ r := Nat.pow_le_pow_right (by omega) hs;omega
 obtain ⟨i, j, hij, hj, he⟩ := pigeon ((2 * V + 1) ^ s) (fun n => encQ (2 * V + 1) (fun q => (sm r (fun k => ((n / (T + 1) ^ k % (T + 1) : Nat) : Int) * A k q) + V).toNat % (2 * V + 1)) s) (fun i _ => encQ_lt (fun q _ => Nat.mod_lt _ (by omega)));have hq := encQ_inj (fun q _ => Nat.mod_lt _ (by omega)) (fun q _ => Nat.mod_lt _ (by omega)) he;refine ⟨fun k => ((j / (T + 1) ^ k % (T + 1) : Nat) : Int) - ((i / (T + 1) ^ k % (T + 1) : Nat) : Int), ?_, ?_, ?_⟩
 · by_cases hc : ∃ k, k < r /\ j / (T + 1) ^ k % (T + 1) ≠ i / (T + 1) ^ k % (T + 1)
   · obtain ⟨k, hk, hne⟩ := hc;refine ⟨k, hk, ?_⟩
     revert hne
     dsimp only;generalize j / (T + 1) ^ k % (T + 1) = a;generalize i / (T + 1) ^ k % (T + 1) = b;omega
   · exfalso;have hall : ∀ k, k < r -> j / (T + 1) ^ k % (T + 1) = i / (T + 1) ^ k % (T + 1) := fun k hk => Classical.byContradiction fun h => hc ⟨k, hk, h⟩;have e1 := encQ_digits (T + 1) i r;have e2 := encQ_digits (T + 1) j r;have e3 : ∀ s', s' <= r -> encQ (T + 1) (fun k => j / (T + 1) ^ k % (T + 1)) s' = encQ (T + 1) (fun k => i / (T + 1) ^ k % (T + 1)) s' := by
      intro s' hs';induction s' with
      | zero => rfl
      | succ q ih => simp only [encQ]; rw [ih (by omega), hall q (by omega)]
     have e4 := e3 r (Nat.le_refl _);rw [e1, e2, Nat.mod_eq_of_lt (by omega), Nat.mod_eq_of_lt (by omega)] at e4;omega
 · intro k hk;have h1 : j / (T + 1) ^ k % (T + 1) < T + 1 := Nat.mod_lt _ (by omega);have h2 : i / (T + 1) ^ k % (T + 1) < T + 1 := Nat.mod_lt _ (by omega);rw [hT]
   revert h1 h2
   dsimp only;generalize j / (T + 1) ^ k % (T + 1) = a;generalize i / (T + 1) ^ k % (T + 1) = b;omega
 · intro q hq';have h1 := hq q hq';have h2 := hy i q hq';have h3 := hy j q hq';have h4 : sm r (fun k => (((j / (T + 1) ^ k % (T + 1) : Nat) : Int) - ((i / (T + 1) ^ k % (T + 1) : Nat) : Int)) * A k q) = sm r (fun k => ((j / (T + 1) ^ k % (T + 1) : Nat) : Int) * A k q) - sm r (fun k => ((i / (T + 1) ^ k % (T + 1) : Nat) : Int) * A k q) := by
    rw [<- sm_sub]; exact sm_congr (fun k _ => Int.sub_mul ..)
   dsimp only at h1 ⊢;rw [h4];generalize sm r (fun k => ((j / (T + 1) ^ k % (T + 1) : Nat) : Int) * A k q) = a at *;generalize sm r (fun k => ((i / (T + 1) ^ k % (T + 1) : Nat) : Int) * A k q) = b at *;rw [Nat.mod_eq_of_lt (by omega), Nat.mod_eq_of_lt (by omega)] at h1;omega
def Sp (n : Nat) (E : Nat -> Nat -> Int) (v : Nat -> Int) : Prop := ∃ x : Nat -> Int, ∀ j, v j = sm n (fun k => x k * E k j)
theorem Sp.zero (n : Nat) (E : Nat -> Nat -> Int) : Sp n E (fun _ => 0) := ⟨fun _ => 0, fun j => (sm_zero (fun k _ => Int.zero_mul _)).symm⟩
theorem Sp.congr {n : Nat} {E : Nat -> Nat -> Int} {v w : Nat -> Int} (h : Sp n E v) (e : ∀ j, w j = v j) : Sp n E w := by
 obtain ⟨x, hx⟩ := h;exact ⟨x, fun j => (e j).trans (hx j)⟩
theorem Sp.add {n : Nat} {E : Nat -> Nat -> Int} {v w : Nat -> Int} (h : Sp n E v) (k : Sp n E w) : Sp n E (fun j => v j + w j) := by
 obtain ⟨x, hx⟩ := h; obtain ⟨y, hy⟩ := k;refine ⟨fun k => x k + y k, fun j => ?_⟩;show v j + w j = _;rw [hx, hy, <- sm_add]; exact sm_congr (fun k _ => (Int.add_mul ..).symm)
theorem Sp.smul {n : Nat} {E : Nat -> Nat -> Int} {v : Nat -> Int} (c : Int) (h : Sp n E v) : Sp n E (fun j => c * v j) := by
 obtain ⟨x, hx⟩ := h;refine ⟨fun k => c * x k, fun j => ?_⟩;show c * v j = _;rw [hx, <- sm_mul]; exact sm_congr (fun k _ => (Int.mul_assoc ..).symm)
theorem Sp.sub {n : Nat} {E : Nat -> Nat -> Int} {v w : Nat -> Int} (h : Sp n E v) (k : Sp n E w) : Sp n E (fun j => v j - w j) :=
 (h.add (k.smul (-1))).congr (fun j => by omega)
theorem Sp.row {n : Nat} (E : Nat -> Nat -> Int) {k : Nat} (hk : k < n) : Sp n E (E k) := by
 refine ⟨fun i => if i = k then 1 else 0, fun j => ?_⟩;rw [sm_one k hk (fun i _ hne => by simp [hne])]; simp
theorem Sp.sm {n m : Nat} {E : Nat -> Nat -> Int} {F : Nat -> Nat -> Int} {x : Nat -> Int} (h : ∀ k, k < m -> Sp n E (F k)) : Sp n E (fun j => sm m (fun k => x k * F k j)) := by
 induction m with
 | zero => exact Sp.zero n E
 | succ m ih => exact (ih (fun k hk => h k (by omega))).add ((h m (by omega)).smul (x m))
theorem Sp.trans {n m : Nat} {E F : Nat -> Nat -> Int} {v : Nat -> Int} (hv : Sp m F v) (h : ∀ k, k < m -> Sp n E (F k)) : Sp n E v := by
 obtain ⟨x, hx⟩ := hv;exact (Sp.sm (x := x) h).congr hx
def SpEq (n : Nat) (E : Nat -> Nat -> Int) (m : Nat) (F : Nat -> Nat -> Int) : Prop := (∀ k, k < n -> Sp m F (E k)) /\ ∀ k, k < m -> Sp n E (F k)
theorem SpEq.refl (n : Nat) (E : Nat -> Nat -> Int) : SpEq n E n E := ⟨fun k hk => Sp.row E hk, fun k hk => Sp.row E hk⟩
theorem SpEq.symm {n m : Nat} {E F : Nat -> Nat -> Int} (h : SpEq n E m F) : SpEq m F n E := ⟨h.2, h.1⟩
theorem SpEq.trans {n m l : Nat} {E F G : Nat -> Nat -> Int} (h : SpEq n E m F) (k : SpEq m F l G) : SpEq n E l G :=
 ⟨fun i hi => (h.1 i hi).trans k.1, fun i hi => (k.2 i hi).trans h.2⟩
theorem SpEq.of_eq {n : Nat} {E F : Nat -> Nat -> Int} (h : ∀ k, k < n -> ∀ j, E k j = F k j) : SpEq n E n F :=
 ⟨fun k hk => (Sp.row F hk).congr (h k hk), fun k hk => (Sp.row E hk).congr (fun j => (h k hk j).symm)⟩
structure Ech (n c : Nat) (E : Nat -> Nat -> Int) (l : Nat -> Nat) : Prop where
 inc : ∀ i k, i < k -> k < n -> l i < l k
 lt : ∀ i, i < n -> l i < c
 zero : ∀ i, i < n -> ∀ j, j < l i -> E i j = 0
 pos : ∀ i, i < n -> 0 < E i (l i)
structure Herm (n c : Nat) (E : Nat -> Nat -> Int) (l : Nat -> Nat) : Prop extends Ech n c E l where
 red : ∀ i k, i < k -> k < n -> 0 <= E i (l k) /\ E i (l k) < E k (l k)
theorem Ech.at {n c : Nat} {E : Nat -> Nat -> Int} {l : Nat -> Nat} (h : Ech n c E l) (x : Nat -> Int) {k : Nat} (hk : k < n) (h0 : ∀ i, i < k -> x i = 0) : sm n (fun i => x i * E i (l k)) = x k * E k (l k) := by
 refine sm_one k hk (fun i hi hne => ?_);rcases Nat.lt_or_gt_of_ne hne with hlt | hgt
 · rw [h0 i hlt, Int.zero_mul]
 · rw [h.zero i hi _ (h.inc k i hgt hi), Int.mul_zero]
theorem Ech.small {n c : Nat} {E : Nat -> Nat -> Int} {l : Nat -> Nat} (h : Ech n c E l) (x : Nat -> Int) : ∀ m, m <= n -> (∀ k, k < m -> (sm n (fun i => x i * E i (l k))).natAbs < (E k (l k)).natAbs) -> ∀ k, k < m -> x k = 0
 | 0, _, _, k, hk => by omega
 | m + 1, hm, hs, k, hk => by
  have ih := Ech.small h x m (by omega) (fun k hk => hs k (by omega));by_cases e : k = m
  · subst e;have h1 := hs k (by omega);rw [h.at x (by omega) ih, Int.natAbs_mul] at h1;have h2 : ¬ 0 < (x k).natAbs := fun h3 => by
     have := Nat.mul_le_mul_right (E k (l k)).natAbs h3;omega
    omega
  · exact ih k (by omega)
theorem Ech.none {n c : Nat} {E : Nat -> Nat -> Int} {l : Nat -> Nat} (h : Ech n c E l) {v : Nat -> Int} (hv : Sp n E v) (hs : ∀ k, k < n -> (v (l k)).natAbs < (E k (l k)).natAbs) (j : Nat) : v j = 0 := by
 obtain ⟨x, hx⟩ := hv;have h0 := h.small x n (Nat.le_refl _) (fun k hk => by rw [<- hx]; exact hs k hk);rw [hx, sm_zero (fun k hk => by rw [h0 k hk, Int.zero_mul])]
theorem Ech.none0 {n c : Nat} {E : Nat -> Nat -> Int} {l : Nat -> Nat} (h : Ech n c E l) {v : Nat -> Int} (hv : Sp n E v) (hs : ∀ k, k < n -> v (l k) = 0) (j : Nat) : v j = 0 :=
 h.none hv (fun k hk => by have := h.pos k hk; rw [hs k hk]; omega) j
theorem Ech.lead {n c : Nat} {E : Nat -> Nat -> Int} {l : Nat -> Nat} (h : Ech n c E l) {v : Nat -> Int} (hv : Sp n E v) {q : Nat} (hq : v q ≠ 0) (h0 : ∀ j, j < q -> v j = 0) : ∃ k, k < n /\ l k = q /\ E k q ∣ v q := by
 obtain ⟨x, hx⟩ := hv;have key : ∀ m, m <= n -> (∃ k, k < m /\ l k = q /\ E k q ∣ v q) ∨ (∀ k, k < m -> x k = 0 ∨ q < l k) := by
  intro m;induction m with
  | zero => exact fun _ => .inr (fun k hk => by omega)
  | succ m ih =>
   intro hm;rcases ih (by omega) with h1 | h1
   · obtain ⟨k, hk, h2⟩ := h1; exact .inl ⟨k, by omega, h2⟩
   · by_cases hlt : q < l m
     · exact .inr (fun k hk => by
        by_cases e : k = m
        · subst e; exact .inr hlt
        · exact h1 k (by omega))
     · have hz : ∀ i, i < m -> x i = 0 := fun i hi => (h1 i hi).elim id (fun h2 => by have := h.inc i m hi (by omega); omega);have h3 := h.at x (by omega : m < n) hz;rw [<- hx] at h3;by_cases e : l m = q
       · refine .inl ⟨m, by omega, e, ?_⟩;rw [e] at h3; rw [h3]; exact Int.dvd_mul_left ..
       · have h4 : v (l m) = 0 := h0 _ (by omega);rw [h4] at h3;have h5 := h.pos m (by omega);have h6 : x m = 0 := by
          rcases Int.mul_eq_zero.1 h3.symm with h7 | h7
          · exact h7
          · omega
         exact .inr (fun k hk => by
          by_cases e : k = m
          · subst e; exact .inl h6
          · exact .inl (hz k (by omega)))
 rcases key n (Nat.le_refl _) with h1 | h1
 · exact h1
 · exfalso;apply hq;rw [hx];refine sm_zero (fun k hk => ?_);rcases h1 k hk with h2 | h2
   · rw [h2, Int.zero_mul]
   · rw [h.zero k hk _ h2, Int.mul_zero]
theorem Ech.same {n m c c' : Nat} {E F : Nat -> Nat -> Int} {l l' : Nat -> Nat} (h : Ech n c E l) (h' : Ech m c' F l') (hs : SpEq n E m F) : n = m /\ ∀ k, k < n -> l k = l' k /\ E k (l k) = F k (l k) := by
 have one : ∀ {n m c c' : Nat} {E F : Nat -> Nat -> Int} {l l' : Nat -> Nat}, Ech n c E l -> Ech m c' F l' -> SpEq n E m F -> ∀ k, (∀ i, i < k -> i < n -> i < m -> l i = l' i) -> k < n -> (∀ i, i < k -> i < m) -> k < m /\ l' k <= l k /\ ∀ t, t < m -> l' t = l k -> F t (l k) ∣ E k (l k) := by
  intro n m c c' E F l l' h h' hs k ih hk hkm;obtain ⟨t, ht, e, hd⟩ := h'.lead (hs.1 k hk) (q := l k) (by have := h.pos k hk; omega) (h.zero k hk);have h1 : k <= t := by
   by_cases h2 : k <= t
   · exact h2
   · exfalso;have h3 := ih t (by omega) (by omega) ht;have h4 := h.inc t k (by omega) hk;omega
  have h2 : k < m := by omega
  refine ⟨h2, ?_, ?_⟩
  · rcases Nat.lt_or_eq_of_le h1 with h3 | h3
    · have := h'.inc k t h3 ht; omega
    · subst h3; omega
  · intro t' ht' e';have : t' = t := by
     rcases Nat.lt_trichotomy t' t with h3 | h3 | h3
     · have := h'.inc t' t h3 ht; omega
     · exact h3
     · have := h'.inc t t' h3 ht'; omega
    subst this; exact hd
 have all : ∀ k, (k < n ↔ k < m) /\ (k < n -> l k = l' k /\ E k (l k) = F k (l k)) := by
  intro k;induction k using Nat.strongRecOn with
  | _ k ih =>
   have h1 : k < n -> k < m := fun hk => (one h h' hs k (fun i hi hn _ => ((ih i hi).2 hn).1) hk (fun i hi => (ih i hi).1.1 (by omega))).1;have h2 : k < m -> k < n := fun hk => (one h' h hs.symm k (fun i hi hm _ => ((ih i hi).2 ((ih i hi).1.2 hm)).1.symm) hk (fun i hi => (ih i hi).1.2 (by omega))).1;refine ⟨⟨h1, h2⟩, fun hk => ?_⟩;have h3 := one h h' hs k (fun i hi hn _ => ((ih i hi).2 hn).1) hk (fun i hi => (ih i hi).1.1 (by omega));have h4 := one h' h hs.symm k (fun i hi hm _ => ((ih i hi).2 ((ih i hi).1.2 hm)).1.symm) (h1 hk) (fun i hi => (ih i hi).1.2 (by omega));have e : l k = l' k := by omega
   refine ⟨e, ?_⟩;have d1 := h3.2.2 k (h1 hk) e.symm;have d2 := h4.2.2 k hk e;rw [<- e] at d2;have p1 := h.pos k hk;have p2 := h'.pos k (h1 hk);rw [<- e] at p2;exact Int.dvd_antisymm (Int.le_of_lt p1) (Int.le_of_lt p2) d2 d1
 refine ⟨?_, fun k hk => (all k).2 hk⟩;have h1 := (all n).1;have h2 := (all m).1;omega
theorem Herm.unique {n m c c' : Nat} {E F : Nat -> Nat -> Int} {l l' : Nat -> Nat} (h : Herm n c E l) (h' : Herm m c' F l') (hs : SpEq n E m F) : n = m /\ (∀ k, k < n -> l k = l' k) /\ ∀ k, k < n -> ∀ j, E k j = F k j := by
 obtain ⟨hnm, hl⟩ := h.toEch.same h'.toEch hs;refine ⟨hnm, fun k hk => (hl k hk).1, fun i hi j => ?_⟩;have hw : Sp n E (fun j => E i j - F i j) := (Sp.row E hi).sub (hs.2 i (by omega));have := h.toEch.none hw (fun k hk => ?_) j
 · omega
 · have hlk := hl k hk;have hp := h.pos k hk;rcases Nat.lt_trichotomy k i with h1 | h1 | h1
   · have e1 : E i (l k) = 0 := h.zero i hi _ (h.inc k i h1 hi);have e2 : F i (l k) = 0 := h'.zero i (by omega) _ (by rw [hlk.1]; exact h'.inc k i h1 (by omega));rw [e1, e2]; omega
   · subst h1;have := hlk.2; omega
   · have r1 := h.red i k h1 hk;have r2 := h'.red i k h1 (by omega);rw [<- hlk.1, <- hlk.2] at r2;omega
def Indep (n : Nat) (a : Nat -> Nat -> Int) : Prop := ∀ x : Nat -> Int, (∀ j, sm n (fun k => x k * a k j) = 0) -> ∀ k, k < n -> x k = 0
theorem common : ∀ (n : Nat) (Y : Nat -> Int), (∀ k, k < n -> Y k ≠ 0) -> ∃ d : Int, d ≠ 0 /\ ∀ k, k < n -> Y k ∣ d
 | 0, _, _ => ⟨1, by omega, fun k hk => by omega⟩
 | n + 1, Y, h => by
  obtain ⟨d, hd, hk⟩ := common n Y (fun k hk => h k (by omega));refine ⟨d * Y n, fun e => ?_, fun k hk' => ?_⟩
  · rcases Int.mul_eq_zero.1 e with e | e
    · exact hd e
    · exact h n (by omega) e
  · by_cases e : k = n
    · subst e; exact Int.dvd_mul_left ..
    · exact Int.dvd_mul_of_dvd_left (hk k (by omega))
def hermD (n M : Nat) : Nat := n * (n * ((2 * n * M + 1) ^ (n - 1) * M)) * (n * ((2 * n * M + 1) ^ (n - 1) * M))
theorem Herm.bound {n c M : Nat} {E : Nat -> Nat -> Int} {l : Nat -> Nat} (h : Herm n c E l) {a : Nat -> Nat -> Int} (ha : ∀ k, k < n -> Sp n E (a k)) (hi : Indep n a) (hM : ∀ k j, k < n -> (a k j).natAbs <= M) : ∀ i j, i < n -> (E i j).natAbs <= hermD n M := by
 obtain ⟨D, hD⟩ : ∃ D, n * ((2 * n * M + 1) ^ (n - 1) * M) = D := ⟨_, rfl⟩;have hy : ∀ i, i < n -> ∃ y : Nat -> Int, Sp n E y /\ (∀ j, (y j).natAbs <= D) /\ (∀ k, k < n -> k ≠ i -> y (l k) = 0) /\ y (l i) ≠ 0 := by
  intro i hin;obtain ⟨x, ⟨k0, hk0, hx0⟩, hxb, hxz⟩ := siegel n (n - 1) M (fun k q => a k (l (if q < i then q else q + 1))) (by omega) (fun k j hk _ => hM k _ hk);have hz : ∀ k, k < n -> k ≠ i -> sm n (fun t => x t * a t (l k)) = 0 := by
   intro k hk hne;rcases Nat.lt_or_gt_of_ne hne with h1 | h1
   · have := hxz k (by omega);simpa [h1] using this
   · have := hxz (k - 1) (by omega);have e : ¬ k - 1 < i := by omega
     have e2 : k - 1 + 1 = k := by omega
     simpa [e, e2] using this
  have hsp : Sp n E (fun j => sm n (fun k => x k * a k j)) := Sp.sm ha;refine ⟨fun j => sm n (fun k => x k * a k j), hsp, fun j => ?_, hz, fun e => ?_⟩
  · rw [<- hD];refine sm_abs (fun k hk => ?_);rw [Int.natAbs_mul];exact Nat.mul_le_mul (hxb k hk) (hM k j hk)
  · have h0 := h.toEch.none0 hsp (fun k hk => by
     by_cases e' : k = i
     · subst e'; exact e
     · exact hz k hk e')
    exact hx0 (hi x h0 k0 hk0)
 have hpiv : ∀ i, i < n -> (E i (l i)).natAbs <= D := by
  intro i hin;obtain ⟨y, hs, hb, hz, hn⟩ := hy i hin;obtain ⟨x, hx⟩ := hs;have h0 : ∀ k, k < i -> x k = 0 := h.toEch.small x i (by omega) (fun k hk => by
   rw [<- hx, hz k (by omega) (by omega)]; have := h.pos k (by omega); omega)
  have h1 := h.toEch.at x hin h0;rw [<- hx] at h1;have h2 := hb (l i);rw [h1, Int.natAbs_mul] at h2;have h3 : 1 <= (x i).natAbs := by
   have : x i ≠ 0 := fun e => hn (by rw [h1, e, Int.zero_mul]);omega
  have h4 := Nat.mul_le_mul_right (E i (l i)).natAbs h3;omega
 have hent : ∀ i k, i < n -> k < n -> (E i (l k)).natAbs <= D := by
  intro i k hin hk;rcases Nat.lt_trichotomy i k with h1 | h1 | h1
  · have := h.red i k h1 hk; have := hpiv k hk; omega
  · subst h1; exact hpiv i hin
  · rw [h.zero i hin _ (h.inc k i h1 hin)]; simp
 intro i j hin;obtain ⟨y, hY⟩ : ∃ y : Nat -> Nat -> Int, ∀ i, i < n -> Sp n E (y i) /\ (∀ j, (y i j).natAbs <= D) /\ (∀ k, k < n -> k ≠ i -> y i (l k) = 0) /\ y i (l i) ≠ 0 := by
  refine ⟨fun i => if hin : i < n then Classical.choose (hy i hin) else fun _ => 0, fun i hin => ?_⟩;simp only [hin, dif_pos];exact Classical.choose_spec (hy i hin)
 obtain ⟨d, hd, hdv⟩ := common n (fun k => y k (l k)) (fun k hk => (hY k hk).2.2.2);obtain ⟨q, hq⟩ : ∃ q : Nat -> Int, ∀ k, k < n -> d = q k * y k (l k) := by
  refine ⟨fun k => d / y k (l k), fun k hk => ?_⟩;exact (Int.ediv_mul_cancel (hdv k hk)).symm
 have hsp : Sp n E (fun j => d * E i j - sm n (fun k => (E i (l k) * q k) * y k j)) := ((Sp.row E hin).smul d).sub (Sp.sm (fun k hk => (hY k hk).1));have h0 := h.toEch.none0 hsp (fun m hm => by
  rw [sm_one m hm (fun k hk hne => by rw [(hY k hk).2.2.1 m hm (fun e => hne e.symm), Int.mul_zero])];rw [Int.mul_assoc, <- hq m hm, Int.mul_comm]; omega) j
 have hb : (sm n (fun k => (E i (l k) * q k) * y k j)).natAbs <= n * (D * d.natAbs * D) := by
  refine sm_abs (fun k hk => ?_);rw [Int.natAbs_mul, Int.natAbs_mul];have h1 : (q k).natAbs <= d.natAbs := by
   have e := congrArg Int.natAbs (hq k hk);rw [Int.natAbs_mul] at e;have h2 : 1 <= (y k (l k)).natAbs := by have := (hY k hk).2.2.2; omega
   have h3 := Nat.mul_le_mul_left (q k).natAbs h2;omega
  exact Nat.mul_le_mul (Nat.mul_le_mul (hent i k hin hk) h1) ((hY k hk).2.1 j)
 have h1 : (d * E i j).natAbs <= n * (D * d.natAbs * D) := by
  have : d * E i j = sm n (fun k => (E i (l k) * q k) * y k j) := by omega
  rw [this]; exact hb
 rw [Int.natAbs_mul] at h1;have h2 : n * (D * d.natAbs * D) = d.natAbs * (n * D * D) := by
  simp only [Nat.mul_comm, Nat.mul_left_comm, Nat.mul_assoc]
 rw [h2] at h1;have h3 := Nat.le_of_mul_le_mul_left h1 (by omega : 0 < d.natAbs);unfold hermD;rw [hD]; exact h3
theorem smTwo (n k l : Nat) (f : Nat -> Int) (hk : k < n) (hl : l < n) (hkl : k ≠ l) (h : ∀ i < n, i ≠ k -> i ≠ l -> f i = 0) : sm n f = f k + f l := by
 have e : sm n f = sm n (fun i => (if i = k then f i else 0) + (if i = k then 0 else f i)) := sm_congr (fun i _ => by split <;> omega);rw [e, sm_add, sm_one k hk (fun i _ hik => if_neg hik), sm_one l hl (fun i hi hil => by
  by_cases hik : i = k
  · exact if_pos hik
  · rw [if_neg hik]; exact h i hi hik hil), if_pos rfl, if_neg (fun e => hkl e.symm)]
abbrev Mx := Nat -> Nat -> Int
def skp (i a : Nat) : Nat := if a < i then a else a + 1
def minor (M : Mx) (i : Nat) : Mx := fun a b => M (skp i a) (b + 1)
def sgn (i : Nat) : Int := if i % 2 = 0 then 1 else -1
theorem sgn_succ (i : Nat) : sgn (i + 1) = - sgn i := by
 unfold sgn
 (repeat' split) <;> first | rfl | omega
def det : Nat -> Mx -> Int
 | 0, _ => 1
 | n + 1, M => sm (n + 1) fun i => sgn i * M i 0 * det n (minor M i)
theorem det_congr : ∀ (n : Nat) {M N : Mx}, (∀ i < n, ∀ j < n, M i j = N i j) -> det n M = det n N
 | 0, _, _, _ => rfl
 | n + 1, M, N, h => by
  unfold det;refine sm_congr fun i hi => ?_;rw [h i hi 0 (by omega), det_congr n (M := minor M i) (N := minor N i) fun a ha b hb => h _ (by unfold skp; split <;> omega) _ (by omega)]
def upd (M : Mx) (k : Nat) (R : Nat -> Int) : Mx := fun a b => if a = k then R b else M a b
theorem minor_upd_same (M : Mx) (k : Nat) (R : Nat -> Int) : minor (upd M k R) k = minor M k := by
 funext a b;unfold minor upd skp;split <;> rw [if_neg (by omega)]
theorem minor_upd_other (M : Mx) (k i : Nat) (R : Nat -> Int) (h : i ≠ k) : minor (upd M k R) i = upd (minor M i) (if k < i then k else k - 1) (fun b => R (b + 1)) := by
 funext a b;unfold minor upd skp;by_cases ha : a < i <;> by_cases hk : k < i <;> simp only [ha, hk, if_true, if_false] <;> split <;> split <;> first | rfl | (exfalso; omega)
theorem det_lin : ∀ (n : Nat) (M : Mx) (k : Nat) (c : Int) (U V : Nat -> Int), k < n -> det n (upd M k fun j => c * U j + V j) = c * det n (upd M k U) + det n (upd M k V)
 | n + 1, M, k, c, U, V, hk => by
  unfold det;rw [<- sm_mul, <- sm_add];refine sm_congr fun i hi => ?_;by_cases h : i = k
  · subst h;rw [minor_upd_same, minor_upd_same, minor_upd_same];simp only [upd, if_pos];generalize det n (minor M i) = d;rw [Int.mul_add, Int.add_mul, <- Int.mul_assoc, <- Int.mul_assoc, Int.mul_comm (sgn i) c];simp only [Int.mul_assoc]
  · rw [minor_upd_other M k i _ h, minor_upd_other M k i _ h, minor_upd_other M k i _ h, det_lin n (minor M i) _ c (fun b => U (b + 1)) (fun b => V (b + 1)) (by split <;> omega)];simp only [upd, if_neg h];rw [Int.mul_add, <- Int.mul_assoc, <- Int.mul_assoc, Int.mul_comm _ c, Int.mul_assoc c]
theorem det_adj : ∀ (n : Nat) (M : Mx) (k : Nat), k + 1 < n -> (∀ j < n, M k j = M (k + 1) j) -> det n M = 0
 | n + 1, M, k, hk, h => by
  unfold det;rw [smTwo (n + 1) k (k + 1) _ (by omega) (by omega) (by omega) fun i hi h1 h2 => ?_]
  · have e : minor M k = minor M (k + 1) ∨ True := .inr trivial;have e2 : det n (minor M k) = det n (minor M (k + 1)) := det_congr n fun a ha b hb => by
     unfold minor skp;by_cases h1 : a < k
     · rw [if_pos h1, if_pos (by omega)]
     · rw [if_neg h1];by_cases h3 : a = k
       · subst h3; rw [if_pos (by omega)]; exact (h (b + 1) (by omega)).symm
       · rw [if_neg (by omega)]
    rw [e2, h 0 (by omega), sgn_succ, Int.neg_mul, Int.neg_mul];omega
  · have : det n (minor M i) = 0 := by
     by_cases hik : i < k
     · refine det_adj n _ (k - 1) (by omega) fun j hj => ?_;unfold minor skp;rw [if_neg (by omega), if_neg (by omega), show k - 1 + 1 = k by omega];exact h (j + 1) (by omega)
     · refine det_adj n _ k (by omega) fun j hj => ?_;unfold minor skp;rw [if_pos (by omega), if_pos (by omega)];exact h (j + 1) (by omega)
    rw [this, Int.mul_zero]
theorem upd_self (M : Mx) (k : Nat) : upd M k (M k) = M := by
 funext a b; unfold upd; split
 · rename_i h; rw [h]
 · rfl
theorem upd_comm (M : Mx) {k l : Nat} (h : k ≠ l) (R R' : Nat -> Int) : upd (upd M k R) l R' = upd (upd M l R') k R := by
 funext a b; unfold upd; (repeat' split) <;> first | rfl | omega
theorem upd_get (M : Mx) (k : Nat) (R : Nat -> Int) : upd M k R k = R := by funext b; simp [upd]
theorem upd_get' (M : Mx) {k l : Nat} (h : l ≠ k) (R : Nat -> Int) : upd M k R l = M l := by funext b; simp [upd, h]
theorem det_add (n : Nat) (M : Mx) (k : Nat) (U V : Nat -> Int) (hk : k < n) : det n (upd M k fun j => U j + V j) = det n (upd M k U) + det n (upd M k V) := by
 have := det_lin n M k 1 U V hk;simpa using this
theorem det_smul (n : Nat) (M : Mx) (k : Nat) (c : Int) (U : Nat -> Int) (hk : k < n) : det n (upd M k fun j => c * U j) = c * det n (upd M k U) := by
 have h := det_lin n M k c U (fun _ => 0) hk;have h0 := det_lin n M k (-1) (fun _ => 0) (fun _ => 0) hk;simp at h h0;rw [h]; omega
theorem det_swap1 (n : Nat) (M : Mx) (k : Nat) (hk : k + 1 < n) (A B : Nat -> Int) : det n (upd (upd M k A) (k + 1) B) = - det n (upd (upd M k B) (k + 1) A) := by
 have z : ∀ C : Nat -> Int, det n (upd (upd M k C) (k + 1) C) = 0 := fun C => det_adj n _ k hk fun j _ => by
  rw [upd_get' _ (by omega), upd_get, upd_get]
 have s := z fun j => A j + B j;rw [det_add n _ _ _ _ hk, upd_comm M (by omega : k ≠ k + 1), upd_comm M (by omega : k ≠ k + 1), det_add n _ _ _ _ (by omega), det_add n _ _ _ _ (by omega),
  <- upd_comm M (by omega : k ≠ k + 1), <- upd_comm M (by omega : k ≠ k + 1), <- upd_comm M (by omega : k ≠ k + 1), <- upd_comm M (by omega : k ≠ k + 1), z A, z B] at s
 omega
theorem det_two : ∀ (d n : Nat) (M : Mx) (k : Nat), k + d + 1 < n -> (∀ j, M k j = M (k + d + 1) j) -> det n M = 0
 | 0, n, M, k, hk, h => det_adj n M k hk fun j _ => h j
 | d + 1, n, M, k, hk, h => by
  have e := det_swap1 n M (k + d + 1) (by omega) (M (k + d + 1)) (M (k + d + 2));rw [upd_self M (k + d + 1), upd_self M (k + d + 2)] at e;rw [e, det_two d n _ k (by omega) fun j => ?_]
  · rfl
  · rw [upd_get' _ (by omega), upd_get' _ (by omega), upd_get' _ (by omega), upd_get];exact h j
theorem det_alike (n : Nat) (M : Mx) {k l : Nat} (hk : k < n) (hl : l < n) (hkl : k ≠ l) (h : ∀ j, M k j = M l j) : det n M = 0 := by
 rcases Nat.lt_or_gt_of_ne hkl with h1 | h1
 · exact det_two (l - k - 1) n M k (by omega) fun j => by rw [show k + (l - k - 1) + 1 = l by omega]; exact h j
 · exact det_two (k - l - 1) n M l (by omega) fun j => by rw [show l + (k - l - 1) + 1 = k by omega]; exact (h j).symm
theorem det_addSum (n : Nat) (M : Mx) (k : Nat) (hk : k < n) (c : Nat -> Int) (hc : c k = 0) : ∀ (m : Nat), m <= n -> ∀ U : Nat -> Int, det n (upd M k fun j => U j + sm m fun l => c l * M l j) = det n (upd M k U)
 | 0, _, U => by simp [sm]
 | m + 1, hm, U => by
  have e : (fun j => U j + sm (m + 1) fun l => c l * M l j) = fun j => c m * M m j + (U j + sm m fun l => c l * M l j) := by
   funext j;show U j + (sm m (fun l => c l * M l j) + c m * M m j) = c m * M m j + (U j + sm m (fun l => c l * M l j));generalize c m * M m j = z;omega
  rw [e, det_lin n M k _ _ _ hk, det_addSum n M k hk c hc m (by omega) U];by_cases hmk : m = k
  · rw [hmk, hc, Int.zero_mul, Int.zero_add]
  · rw [det_alike n (upd M k (M m)) hk (by omega) (fun e => hmk e.symm) fun j => by rw [upd_get, upd_get' _ hmk]];rw [Int.mul_zero, Int.zero_add]
theorem det_swap (n : Nat) (M : Mx) {k l : Nat} (hk : k < n) (hl : l < n) (hkl : k ≠ l) (A B : Nat -> Int) : det n (upd (upd M k A) l B) = - det n (upd (upd M k B) l A) := by
 have z : ∀ C : Nat -> Int, det n (upd (upd M k C) l C) = 0 := fun C => det_alike n _ hk hl hkl fun j => by
  rw [upd_get' _ hkl, upd_get, upd_get]
 have s := z fun j => A j + B j;rw [det_add n _ _ _ _ hl, upd_comm M hkl, upd_comm M hkl, det_add n _ _ _ _ hk, det_add n _ _ _ _ hk, <- upd_comm M hkl, <- upd_comm M hkl, <- upd_comm M hkl, <- upd_comm M hkl, z A, z B] at s;omega
theorem det_sum (n : Nat) (M : Mx) (k : Nat) (hk : k < n) (c : Nat -> Int) (R : Nat -> Nat -> Int) : ∀ m, det n (upd M k fun j => sm m fun l => c l * R l j) = sm m fun l => c l * det n (upd M k (R l))
 | 0 => by
  have := det_smul n M k 0 (fun _ => 0) hk;simpa [sm] using this
 | m + 1 => by
  have e : (fun j => sm (m + 1) fun l => c l * R l j) = fun j => c m * R m j + sm m fun l => c l * R l j := by
   funext j; simp only [sm]; omega
  rw [e, det_lin n M k _ _ _ hk, det_sum n M k hk c R m];simp only [sm]; omega
theorem onto (n : Nat) (f : Nat -> Nat) (hf : ∀ i < n, f i < n) (hi : ∀ i < n, ∀ j < n, f i = f j -> i = j) (k : Nat) (hk : k < n) : ∃ i < n, f i = k := by
 refine Classical.byContradiction fun hc => ?_;have hne : ∀ i < n, f i ≠ k := fun i h e => hc ⟨i, h, e⟩;obtain ⟨m, rfl⟩ : ∃ m, n = m + 1 := ⟨n - 1, by omega⟩;obtain ⟨i, j, h1, h2, h3⟩ := pigeon m (fun i => if f i < k then f i else f i - 1) (fun i h => by
  have := hf i (by omega); have := hne i (by omega);show (if f i < k then f i else f i - 1) < m;split <;> omega)
 have h4 : f i = f j := by
  have a := hne i (by omega); have b := hne j (by omega);have h3 : (if f i < k then f i else f i - 1) = (if f j < k then f j else f j - 1) := h3;split at h3 <;> split at h3 <;> omega
 have := hi i (by omega) j (by omega) h4;omega
theorem det_pick (n : Nat) (A : Mx) : ∀ (d : Nat) (σ : Nat -> Nat), (∀ i < n, σ i < n) -> (∀ i, i + d < n -> σ i = i) -> d <= n -> det n (fun i => A (σ i)) = 0 ∨ (det n (fun i => A (σ i))).natAbs = (det n A).natAbs
 | 0, σ, _, h, _ => .inr (by rw [det_congr n (M := fun i => A (σ i)) (N := A) fun i hi j _ => by rw [h i (by omega)]])
 | d + 1, σ, h1, h2, hd => by
  by_cases hinj : ∀ i < n, ∀ j < n, σ i = σ j -> i = j
  · obtain ⟨i, hi, he⟩ := onto n σ h1 hinj (n - (d + 1)) (by omega);have hge : n - (d + 1) <= i := by
     refine Nat.le_of_not_lt fun hlt => ?_;have := h2 i (by omega); omega
    by_cases hik : i = n - (d + 1)
    · refine det_pick n A d σ h1 (fun a ha => ?_) (by omega);by_cases e : a = n - (d + 1)
      · have h5 : a = i := e.trans hik.symm;rw [h5, he]; exact hik.symm
      · exact h2 a (by omega)
    · have e : (fun a => A (σ a)) = upd (upd (fun a => A (if a = n - (d + 1) then n - (d + 1) else if a = i then σ (n - (d + 1)) else σ a)) (n - (d + 1)) (A (σ (n - (d + 1))))) i (A (σ i)) := by
       funext a b;unfold upd;by_cases h3 : a = i
       · rw [if_pos h3, h3]
       · rw [if_neg h3];by_cases h4 : a = n - (d + 1)
         · rw [if_pos h4, h4]
         · rw [if_neg h4];show A (σ a) b = A (if a = n - (d + 1) then n - (d + 1) else if a = i then σ (n - (d + 1)) else σ a) b;rw [if_neg h4, if_neg h3]
      have e2 : upd (upd (fun a => A (if a = n - (d + 1) then n - (d + 1) else if a = i then σ (n - (d + 1)) else σ a)) (n - (d + 1)) (A (σ i))) i (A (σ (n - (d + 1)))) = fun a => A (if a = n - (d + 1) then n - (d + 1) else if a = i then σ (n - (d + 1)) else σ a) := by
       funext a b;unfold upd;by_cases h3 : a = i
       · rw [if_pos h3, if_neg (by omega), if_pos h3]
       · rw [if_neg h3];by_cases h4 : a = n - (d + 1)
         · rw [if_pos h4, if_pos h4, he]
         · rw [if_neg h4]
      rw [e, det_swap n _ (by omega) hi (fun h => hik h.symm), e2];have := det_pick n A d (fun a => if a = n - (d + 1) then n - (d + 1) else if a = i then σ (n - (d + 1)) else σ a) (fun a ha => by
       split
       · omega
       · split
         · exact h1 _ (by omega)
         · exact h1 a ha) (fun a ha => by
       split
       · omega
       · rw [if_neg (by omega)]; exact h2 a (by omega)) (by omega)
      rcases this with h | h
      · exact .inl (by rw [h]; rfl)
      · exact .inr (by rw [Int.natAbs_neg]; exact h)
  · refine .inl ?_;simp only [Classical.not_forall] at hinj;obtain ⟨i, hi, j, hj, he, hne⟩ := hinj;exact det_alike n _ hi hj hne fun b => by rw [he]
theorem det_dvd (n : Nat) (A : Mx) : ∀ (k : Nat), k <= n -> ∀ B : Mx, (∀ i < k, Sp n A (B i)) -> (∀ i, k <= i -> i < n -> ∃ l < n, B i = A l) -> det n A ∣ det n B
 | 0, _, B, _, h => by
  have hs : ∀ i, ∃ l, i < n -> l < n /\ B i = A l := fun i => by
   by_cases hi : i < n
   · obtain ⟨l, hl, e⟩ := h i (Nat.zero_le _) hi; exact ⟨l, fun _ => ⟨hl, e⟩⟩
   · exact ⟨0, fun h => absurd h hi⟩
  obtain ⟨σ, hσ⟩ := Classical.axiomOfChoice hs;have e : det n B = det n (fun i => A (σ i)) := det_congr n fun i hi j _ => by rw [(hσ i hi).2]
  rw [e];rcases det_pick n A n σ (fun i hi => (hσ i hi).1) (fun i hi => by omega) (Nat.le_refl _) with h | h
  · rw [h]; exact Int.dvd_zero _
  · exact Int.natAbs_dvd_natAbs.1 (by rw [h]; exact Nat.dvd_refl _)
 | k + 1, hk, B, h1, h2 => by
  obtain ⟨c, hc⟩ := h1 k (by omega);have e : B = upd B k (fun j => sm n fun l => c l * A l j) := by
   funext a b;unfold upd;split
   · rename_i h; rw [h]; exact hc b
   · rfl
  rw [e, det_sum n B k (by omega)];have hd : ∀ l < n, det n A ∣ det n (upd B k (A l)) := fun l hl => det_dvd n A k (by omega) _ (fun i hi => by rw [upd_get' _ (by omega)]; exact h1 i (by omega)) (fun i hi hin => by
   by_cases hik : i = k
   · rw [hik, upd_get]; exact ⟨l, hl, rfl⟩
   · rw [upd_get' _ hik]; exact h2 i (by omega) hin)
  have key : ∀ m, m <= n -> det n A ∣ sm m fun l => c l * det n (upd B k (A l)) := by
   intro m;induction m with
   | zero => intro _; exact Int.dvd_zero _
   | succ m ih => intro hm; exact Int.dvd_add (ih (by omega)) (Int.dvd_mul_of_dvd_right (hd m (by omega)))
  exact key n (Nat.le_refl _)
theorem det_lattice (n : Nat) {A B : Mx} (h : SpEq n A n B) : (det n A).natAbs = (det n B).natAbs :=
 Nat.dvd_antisymm (Int.natAbs_dvd_natAbs.2 (det_dvd n A n (Nat.le_refl _) B h.2 (fun i h1 h2 => by omega))) (Int.natAbs_dvd_natAbs.2 (det_dvd n B n (Nat.le_refl _) A h.1 (fun i h1 h2 => by omega)))
def prodN : Nat -> (Nat -> Nat) -> Nat
 | 0, _ => 1
 | n + 1, f => prodN n f * f n
theorem prodN_congr : ∀ (n : Nat) {f g : Nat -> Nat}, (∀ i < n, f i = g i) -> prodN n f = prodN n g
 | 0, _, _, _ => rfl
 | n + 1, f, g, h => by unfold prodN; rw [prodN_congr n (fun i hi => h i (by omega)), h n (by omega)]
theorem prodN_skip : ∀ (n : Nat) (f : Nat -> Nat) (m : Nat), m <= n -> prodN (n + 1) f = f m * prodN n fun a => f (skp m a)
 | 0, f, m, hm => by
  obtain rfl : m = 0 := by omega
  simp [prodN]
 | n + 1, f, m, hm => by
  by_cases e : m = n + 1
  · subst e;have : prodN (n + 1) (fun a => f (skp (n + 1) a)) = prodN (n + 1) f := prodN_congr _ fun i hi => by unfold skp; rw [if_pos hi]
    rw [this, Nat.mul_comm]; rfl
  · have ih := prodN_skip n f m (by omega);show prodN (n + 1) f * f (n + 1) = f m * (prodN n (fun a => f (skp m a)) * f (skp m n));rw [ih, show skp m n = n + 1 by unfold skp; rw [if_neg (by omega)], Nat.mul_assoc]
theorem det_leads : ∀ (n : Nat) (M : Mx) (p : Nat -> Nat), (∀ i < n, p i < n) -> (∀ i < n, ∀ j < n, p i = p j -> i = j) -> (∀ i < n, ∀ j, j < p i -> M i j = 0) -> (det n M).natAbs = prodN n fun i => (M i (p i)).natAbs
 | 0, _, _, _, _, _ => rfl
 | n + 1, M, p, h1, h2, h3 => by
  obtain ⟨m, hm, he⟩ := onto (n + 1) p h1 h2 0 (by omega);have hpos : ∀ i < n + 1, i ≠ m -> 0 < p i := fun i hi hne => Nat.pos_of_ne_zero fun e => hne (h2 i hi m hm (e.trans he.symm));have hsk : ∀ a < n, skp m a < n + 1 /\ skp m a ≠ m := fun a ha => by unfold skp; split <;> constructor <;> omega
  unfold det;rw [sm_one m hm fun i hi hne => by rw [h3 i hi 0 (hpos i hi hne)]; simp];have ih := det_leads n (minor M m) (fun a => p (skp m a) - 1) (fun a ha => by have := h1 _ (hsk a ha).1; have := hpos _ (hsk a ha).1 (hsk a ha).2; omega) (fun a ha b hb e => by
   have h4 := hpos _ (hsk a ha).1 (hsk a ha).2; have h5 := hpos _ (hsk b hb).1 (hsk b hb).2;have h6 := h2 _ (hsk a ha).1 _ (hsk b hb).1 (by omega);unfold skp at h6; split at h6 <;> split at h6 <;> omega) (fun a ha j hj => h3 _ (hsk a ha).1 (j + 1) (by omega))
  rw [Int.natAbs_mul, Int.natAbs_mul, ih, prodN_skip n _ m (by omega), he];have hs : (sgn m).natAbs = 1 := by unfold sgn; split <;> rfl
  rw [hs, Nat.one_mul];congr 1;exact prodN_congr n fun a ha => by
   have h4 := hpos _ (hsk a ha).1 (hsk a ha).2;unfold minor;rw [show p (skp m a) - 1 + 1 = p (skp m a) by omega]
structure Stair (k : Nat) (R : Mx) (p : Nat -> Nat) : Prop where
 at_ : ∀ i < k, R i (p i) ≠ 0
 zero : ∀ i < k, ∀ j < p i, R i j = 0
 clr : ∀ a < k, ∀ i < a, R a (p i) = 0
theorem Stair.inj {k : Nat} {R : Mx} {p : Nat -> Nat} (h : Stair k R p) : ∀ i < k, ∀ j < k, p i = p j -> i = j := by
 have key : ∀ i j, i < j -> j < k -> p i ≠ p j := fun i j hij hj e => h.at_ j hj (e ▸ h.clr j hj i hij);intro i hi j hj e;rcases Nat.lt_trichotomy i j with h1 | h1 | h1
 · exact absurd e (key i j h1 hj)
 · exact h1
 · exact absurd e.symm (key j i h1 hi)
theorem Stair.lead {k : Nat} {R : Mx} {p : Nat -> Nat} (h : Stair k R p) {v : Nat -> Int} (hv : Sp k R v) {q : Nat} (hq : v q ≠ 0) (h0 : ∀ j < q, v j = 0) : ∃ i < k, p i = q := by
 obtain ⟨x, hx⟩ := hv;have key : ∀ m a, p a = m -> m < q -> a < k -> x a = 0 := by
  intro m;induction m using Nat.strongRecOn with
  | _ m ih =>
   intro a hm hq ha;refine Classical.byContradiction fun hne => ?_;have h1 := h0 m hq;rw [hx, sm_one a ha fun b hb hba => ?_] at h1
   · rcases Int.mul_eq_zero.1 h1 with h2 | h2
     · exact hne h2
     · exact h.at_ a ha (hm ▸ h2)
   · rcases Nat.lt_trichotomy (p b) m with h2 | h2 | h2
     · rw [ih (p b) h2 b rfl (by omega) hb, Int.zero_mul]
     · exact absurd (h.inj b hb a ha (h2.trans hm.symm)) hba
     · rw [h.zero b hb m h2, Int.mul_zero]
 refine Classical.byContradiction fun hc => hq ?_;rw [hx];refine sm_zero fun b hb => ?_;rcases Nat.lt_trichotomy (p b) q with h2 | h2 | h2
 · rw [key _ b rfl h2 hb, Int.zero_mul]
 · exact absurd ⟨b, hb, h2⟩ hc
 · rw [h.zero b hb q h2, Int.mul_zero]
theorem stair_count {k r n c : Nat} {R A E : Mx} {p l : Nat -> Nat} (h : Stair k R p) (hE : Ech r c E l) (hs : SpEq r E n A) (h1 : ∀ i < n, ∃ N : Int, N ≠ 0 /\ Sp k R fun j => N * A i j) (h2 : ∀ i < k, ∃ N : Int, N ≠ 0 /\ Sp n A fun j => N * R i j) : k = r := by
 have one : ∀ i < k, ∃ a, a < r /\ l a = p i := fun i hi => by
  obtain ⟨N, hN, hsp⟩ := h2 i hi;obtain ⟨a, ha, he, _⟩ := hE.lead (hsp.trans hs.2) (q := p i) (Int.mul_ne_zero hN (h.at_ i hi)) fun j hj => by rw [h.zero i hi j hj, Int.mul_zero]
  exact ⟨a, ha, he⟩
 have all : ∀ v, Sp n A v -> ∃ N : Int, N ≠ 0 /\ Sp k R fun j => N * v j := by
  intro v ⟨x, hx⟩;have key : ∀ m, m <= n -> ∃ N : Int, N ≠ 0 /\ Sp k R fun j => N * sm m fun i => x i * A i j := by
   intro m;induction m with
   | zero => intro _; exact ⟨1, by decide, (Sp.zero k R).congr fun j => by simp [sm]⟩
   | succ m ih =>
    intro hm;obtain ⟨N, hN, hsp⟩ := ih (by omega);obtain ⟨M, hM, hsq⟩ := h1 m (by omega);refine ⟨N * M, Int.mul_ne_zero hN hM, (((hsp.smul M).add (hsq.smul (N * x m))).congr fun j => ?_)⟩;simp only [sm];rw [Int.mul_add, Int.mul_comm N M, Int.mul_assoc];congr 1;rw [Int.mul_assoc, Int.mul_assoc, Int.mul_left_comm M N, Int.mul_left_comm M (x m)]
  obtain ⟨N, hN, hsp⟩ := key n (Nat.le_refl _);exact ⟨N, hN, hsp.congr fun j => by rw [hx]⟩
 have two : ∀ a < r, ∃ i, i < k /\ p i = l a := fun a ha => by
  obtain ⟨N, hN, hsp⟩ := all (E a) (hs.1 a ha);obtain ⟨i, hi, he⟩ := h.lead hsp (q := l a) (Int.mul_ne_zero hN (by have := hE.pos a ha; omega)) fun j hj => by rw [hE.zero a ha j hj, Int.mul_zero]
  exact ⟨i, hi, he⟩
 have le : ∀ (a b : Nat) (f g : Nat -> Nat), (∀ i < a, ∃ j, j < b /\ g j = f i) -> (∀ i < a, ∀ j < a, f i = f j -> i = j) -> a <= b := by
  intro a b f g hfg hinj;refine Nat.le_of_not_lt fun hlt => ?_;have hs : ∀ i, ∃ j, i < a -> j < b /\ g j = f i := fun i => by
   by_cases hi : i < a
   · obtain ⟨j, h1, h2⟩ := hfg i hi; exact ⟨j, fun _ => ⟨h1, h2⟩⟩
   · exact ⟨0, fun h => absurd h hi⟩
  obtain ⟨σ, hσ⟩ := Classical.axiomOfChoice hs;obtain ⟨i, j, h3, h4, h5⟩ := pigeon b σ fun i hi => (hσ i (by omega)).1;have := hinj i (by omega) j (by omega) (by rw [<- (hσ i (by omega)).2, <- (hσ j (by omega)).2, h5]);omega
 exact Nat.le_antisymm (le k r p l one h.inj) (le r k l p two fun i hi j hj e => by
  rcases Nat.lt_trichotomy i j with h1 | h1 | h1
  · have := hE.inc i j h1 hj; omega
  · exact h1
  · have := hE.inc j i h1 hi; omega)
theorem least_ne {u : Nat -> Int} {q : Nat} (h : u q ≠ 0) : ∃ q, u q ≠ 0 /\ ∀ j < q, u j = 0 := by
 have key : ∀ n, ∀ q ≤ n, u q ≠ 0 -> ∃ q, u q ≠ 0 /\ ∀ j < q, u j = 0 := by
  intro n;induction n with
  | zero => intro q hq h; exact ⟨q, h, fun j hj => by omega⟩
  | succ n ih =>
   intro q hq h;by_cases hall : ∀ j < q, u j = 0
   · exact ⟨q, h, hall⟩
   · obtain ⟨j, hj, hne⟩ : ∃ j, j < q /\ u j ≠ 0 := Classical.byContradiction fun hc => hall fun j hj => Classical.byContradiction fun hn => hc ⟨j, hj, hn⟩;exact ih j (by omega) hne
 exact key q q (Nat.le_refl _) h
theorem Stair.null {m : Nat} {R : Mx} {p : Nat -> Nat} (h : Stair m R p) {u : Nat -> Int} (hu : ∃ N : Int, N ≠ 0 /\ Sp m R fun j => N * u j) (h0 : ∀ t < m, u (p t) = 0) : ∀ j, u j = 0 := fun q => by
 refine Classical.byContradiction fun hq => ?_;obtain ⟨N, hN, hs⟩ := hu;obtain ⟨q, hq, hz⟩ := least_ne hq;obtain ⟨i, hi, e⟩ := h.lead hs (q := q) (Int.mul_ne_zero hN hq) fun j hj => by rw [hz j hj, Int.mul_zero]
 exact hq (e ▸ h0 i hi)
theorem multi_sp {k n : Nat} {R A : Mx} (h1 : ∀ i < n, ∃ N : Int, N ≠ 0 /\ Sp k R fun j => N * A i j) {v : Nat -> Int} (hv : Sp n A v) : ∃ N : Int, N ≠ 0 /\ Sp k R fun j => N * v j := by
 obtain ⟨x, hx⟩ := hv;have key : ∀ m, m <= n -> ∃ N : Int, N ≠ 0 /\ Sp k R fun j => N * sm m fun i => x i * A i j := by
  intro m;induction m with
  | zero => intro _; exact ⟨1, by decide, (Sp.zero k R).congr fun j => by simp [sm]⟩
  | succ m ih =>
   intro hm;obtain ⟨N, hN, hsp⟩ := ih (by omega);obtain ⟨M, hM, hsq⟩ := h1 m (by omega);refine ⟨N * M, Int.mul_ne_zero hN hM, (((hsp.smul M).add (hsq.smul (N * x m))).congr fun j => ?_)⟩;simp only [sm];rw [Int.mul_add, Int.mul_comm N M, Int.mul_assoc];congr 1;rw [Int.mul_assoc, Int.mul_assoc, Int.mul_left_comm M N, Int.mul_left_comm M (x m)]
 obtain ⟨N, hN, hsp⟩ := key n (Nat.le_refl _);exact ⟨N, hN, hsp.congr fun j => by rw [hx]⟩
theorem dvd_prim {M K : Int} {l : Nat -> Int} (hM : M ≠ 0) (hp : ∀ d : Int, (∀ j, d ∣ l j) -> d ∣ 1) (h : ∀ j, M ∣ K * l j) : M ∣ K := by
 have hg : (Int.gcd M K : Int) ≠ 0 := fun e => by
  have : Int.gcd M K = 0 := by omega
  exact hM (Int.gcd_eq_zero_iff.1 this).1
 obtain ⟨M', hM'⟩ : (Int.gcd M K : Int) ∣ M := Int.gcd_dvd_left ..;obtain ⟨K', hK'⟩ : (Int.gcd M K : Int) ∣ K := Int.gcd_dvd_right ..;generalize hgg : (Int.gcd M K : Int) = g at *;have hco : Int.gcd M' K' = 1 := by
  have h1 : Int.gcd (g * M') (g * K') = g.natAbs * Int.gcd M' K' := Int.gcd_mul_left ..;rw [<- hM', <- hK'] at h1;have h2 : g.natAbs = Int.gcd M K := by rw [<- hgg]; rfl
  rw [<- h2] at h1;have h3 : 0 < g.natAbs := Int.natAbs_pos.2 hg;exact Nat.eq_of_mul_eq_mul_left h3 (by rw [Nat.mul_one]; exact h1.symm)
 have h1 : ∀ j, M' ∣ l j := fun j => by
  obtain ⟨t, ht⟩ := h j;have e : M' ∣ K' * l j := by
   refine ⟨t, ?_⟩;have e1 : g * (K' * l j) = g * (M' * t) := by rw [<- Int.mul_assoc, <- hK', <- Int.mul_assoc, <- hM']; exact ht
   exact Int.eq_of_mul_eq_mul_left hg e1
  exact Int.natAbs_dvd_natAbs.1 (Nat.Coprime.dvd_of_dvd_mul_left (k := M'.natAbs) (m := K'.natAbs) hco (by rw [<- Int.natAbs_mul]; exact Int.natAbs_dvd_natAbs.2 e))
 obtain ⟨s, hs⟩ := hp M' h1;refine ⟨K' * s, ?_⟩;rw [hM', hK', Int.mul_assoc, Int.mul_left_comm M' K' s, <- hs, Int.mul_one]
theorem rest_bound {m A : Nat} {a R : Mx} {p : Nat -> Nat} {l0 l c : Nat -> Int} {N M : Int} (hst : Stair m R p) (hRa : ∀ i < m, ∃ N : Int, N ≠ 0 /\ Sp m R fun j => N * a i j)
 (hind : ∀ x : Nat -> Int, (∀ j, sm m (fun i => x i * a i j) = 0) -> ∀ i < m, x i = 0) (hN : N ≠ 0) (hM : M ≠ 0) (hl : ∀ j, N * l j = M * l0 j + sm m fun t => c t * a t j) (hz : ∀ t < m, l (p t) = 0)
 (hp : ∀ d : Int, (∀ j, d ∣ l j) -> d ∣ 1) (ha : ∀ i < m, ∀ j, (a i j).natAbs <= A) (h0 : ∀ j, (l0 j).natAbs <= A) (j : Nat) : (l j).natAbs <= (m + 1) * ((2 * (m + 1) * A + 1) ^ m * A) := by
 obtain ⟨x, ⟨k, hk, hxk⟩, hxb, hx0⟩ := siegel (m + 1) m A (fun k j => if k < m then a k (p j) else l0 (p j)) (by omega) (fun k j hk hj => by
  show (if k < m then a k (p j) else l0 (p j)).natAbs <= A;split
  · rename_i h; exact ha k h _
  · exact h0 _)
 obtain ⟨v, hv⟩ : ∃ v : Nat -> Int, ∀ j, v j = sm m (fun t => x t * a t j) + x m * l0 j := ⟨_, fun j => rfl⟩;have hvp : ∀ t < m, v (p t) = 0 := fun t ht => by
  have := hx0 t ht;rw [hv];simp only [sm] at this;rw [if_neg (Nat.lt_irrefl m)] at this;rw [<- this];congr 1;exact sm_congr fun k hk => by rw [if_pos hk]
 have hu := hst.null (u := fun j => x m * N * l j - M * v j) (multi_sp hRa ⟨fun t => x m * c t - M * x t, fun j => by
  have e1 : (fun t => (x m * c t - M * x t) * a t j) = fun t => x m * (c t * a t j) - M * (x t * a t j) := by
   funext t; rw [Int.sub_mul, Int.mul_assoc, Int.mul_assoc]
  show x m * N * l j - M * v j = _;rw [e1, sm_sub, sm_mul, sm_mul, hv, Int.mul_assoc, hl, Int.mul_add, Int.mul_add, <- Int.mul_assoc (x m) M, <- Int.mul_assoc M (x m), Int.mul_comm (x m) M];omega⟩) (fun t ht => by show x m * N * l (p t) - M * v (p t) = 0; rw [hz t ht, hvp t ht]; simp)
 have hu : ∀ j, x m * N * l j = M * v j := fun j => by have := hu j; omega
 have hxm : x m ≠ 0 := fun e => by
  have hv0 : ∀ j, v j = 0 := fun j => by
   have := hu j;rw [e, Int.zero_mul, Int.zero_mul] at this;rcases Int.mul_eq_zero.1 this.symm with h | h
   · exact absurd h hM
   · exact h
  have hi := hind x fun j => by have := hv j; rw [hv0, e, Int.zero_mul, Int.add_zero] at this; exact this.symm
  by_cases hkm : k < m
  · exact hxk (hi k hkm)
  · have : k = m := by omega
    exact hxk (this ▸ e)
 obtain ⟨q, hq⟩ := dvd_prim hM hp (K := x m * N) fun j => ⟨v j, hu j⟩;have hq0 : q ≠ 0 := fun e => by
  rw [e, Int.mul_zero] at hq;exact Int.mul_ne_zero hxm hN hq
 have hlv : q * l j = v j := by
  have := hu j;rw [hq, Int.mul_assoc] at this;exact Int.eq_of_mul_eq_mul_left hM this
 have h1 : (l j).natAbs <= (v j).natAbs := by
  rw [<- hlv, Int.natAbs_mul];exact Nat.le_mul_of_pos_left _ (Int.natAbs_pos.2 hq0)
 refine Nat.le_trans h1 ?_;have h2 : v j = sm (m + 1) fun t => if t < m then x t * a t j else x m * l0 j := by
  rw [hv];simp only [sm];rw [if_neg (Nat.lt_irrefl m)];congr 1;exact sm_congr fun k hk => by rw [if_pos hk]
 rw [h2];refine sm_abs fun t ht => ?_;split
 · rename_i h; rw [Int.natAbs_mul]; exact Nat.mul_le_mul (hxb t ht) (ha t h j)
 · rw [Int.natAbs_mul]; exact Nat.mul_le_mul (hxb m (by omega)) (h0 j)
def prodZ : Nat -> (Nat -> Int) -> Int
 | 0, _ => 1
 | n + 1, f => prodZ n f * f n
theorem prodZ_abs : ∀ (n : Nat) (f : Nat -> Int), (prodZ n f).natAbs = prodN n fun i => (f i).natAbs
 | 0, _ => rfl
 | n + 1, f => by rw [prodZ, Int.natAbs_mul, prodZ_abs n f]; rfl
theorem prodZ_ne : ∀ (n : Nat) {f : Nat -> Int}, (∀ i < n, f i ≠ 0) -> prodZ n f ≠ 0
 | 0, _, _ => Int.one_ne_zero
 | n + 1, f, h => Int.mul_ne_zero (prodZ_ne n fun i hi => h i (by omega)) (h n (by omega))
theorem rest_det (n : Nat) (A R : Mx) (up dn : Nat -> Int) (c : Nat -> Nat -> Int) (h : ∀ i < n, ∀ j, dn i * R i j = up i * A i j + sm i fun t => c i t * R t j) : prodZ n dn * det n R = prodZ n up * det n A := by
 obtain ⟨X, hX⟩ : ∃ X : Nat -> Mx, ∀ k i, X k i = if i < k then R i else A i := ⟨fun k i => if i < k then R i else A i, fun _ _ => rfl⟩;have key : ∀ k, k <= n -> prodZ k dn * det n (X k) = prodZ k up * det n A := by
  intro k;induction k with
  | zero =>
   intro _;have : X 0 = A := by funext i; rw [hX, if_neg (Nat.not_lt_zero i)]
   rw [this]; rfl
  | succ k ih =>
   intro hk;have h1 : X (k + 1) = upd (X k) k (R k) := by
    funext i j;unfold upd;rw [hX, hX];by_cases e : i = k
    · subst e; rw [if_pos (by omega), if_pos rfl]
    · rw [if_neg e];by_cases e2 : i < k
      · rw [if_pos (by omega), if_pos e2]
      · rw [if_neg (by omega), if_neg e2]
   have h2 : dn k * det n (X (k + 1)) = up k * det n (X k) := by
    rw [h1, <- det_smul n (X k) k (dn k) (R k) hk];have e : (fun j => dn k * R k j) = fun j => (up k * A k j) + sm k fun t => (if t < k then c k t else 0) * X k t j := by
     funext j;rw [h k hk];congr 1;exact sm_congr fun t ht => by rw [if_pos ht, hX, if_pos ht]
    rw [e, det_addSum n (X k) k hk (fun t => if t < k then c k t else 0) (by rw [if_neg (Nat.lt_irrefl k)]) k (by omega) (fun j => up k * A k j), det_smul n (X k) k (up k) (A k) hk];congr 1;have : upd (X k) k (A k) = X k := by
     have := upd_self (X k) k;rw [hX k k, if_neg (Nat.lt_irrefl k)] at this; exact this
    rw [this]
   rw [prodZ, prodZ, Int.mul_assoc, h2, Int.mul_left_comm, ih (by omega), <- Int.mul_assoc, Int.mul_comm (up k)]
 have := key n (Nat.le_refl n);have e : det n (X n) = det n R := det_congr n fun i hi j _ => by rw [hX, if_pos hi]
 rw [e] at this; exact this
structure MadeR (k : Nat) (R a : Mx) (p : Nat -> Nat) : Prop extends Stair k R p where
 made : ∀ i < k, ∃ (N M : Int) (c : Nat -> Int), N ≠ 0 /\ M ≠ 0 /\ ∀ j, N * R i j = M * a i j + sm i fun t => c t * R t j
theorem Sp.more {n m : Nat} {E : Mx} {v : Nat -> Int} (h : Sp n E v) (hm : n <= m) : Sp m E v := by
 obtain ⟨x, hx⟩ := h;obtain ⟨d, rfl⟩ : ∃ d, m = n + d := ⟨m - n, by omega⟩;refine ⟨fun k => if k < n then x k else 0, fun j => ?_⟩;rw [hx, sm_split n d, Go.Proofs.YtdgfhcaokigieaaGreat.sm_zero (n := d) (f := fun k => (if n + k < n then x (n + k) else 0) * E (n + k) j) (fun k _ => by rw [if_neg (by omega), Int.zero_mul]), Int.add_zero];exact sm_congr fun k hk => by show x k * E k j = (if k < n then x k else 0) * E k j; rw [if_pos hk]
theorem MadeR.le {k m : Nat} {R a : Mx} {p : Nat -> Nat} (h : MadeR k R a p) (hm : m <= k) : MadeR m R a p :=
 ⟨⟨fun i hi => h.at_ i (by omega), fun i hi => h.zero i (by omega), fun a ha => h.clr a (by omega)⟩, fun i hi => h.made i (by omega)⟩
theorem MadeR.rows {k : Nat} {R a : Mx} {p : Nat -> Nat} (h : MadeR k R a p) : ∀ i < k, ∃ N : Int, N ≠ 0 /\ Sp k R fun j => N * a i j := fun i hi => by
 obtain ⟨N, M, c, hN, hM, he⟩ := h.made i hi;refine ⟨M, hM, (((Sp.row R hi).smul N).sub ((Sp.more (⟨c, fun j => rfl⟩ : Sp i R fun j => sm i fun t => c t * R t j) (by omega)))).congr fun j => ?_⟩;have := he j;omega
theorem MadeR.back {k : Nat} {R a : Mx} {p : Nat -> Nat} (h : MadeR k R a p) : ∀ i < k, ∃ N : Int, N ≠ 0 /\ Sp (i + 1) a fun j => N * R i j := by
 intro i;induction i using Nat.strongRecOn with
 | _ i ih =>
  intro hi;obtain ⟨N, M, c, hN, hM, he⟩ := h.made i hi;obtain ⟨K, hK, hs⟩ := multi_sp (k := i + 1) (R := a) (n := i) (A := R) (fun t ht => by
   obtain ⟨N', hN', hs'⟩ := ih t ht (by omega);exact ⟨N', hN', hs'.more (by omega)⟩) (⟨c, fun j => rfl⟩ : Sp i R fun j => sm i fun t => c t * R t j)
  refine ⟨K * N, Int.mul_ne_zero hK hN, (((Sp.row a (by omega : i < i + 1)).smul (K * M)).add hs).congr fun j => ?_⟩;rw [Int.mul_assoc, he, Int.mul_add, <- Int.mul_assoc]
theorem MadeR.indep {k : Nat} {R a : Mx} {p : Nat -> Nat} (h : MadeR k R a p) (x : Nat -> Int) (hx : ∀ j, sm k (fun i => x i * a i j) = 0) : ∀ i < k, x i = 0 := by
 have key : ∀ m, m <= k -> (∀ j, sm m (fun i => x i * a i j) = 0) -> ∀ i < m, x i = 0 := by
  intro m;induction m with
  | zero => intro _ _ i hi; omega
  | succ m ih =>
   intro hm h0;have hxm : x m = 0 := by
    refine Classical.byContradiction fun hne => ?_;obtain ⟨N, M, c, hN, hM, he⟩ := h.made m (by omega);have hm' := h.le (m := m) (by omega);have hsp : ∃ K : Int, K ≠ 0 /\ Sp m R fun j => K * (x m * a m j) := multi_sp hm'.rows ⟨fun t => - x t, fun j => by
     have := h0 j;simp only [Go.Proofs.YtdgfhcaokigieaaGreat.sm] at this;have e : (fun t => -x t * a t j) = fun t => (-1) * (x t * a t j) := by funext t; rw [Int.neg_mul, Int.neg_one_mul]
     show x m * a m j = _;rw [e, sm_mul]; omega⟩
    obtain ⟨K, hK, hs⟩ := hsp;have hR : ∀ j, R m j = 0 := hm'.toStair.null ⟨K * x m * N, Int.mul_ne_zero (Int.mul_ne_zero hK hne) hN, ((hs.smul M).add (Sp.smul (K * x m) (⟨c, fun j => rfl⟩ : Sp m R fun j => sm m fun t => c t * R t j))).congr fun j => by
     rw [Int.mul_assoc (K * x m), he, Int.mul_add];congr 1;rw [Int.mul_left_comm M K, Int.mul_assoc K, Int.mul_left_comm M (x m)]⟩ (fun t ht => h.clr m (by omega) t ht)
    exact h.at_ m (by omega) (hR _)
   intro i hi;by_cases e : i = m
   · rw [e]; exact hxm
   · exact ih (by omega) (fun j => by have := h0 j; simp only [Go.Proofs.YtdgfhcaokigieaaGreat.sm] at this; rw [hxm, Int.zero_mul, Int.add_zero] at this; exact this) i (by omega)
 exact key k (Nat.le_refl k) hx
theorem MadeR.bound {k m A : Nat} {R a : Mx} {p : Nat -> Nat} {l0 l c : Nat -> Int} {up dn : Int} (h : MadeR k R a p) (hm : m <= k) (hdn : dn ≠ 0) (hup : up ≠ 0) (hl : ∀ j, dn * l j = up * l0 j + sm m fun t => c t * R t j) (hz : ∀ t < m, l (p t) = 0)
 (hp : ∀ d : Int, (∀ j, d ∣ l j) -> d ∣ 1) (ha : ∀ i < m, ∀ j, (a i j).natAbs <= A) (h0 : ∀ j, (l0 j).natAbs <= A) (j : Nat) : (l j).natAbs <= (m + 1) * ((2 * (m + 1) * A + 1) ^ m * A) := by
 have hm' := h.le hm;obtain ⟨K, hK, x, hx⟩ := multi_sp (k := m) (R := a) (n := m) (A := R) (fun t ht => by
  obtain ⟨N', hN', hs'⟩ := hm'.back t ht;exact ⟨N', hN', hs'.more (by omega)⟩) (⟨c, fun j => rfl⟩ : Sp m R fun j => sm m fun t => c t * R t j)
 refine rest_bound (c := x) (N := K * dn) (M := K * up) hm'.toStair hm'.rows hm'.indep (Int.mul_ne_zero hK hdn) (Int.mul_ne_zero hK hup) (fun j => ?_) hz hp ha h0 j;have h9 : K * sm m (fun t => c t * R t j) = _ := hx j;rw [Int.mul_assoc, hl, Int.mul_add, h9, <- Int.mul_assoc]
theorem fold_dvd : ∀ (l : List Nat) (g : Nat), l.foldl Nat.gcd g ∣ g /\ ∀ x ∈ l, l.foldl Nat.gcd g ∣ x
 | [], g => ⟨Nat.dvd_refl _, fun x h => by cases h⟩
 | y :: l, g => by
  obtain ⟨h1, h2⟩ := fold_dvd l (Nat.gcd g y);refine ⟨Nat.dvd_trans h1 (Nat.gcd_dvd_left ..), fun x hx => ?_⟩;rcases List.mem_cons.1 hx with rfl | hx
  · exact Nat.dvd_trans h1 (Nat.gcd_dvd_right ..)
  · exact h2 x hx
theorem dvd_fold {d : Nat} : ∀ (l : List Nat) (g : Nat), d ∣ g -> (∀ x ∈ l, d ∣ x) -> d ∣ l.foldl Nat.gcd g
 | [], _, h, _ => h
 | y :: l, g, h, hl => dvd_fold l _ (Nat.dvd_gcd h (hl y (List.mem_cons_self ..))) fun x hx => hl x (List.mem_cons_of_mem _ hx)
theorem fold_zero {l : List Nat} (h : l.foldl Nat.gcd 0 = 0) : ∀ x ∈ l, x = 0 := fun x hx => by
 have := (fold_dvd l 0).2 x hx;rw [h] at this;exact Nat.eq_zero_of_zero_dvd this
theorem strip_prim {xs ys : List Int} {g : Nat} (hg : (xs.map Int.natAbs).foldl Nat.gcd 0 = g) (h0 : g ≠ 0) (hl : ys.length = xs.length) (h : ∀ i, i < xs.length -> ys.getD i 0 * (g : Int) = xs.getD i 0) (d : Int) (hd : ∀ j, d ∣ ys.getD j 0) : d ∣ 1 := by
 have h1 : d.natAbs * g ∣ g := by
  have h2 : ∀ x ∈ xs.map Int.natAbs, d.natAbs * g ∣ x := fun x hx => by
   obtain ⟨y, hy, rfl⟩ := List.mem_map.1 hx;obtain ⟨i, hi, rfl⟩ := List.getElem_of_mem hy;have e := h i hi;have e2 : xs.getD i 0 = xs[i] := by simp [hi]
   rw [<- e2, <- e, Int.natAbs_mul, Int.natAbs_natCast];exact Nat.mul_dvd_mul_right (Int.natAbs_dvd_natAbs.2 (hd i)) _
  have := dvd_fold (xs.map Int.natAbs) 0 (Nat.dvd_zero _) h2;rw [hg] at this; exact this
 have h3 : d.natAbs ∣ 1 := by
  have h4 : d.natAbs * g ∣ 1 * g := by rw [Nat.one_mul]; exact h1
  exact Nat.dvd_of_mul_dvd_mul_right (Nat.pos_of_ne_zero h0) h4
 exact Int.natAbs_dvd_natAbs.1 h3
structure RsI (i : Nat) (A : Mx) (k : Nat) (R a : Mx) (p : Nat -> Nat) : Prop where
 made : MadeR k R a p
 of : ∀ t < k, ∃ s, s < i /\ a t = A s
 all : ∀ s < i, ∃ N : Int, N ≠ 0 /\ Sp k R fun j => N * A s j
theorem RsI.start (A R a : Mx) (p : Nat -> Nat) : RsI 0 A 0 R a p := ⟨⟨⟨fun i h => by omega, fun i h => by omega, fun a h => by omega⟩, fun i h => by omega⟩, fun t h => by omega, fun s h => by omega⟩
theorem RsI.skip {i k : Nat} {A R a : Mx} {p : Nat -> Nat} {c : Nat -> Int} {up dn : Int} (h : RsI i A k R a p) (hup : up ≠ 0) (hl : ∀ j, dn * 0 = up * A i j + sm k fun t => c t * R t j) : RsI (i + 1) A k R a p := by
 refine ⟨h.made, fun t ht => by obtain ⟨s, hs, e⟩ := h.of t ht; exact ⟨s, by omega, e⟩, fun s hs => ?_⟩;by_cases e : s = i
 · subst e;refine ⟨up, hup, (Sp.smul (-1) (⟨c, fun j => rfl⟩ : Sp k R fun j => sm k fun t => c t * R t j)).congr fun j => ?_⟩;have := hl j;show up * A s j = -1 * _;omega
 · exact h.all s (by omega)
theorem RsI.put {i k q : Nat} {A R a R' a' : Mx} {p p' : Nat -> Nat} {l c : Nat -> Int} {up dn : Int} (h : RsI i A k R a p) (hdn : dn ≠ 0) (hup : up ≠ 0) (hl : ∀ j, dn * l j = up * A i j + sm k fun t => c t * R t j) (hz : ∀ t < k, l (p t) = 0) (hq : l q ≠ 0) (h0 : ∀ j < q, l j = 0)
 (eR : ∀ t, R' t = if t < k then R t else l) (ea : ∀ t, a' t = if t < k then a t else A i) (ep : ∀ t, p' t = if t < k then p t else q) : RsI (i + 1) A (k + 1) R' a' p' := by
 have fR : ∀ t, t < k -> R' t = R t := fun t ht => by rw [eR, if_pos ht]
 have gR : R' k = l := by rw [eR, if_neg (Nat.lt_irrefl k)]
 have fa : ∀ t, t < k -> a' t = a t := fun t ht => by rw [ea, if_pos ht]
 have ga : a' k = A i := by rw [ea, if_neg (Nat.lt_irrefl k)]
 have fp : ∀ t, t < k -> p' t = p t := fun t ht => by rw [ep, if_pos ht]
 have gpp : p' k = q := by rw [ep, if_neg (Nat.lt_irrefl k)]
 have hsm : ∀ (m : Nat) (c : Nat -> Int) (j : Nat), m <= k -> sm m (fun t => c t * R' t j) = sm m fun t => c t * R t j := fun m c j hm => sm_congr fun t ht => by rw [fR t (by omega)]
 have hst : MadeR (k + 1) R' a' p' := by
  refine ⟨⟨fun t ht => ?_, fun t ht j hj => ?_, fun t ht s hs => ?_⟩, fun t ht => ?_⟩
  · by_cases e : t = k
    · subst e; rw [gR, gpp]; exact hq
    · rw [fR t (by omega), fp t (by omega)]; exact h.made.at_ t (by omega)
  · by_cases e : t = k
    · subst e; rw [gpp] at hj; rw [gR]; exact h0 j hj
    · rw [fp t (by omega)] at hj; rw [fR t (by omega)]; exact h.made.zero t (by omega) j hj
  · rw [fp s (by omega)];by_cases e : t = k
    · subst e; rw [gR]; exact hz s hs
    · rw [fR t (by omega)]; exact h.made.clr t (by omega) s hs
  · by_cases e : t = k
    · subst e; exact ⟨dn, up, c, hdn, hup, fun j => by rw [gR, ga, hsm t c j (Nat.le_refl t)]; exact hl j⟩
    · obtain ⟨N, M, c', hN, hM, he⟩ := h.made.made t (by omega);exact ⟨N, M, c', hN, hM, fun j => by rw [fR t (by omega), fa t (by omega), hsm t c' j (by omega)]; exact he j⟩
 refine ⟨hst, fun t ht => ?_, fun s hs => ?_⟩
 · by_cases e : t = k
   · subst e; exact ⟨i, by omega, ga⟩
   · obtain ⟨s, hs, e'⟩ := h.of t (by omega);exact ⟨s, by omega, by rw [fa t (by omega)]; exact e'⟩
 · by_cases e : s = i
   · subst e;obtain ⟨N, hN, hsp⟩ := hst.rows k (by omega);exact ⟨N, hN, by rw [ga] at hsp; exact hsp⟩
   · obtain ⟨N, hN, x, hx⟩ := h.all s (by omega);exact ⟨N, hN, Sp.more (⟨x, fun j => by rw [hx, hsm k x j (Nat.le_refl k)]⟩ : Sp k R' fun j => N * A s j) (by omega)⟩
theorem Stair.congr {k : Nat} {R R' : Mx} {p p' : Nat -> Nat} (h : Stair k R p) (eR : ∀ t < k, R' t = R t) (ep : ∀ t < k, p' t = p t) : Stair k R' p' :=
 ⟨fun i hi => by rw [eR i hi, ep i hi]; exact h.at_ i hi, fun i hi j hj => by rw [eR i hi]; rw [ep i hi] at hj; exact h.zero i hi j hj, fun a ha i hi => by rw [eR a ha, ep i (by omega)]; exact h.clr a ha i hi⟩
theorem RsI.congr {i k : Nat} {A R R' a : Mx} {p p' : Nat -> Nat} (h : RsI i A k R a p) (eR : ∀ t < k, R' t = R t) (ep : ∀ t < k, p' t = p t) : RsI i A k R' a p' := by
 have hsm : ∀ (m : Nat) (c : Nat -> Int) (j : Nat), m <= k -> sm m (fun t => c t * R' t j) = sm m fun t => c t * R t j := fun m c j hm => sm_congr fun t ht => by rw [eR t (by omega)]
 refine ⟨⟨h.made.toStair.congr eR ep, fun t ht => ?_⟩, h.of, fun s hs => ?_⟩
 · obtain ⟨N, M, c, hN, hM, he⟩ := h.made.made t ht;exact ⟨N, M, c, hN, hM, fun j => by rw [eR t ht, hsm t c j (by omega)]; exact he j⟩
 · obtain ⟨N, hN, x, hx⟩ := h.all s hs;exact ⟨N, hN, x, fun j => by rw [hx, hsm k x j (Nat.le_refl k)]⟩
theorem RsI.rank {n k r c : Nat} {A R a E : Mx} {p l : Nat -> Nat} (h : RsI n A k R a p) (hE : Ech r c E l) (hs : SpEq r E n A) : k = r :=
 stair_count h.made.toStair hE hs h.all fun i hi => by
  obtain ⟨N, hN, hsp⟩ := h.made.back i hi;exact ⟨N, hN, hsp.trans fun t ht => by
   obtain ⟨s, hs', e⟩ := h.of t (by omega);rw [e]; exact Sp.row A hs'⟩
end Go.Proofs.YtdgfhcaokigieaaGreat
namespace Go.Proofs.YtdgfhcaokigieaaGreat
open Go.RowKit
theorem gw_some {ws : List Nat} {i : Nat} (h : i < ws.length) : ws[i]? = some (gw ws i) := by simp [gw, h]
section
variable {P : Program} {Q : Exit -> Act -> World -> Prop} {S0 : Nat -> Prop} {w0 : World} {n : Nat} {ls : List (Nat × Value)} {es : List En} {c : Code}
theorem wordW {ws : List Nat} {b o : Nat} (i : Nat) (hm : En.wat (some ⟨b, o, none⟩) ws ∈ es) (hi : i < ws.length) (k : CW P n S0 w0 c Q ls (.cell ⟨b, o + i, none⟩ (.int .u64 ((gw ws i : Nat) : Int)) :: es)) : CW P n S0 w0 c Q ls es := fun a w ha hw => by
 have hA : WAt w (some ⟨b, o, none⟩) ws := hw.all _ hm;obtain ⟨b', o', e, hb, hc⟩ := hA.2 (by omega);cases e;refine k a w ha (hw.cons (e := .cell ⟨b, o + i, none⟩ (.int .u64 ((gw ws i : Nat) : Int))) (hc i hi) (fun e' he' => ⟨(fun h => nomatch h), fun hwr g hg hg' => ?_⟩) (fun h => nomatch h));have hg' : g = b := hg';subst hg';obtain ⟨l1, l2, rfl⟩ := List.append_of_mem hm;have hS : (En.wat (some ⟨g, o, none⟩) ws).S g := ⟨by omega, o, rfl⟩;have hp := List.pairwise_append.1 hw.sep;rcases List.mem_append.1 he' with h | h
 · exact (hp.2.2 e' h _ (List.mem_cons_self ..)).1 hwr g hg hS
 · rcases List.mem_cons.1 h with rfl | h
   · cases hwr
   · exact ((List.pairwise_cons.1 hp.2.1).1 e' h).2 hwr g hg hS
theorem word0W {ws : List Nat} {b : Nat} (i : Nat) (hm : En.wat (some ⟨b, 0, none⟩) ws ∈ es) (hi : i < ws.length) (k : CW P n S0 w0 c Q ls (.cell ⟨b, i, none⟩ (.int .u64 ((gw ws i : Nat) : Int)) :: es)) : CW P n S0 w0 c Q ls es :=
 wordW i hm hi (by rw [Nat.zero_add]; exact k)
theorem pickW {es' : List En} (k : CW P n S0 w0 c Q ls es') (h : Pk es es' := by repeat (first | exact Pk.n | refine Pk.c (by repeat (first | exact Rm.z | apply Rm.s)) ?_)) : CW P n S0 w0 c Q ls es := fun a w ha hw => k a w ha (hw.pick h)
end
section
variable {P : Program} {ops : Array Oper} {Q : Exit -> Act -> World -> Prop} {S0 : Nat -> Prop} {w0 : World} {E0 : List En} {hd : List (List Nat)} {n j s : Nat} {l : List Nat} {G E : List En} {ls : List (Nat × Value)} {op : Op} {ty : TypeId} {pos : String} {af : Array Edge} {v v' : Value}
theorem dE (hv : v' = v) (k : RWs ⟨P, ops, Q, S0, w0, E0, []⟩ n l G E ((s, v) :: ls))
 (ho : ops[j]? = some ⟨some s, op, ty, pos, af, none⟩ := by rfl) (hk : (isDet op && chkO ls op && Nat.blt s n) = true := by kernel_rfl)
 (hr : ∀ w, (isLd op = true -> Fr S0 w0 w E0) -> (execOp (evl ls) ⟨some s, op, ty, pos, af, none⟩).run P w = .ok (.value v') w := by intro w H; (first | (have c := (H rfl).c; try simp only [celN, cl, List.cons_append, List.nil_append] at c) | skip); clear H; go_simp <;> with_reducible rfl) : RWs ⟨P, ops, Q, S0, w0, E0, []⟩ n (j :: l) G E ls :=
 dW (v := v) k ho hk (by rw [<- hv]; exact hr)
theorem dB (b : Bool) (k : RWs ⟨P, ops, Q, S0, w0, E0, []⟩ n l G E ((s, .bool b) :: ls))
 (ho : ops[j]? = some ⟨some s, op, ty, pos, af, none⟩ := by rfl) (hk : (isDet op && chkO ls op && Nat.blt s n) = true := by kernel_rfl)
 (hr : ∀ w, (isLd op = true -> Fr S0 w0 w E0) -> (execOp (evl ls) ⟨some s, op, ty, pos, af, none⟩).run P w = .ok (.value v') w := by intro w H; (first | (have c := (H rfl).c; try simp only [celN, cl, List.cons_append, List.nil_append] at c) | skip); clear H; go_simp <;> with_reducible rfl)
 (hv : v' = .bool b := by first | rfl | (simp [*]; done) | (simp; omega)) : RWs ⟨P, ops, Q, S0, w0, E0, []⟩ n (j :: l) G E ls :=
 dE hv k ho hk hr
theorem dGB (b : Bool) {sg g : Nat} {want : Bool} (k : RWs ⟨P, ops, Q, S0, w0, E0, []⟩ n l G E ((s, .bool b) :: ls))
 (ho : ops[j]? = some ⟨some s, op, ty, pos, af, some (g, want)⟩ := by rfl) (hk : (isDet op && chkO ls op && Nat.blt s n) = true := by kernel_rfl)
 (hg : (ops[g]?).bind (·.dst) = some sg := by rfl) (hi : inLs ls (.tmp sg) = true := by kernel_rfl) (hb : evl ls (.tmp sg) = .bool want := by (simp only [evlN, Nat.reduceEqDiff, ↓reduceIte]) <;> first | rfl | simp [*])
 (hr : ∀ w, (isLd op = true -> Fr S0 w0 w E0) -> (execOp (evl ls) ⟨some s, op, ty, pos, af, some (g, want)⟩).run P w = .ok (.value v') w := by intro w H; (first | (have c := (H rfl).c; try simp only [celN, cl, List.cons_append, List.nil_append] at c) | skip); clear H; go_simp <;> with_reducible rfl)
 (hv : v' = .bool b := by first | rfl | (simp [*]; done) | (simp; omega)) : RWs ⟨P, ops, Q, S0, w0, E0, []⟩ n (j :: l) G E ls :=
 dG k ho hk hg hi hb (by rw [<- hv]; exact hr)
theorem mW {sl sc : Operand} {a b : Int} {kl kc : IntKind} (x y : Nat) (hx : a = x) (hy : b = y) (hxy : x <= y) (hb : y <= 35184372088832) (k : ∀ g, RWs ⟨Tryz.prog, ops, Q, S0, w0, E0, hd⟩ n l (.row g 41 ((List.replicate y 0).map wv) :: G) E ((s, .slice (some ⟨g, 0, none⟩) x y) :: ls))
 (ho : ops[j]? = some ⟨some s, .makeSlice 35 sl sc, ty, pos, af, none⟩ := by rfl) (hk : (chkO ls (.makeSlice 35 sl sc) && Nat.blt s n) = true := by kernel_rfl)
 (h1 : evl ls sl = .int kl a := by (simp only [evlN, Nat.reduceEqDiff, ↓reduceIte]) <;> rfl) (h2 : evl ls sc = .int kc b := by (simp only [evlN, Nat.reduceEqDiff, ↓reduceIte]) <;> rfl) : RWs ⟨Tryz.prog, ops, Q, S0, w0, E0, hd⟩ n (j :: l) G E ls := fun A hA => by
 simp only [Bool.and_eq_true] at hk;refine ⟨_, ho, .inr (.inl ⟨rfl, rfl, fun g => .slice (some ⟨g, 0, none⟩) x y, 41, (List.replicate y 0).map wv, ⟨rfl, fun w => ?_⟩, fun g => k g _ (hA.put (Nat.le_of_ble_eq_true hk.2) _)⟩)⟩;rw [hA.exec (o := ⟨some s, .makeSlice 35 sl sc, ty, pos, af, none⟩) hk.1];obtain ⟨i, hi, hz, hs, hbt⟩ := info_parts info_u64;subst hx hy;have hr := run_make (P := Tryz.prog) w 35 41 i (.int .u64 0) Tryz.underlying35 hi hz kl kc x y (by omega) (by omega) (by rw [hbt]; omega) (by omega);simp only [Int.toNat_natCast] at hr;have e : madeCells (Value.int IntKind.u64 0).cells (y * i.size) = ((List.replicate y 0).map wv).toArray := by
  have := made_words y;rw [hs, <- this]
 simp [execOp, h1, h2, hr, Result.andThen, e]
theorem sU {b i : Nat} {ws ws' : List Nat} {ad x : Operand} {sty : TypeId} {E' : List En} (q y : Nat) (hq : q < ws.length) (hs : ws.set q y = ws') (hwl : ∀ e ∈ G ++ E, e.wl = false := by simp [En.wl, En.wat])
 (k' : RWs ⟨Tryz.prog, ops, Q, S0, w0, E0, hd⟩ n l G E' ls)
 (ho : ops[j]? = some ⟨none, .store sty ad x, ty, pos, af, none⟩ := by rfl) (hk : chkO ls (.store sty ad x) = true := by kernel_rfl)
 (ha : evl ls ad = .pointer (some ⟨b, q, none⟩) := by (simp only [evlN, Nat.reduceEqDiff, ↓reduceIte]) <;> rfl)
 (hv : evl ls x = .int .u64 ((y : Nat) : Int) := by (simp only [evlN, Nat.reduceEqDiff, ↓reduceIte]) <;> rfl)
 (hE : Up (.row b 41 (ws.map wv)) (.row b 41 (ws'.map wv)) i E E' := by repeat first | exact .z | apply Up.s)
 (hr : ∀ w u, w.cell? ⟨b, q, none⟩ = some u -> w.frozen? ⟨b, q, none⟩ = false -> (execOp (evl ls) ⟨none, .store sty ad x, ty, pos, af, none⟩).run Tryz.prog w = .ok .skip (w.setCell ⟨b, q, none⟩ (.int .u64 ((y : Nat) : Int))) := by intro w u c f; go_simp <;> rfl)
 (hst : okSt ops hd j [i] = true := by kernel_rfl) : RWs ⟨Tryz.prog, ops, Q, S0, w0, E0, hd⟩ n (j :: l) G E ls := fun a hA => by
 subst hs;refine ⟨_, ho, .inr (.inr ⟨rfl, rfl, Unit, fun _ => undef, fun _ => G, fun _ => E', [i], ⟨()⟩, fun X w hX hw => ?_, hst, fun _ r hr => hE.other (by simpa using hr), fun _ => k' _ (hA.put0 _)⟩)⟩;obtain ⟨m, h1, h2⟩ := hE.right' X G;have hrow : RowAt w b 41 (ws.map wv) := (hw.perm h1).all _ (List.mem_cons_self ..);refine ifw rfl ?_;show wpR _ _ ((execOp a.eval _).run _ w);rw [hA.exec (o := ⟨none, .store sty ad x, ty, pos, af, none⟩) hk, hr w _ (hrow.word hq) (hrow.free q)];refine ⟨(), rfl, ?_⟩;have e : setL (ws.map wv) q [.int .u64 ((y : Nat) : Int)] = (ws.set q y).map wv := map_wv_set ws q y;exact hw.st (t := 41) [.int .u64 ((y : Nat) : Int)] q (.inr fun e he => (List.mem_append.1 he).elim (hX e) (hwl e)) h1 (by rw [e]; exact h2)
end
theorem Fr.apart {S0 : Nat -> Prop} {w0 w : World} {es : List En} (h : Fr S0 w0 w es) {e e1 : En} (he : e ∈ es) (he1 : e1 ∈ es) (hw : e.wr = true) (hw1 : e1.wr = false) {b : Nat} (hb : e.S b) : ¬ e1.S b := fun hb1 => by
 obtain ⟨l1, l2, rfl⟩ := List.append_of_mem he1;have hp := List.pairwise_append.1 h.sep;rcases List.mem_append.1 he with h | h
 · exact (hp.2.2 e h _ (List.mem_cons_self ..)).1 hw b hb hb1
 · rcases List.mem_cons.1 h with rfl | h
   · rw [hw] at hw1; cases hw1
   · exact ((List.pairwise_cons.1 hp.2.1).1 e h).2 hw b hb hb1
def Rd (w w' : World) (L es : List En) : Prop := Below w.heap.size w w' /\ ∀ e ∈ es, e.F w' /\ e.wr = false /\ ∀ b, e.S b -> w.heap.size <= b ∨ ∃ e1 ∈ L, e1.wr = false /\ e1.S b
theorem Rd.fr {S0 : Nat -> Prop} {w0 w w' : World} {L E : List En} : ∀ {es : List En}, Rd w w' L es -> Fr S0 w0 w E -> (∀ e ∈ L, e ∈ E) -> Fr S0 w0 w' (es ++ E)
 | [], h, hf, _ => hf.grow h.1
 | e :: es, h, hf, hL => by
  have h1 := Rd.fr (es := es) ⟨h.1, fun x hx => h.2 x (List.mem_cons_of_mem _ hx)⟩ hf hL;obtain ⟨h2, h3, h4⟩ := h.2 e (List.mem_cons_self ..);refine h1.cons h2 (fun e' he' => ⟨(fun hw => by rw [h3] at hw; cases hw), fun hw b hb hb' => ?_⟩) (fun hw => by rw [h3] at hw; cases hw);rcases List.mem_append.1 he' with he' | he'
  · rw [(h.2 e' (List.mem_cons_of_mem _ he')).2.1] at hw; cases hw
  · rcases h4 b hb' with h5 | ⟨e1, h5, h6, h7⟩
    · have := En.lt (hf.all e' he') b hb; omega
    · exact hf.apart he' (hL e1 h5) hw h6 hb h7
section
variable {P : Program} {ops : Array Oper} {Q : Exit -> Act -> World -> Prop} {S0 : Nat -> Prop} {w0 : World} {E0 : List En} {hd : List (List Nat)} {n j s sg g : Nat} {l : List Nat} {G E : List En} {ls : List (Nat × Value)} {op : Op} {ty : TypeId} {pos : String} {af : Array Edge} {f : FuncId} {args : Array Value} {want : Bool}
theorem uU (k : RWs ⟨P, ops, Q, S0, w0, E0, hd⟩ n l G E ((s, undef) :: ls))
 (ho : ops[j]? = some ⟨some s, op, ty, pos, af, some (g, want)⟩ := by rfl) (hk : (isDet op && Nat.blt s n) = true := by kernel_rfl)
 (hg : (ops[g]?).bind (·.dst) = some sg := by rfl) (hi : inLs ls (.tmp sg) = true := by kernel_rfl) (hb : evl ls (.tmp sg) = undef := by (simp only [evlN, Nat.reduceEqDiff, ↓reduceIte]) <;> rfl) : RWs ⟨P, ops, Q, S0, w0, E0, hd⟩ n (j :: l) G E ls := fun a ha => by
 simp only [Bool.and_eq_true] at hk;refine ⟨_, ho, .inl ⟨hk.1, undef, fun w hw => .inr ⟨?_, rfl⟩, k _ (ha.put (Nat.le_of_ble_eq_true hk.2) undef)⟩⟩;unfold Region.wanted yielded;have hu : evl ls (.tmp sg) = Value.tuple #[] := hb;simp [hg, ha.tmp hi, hu]
theorem cR {α : Type} {mk : α -> Value} {ens : α -> List En} (c : ∀ w, Fr S0 w0 w (G ++ E) -> Calls P f args w fun e w' => ∃ p, e = .returned (mk p) /\ Rd w w' (G ++ E) (ens p))
 (k : ∀ p, RWs ⟨P, ops, Q, S0, w0, E0, hd⟩ n l (ens p ++ G) E ((s, mk p) :: ls))
 (ho : ops[j]? = some ⟨some s, op, ty, pos, af, none⟩ := by rfl) (hk : (!isDet op && !isNew op && chkO ls op && Nat.blt s n) = true := by kernel_rfl)
 (hr : ∀ w, (execOp (evl ls) ⟨some s, op, ty, pos, af, none⟩).run P w = .ok (.enter f args) w := by intro w; (try simp only [av]); go_simp <;> with_reducible rfl) (hne : Nonempty α := by infer_instance)
 (hst : okSt ops hd j [] = true := by kernel_rfl) : RWs ⟨P, ops, Q, S0, w0, E0, hd⟩ n (j :: l) G E ls := fun a ha => by
 simp only [Bool.and_eq_true, Bool.not_eq_true'] at hk;refine ⟨_, ho, .inr (.inr ⟨hk.1.1.1, hk.1.1.2, α, mk, fun p => ens p ++ G, fun _ => E, [], hne, fun X w hX hw => ?_, hst, fun _ _ _ => rfl, fun p => k p _ (ha.put (Nat.le_of_ble_eq_true hk.2) _)⟩)⟩;refine ifw rfl ?_;show wpR P _ ((execOp a.eval _).run P w);rw [ha.exec hk.1.2, hr w];refine (c w (hw.sub (List.sublist_append_right ..))).mono ?_;rintro e w' ⟨p, rfl, hn⟩;refine ⟨_, rfl, p, rfl, (hn.fr hw (fun e he => List.mem_append_right _ he)).perm ?_⟩;rw [List.append_assoc];exact (List.perm_append_comm_assoc (ens p) X (G ++ E))
theorem cU {α : Type} {mk : α -> Value} {b i : Nat} {t : TypeId} {cs : List Value} {cs' : α -> List Value} {E' : α -> List En} (c : ∀ w, Fr S0 w0 w (G ++ E) -> Calls P f args w fun e w' => ∃ p, e = .returned (mk p) /\ Chg (· = b) w w' /\ RowAt w' b t (cs' p))
 (k : ∀ p, RWs ⟨P, ops, Q, S0, w0, E0, hd⟩ n l G (E' p) ((s, mk p) :: ls))
 (hne : Nonempty α) (hwl : ∀ e ∈ G ++ E, e.wl = false := by simp [En.wl, En.wat])
 (ho : ops[j]? = some ⟨some s, op, ty, pos, af, none⟩ := by rfl) (hk : (!isDet op && !isNew op && chkO ls op && Nat.blt s n) = true := by kernel_rfl)
 (hr : ∀ w, (execOp (evl ls) ⟨some s, op, ty, pos, af, none⟩).run P w = .ok (.enter f args) w := by intro w; (try simp only [av]); go_simp <;> with_reducible rfl)
 (hE : ∀ p, Up (.row b t cs) (.row b t (cs' p)) i E (E' p) := by intro p; repeat first | exact .z | apply Up.s)
 (hst : okSt ops hd j [i] = true := by kernel_rfl) : RWs ⟨P, ops, Q, S0, w0, E0, hd⟩ n (j :: l) G E ls := fun a ha => by
 simp only [Bool.and_eq_true, Bool.not_eq_true'] at hk;refine ⟨_, ho, .inr (.inr ⟨hk.1.1.1, hk.1.1.2, α, mk, fun _ => G, E', [i], hne, fun X w hX hw => ?_, hst, fun p r hr => (hE p).other (by simpa using hr), fun p => k p _ (ha.put (Nat.le_of_ble_eq_true hk.2) _)⟩)⟩;refine ifw rfl ?_;show wpR P _ ((execOp a.eval _).run P w);rw [ha.exec hk.1.2, hr w];refine (c w (hw.sub (List.sublist_append_right ..))).mono ?_;rintro e w' ⟨p, rfl, hc, hrow⟩;obtain ⟨m, h1, h2⟩ := (hE p).right' X G;have h0 := hw.perm h1;refine ⟨_, rfl, p, rfl, Fr.perm (h0.upd rfl (e' := .row b t (cs' p)) hc (fun x hx hl => ?_) (fun _ h => h) hrow (fun _ h => .inl h)) h2.symm⟩;have hx := h1.mem_iff.2 (List.mem_cons_of_mem _ hx);rw [(List.mem_append.1 hx).elim (hX x) (hwl x)] at hl; cases hl
end
theorem gi_eq {xs : List Int} {i : Nat} (h : i < xs.length) : gi xs i = xs[i] := by simp [gi, h]
theorem gp_eq {ps : List P4} {i : Nat} (h : i < ps.length) : gp ps i = ps[i] := by simp [gp, h]
theorem gi_mem {xs : List Int} {i : Nat} (h : i < xs.length) : gi xs i ∈ xs := by rw [gi_eq h]; exact List.getElem_mem h
theorem gi_set {xs : List Int} {i j : Nat} (h : i < xs.length) (x : Int) : gi (xs.set i x) j = if j = i then x else gi xs j := by
 unfold gi;rw [List.getD_eq_getElem?_getD, List.getElem?_set, List.getD_eq_getElem?_getD];by_cases e : i = j
 · subst e; simp [h]
 · have e2 : ¬ j = i := fun q => e q.symm;simp [e, e2]
theorem rn0 {ps : List P4} {i : Nat} (tl : List Value) (h : i < ps.length) : (rn ps tl)[i * 2]? = some (.bool (gp ps i).1) := by
 have := flat_length ps;rw [gp_eq h, rn, List.getElem?_append_left (by omega)]; exact flat_get0 ps i h
theorem rn1 {ps : List P4} {i : Nat} (tl : List Value) (h : i < ps.length) : (rn ps tl)[i * 2 + 1]? = some (.slice (gp ps i).2.1 (gp ps i).2.2.1 (gp ps i).2.2.2) := by
 have := flat_length ps;rw [gp_eq h, rn, List.getElem?_append_left (by omega)]; exact flat_get1 ps i h
theorem rn_set {ps : List P4} {i : Nat} (tl : List Value) (h : i < ps.length) (p : P4) : setL (rn ps tl) (i * 2) [.bool p.1, .slice p.2.1 p.2.2.1 p.2.2.2] = rn (ps.set i p) tl := by
 have hl := flat_length ps;simp only [setL, rn];rw [List.set_append_left _ _ (by omega), List.set_append_left _ _ (by rw [List.length_set]; omega), flat_set]
theorem NoW.rn {ps : List P4} {tl : List Value} (h : NoW tl) : NoW (rn ps tl) := flat_app h
theorem NsAt.set {w : World} {ps : List P4} {xs : List Int} (h : NsAt w ps xs) (i : Nat) {p : P4} {x : Int} (hp : NumAt w (av p) x) : NsAt w (ps.set i p) (xs.set i x) := by
 refine ⟨by simp [h.1], fun j hj => ?_⟩;rw [List.length_set] at hj;have h1 := h.1;by_cases e : i = j
 · subst e;rw [gp_eq (by simpa using hj), gi_eq (by simp; omega)];simpa using hp
 · have := h.2 j hj;rw [gp_eq hj, gi_eq (by omega)] at this;rw [gp_eq (by simpa using hj), gi_eq (by simp; omega)];simpa [e] using this
theorem NsAt.zeros (w : World) (n : Nat) : NsAt w (List.replicate n p0) (List.replicate n 0) := ⟨by simp, fun i h => by
 have h : i < n := by simpa using h
 rw [gp_eq (by simpa using h), gi_eq (by simpa using h)]; simp; exact NumAt.zero w⟩
theorem RowN.mk' {w : World} {b : Nat} {ps : List P4} {tl : List Value} {xs : List Int} (h : RowAt w b 37 (rn ps tl)) (ht : NoW tl) (hn : NsAt w ps xs) : RowN w b xs :=
 ⟨ps, tl, ht, h, hn.1, fun i h1 h2 => by have := hn.2 i h1; rw [gp_eq h1, gi_eq h2] at this; exact this⟩
theorem Fr.l {S0 : Nat -> Prop} {w0 w : World} {es : List En} (h : Fr S0 w0 w es) {L : Nat} {ao : Option Addr} {xs : List Int} (hx : LsAt w L ao xs) (hS : ∀ e ∈ es, e.wr = false) : Fr S0 w0 w (.ls L ao xs :: es) :=
 h.cons hx (fun e he => ⟨(fun q => nomatch q), fun q => by rw [hS e he] at q; cases q⟩) (fun q => nomatch q)
section
variable {P : Program} {Q : Exit -> Act -> World -> Prop} {S0 : Nat -> Prop} {w0 : World} {n : Nat} {ls : List (Nat × Value)} {es : List En} {c : Code}
theorem Fr.cellOf {w : World} {e : En} {a : Addr} {v : Value} (h : Fr S0 w0 w es) (hm : e ∈ es) (hwr : e.wr = false) (hS : e.S a.block) (hc : w.cell? a = some v) : Fr S0 w0 w (.cell a v :: es) :=
 h.cons (e := .cell a v) hc (fun e' he' => ⟨(fun q => nomatch q), fun q g hg hg' => by
  obtain rfl : g = a.block := hg';exact h.apart he' hm q hwr hg hS⟩) (fun q => nomatch q)
theorem numW {L : Nat} {xs : List Int} {b o : Nat} (i : Nat) (hm : En.ls L (some ⟨b, o, none⟩) xs ∈ es) (hi : i < xs.length) (k : ∀ p : P4, CW P n S0 w0 c Q ls (.cell ⟨b, o + i * 2, none⟩ (.bool p.1) :: .cell ⟨b, o + i * 2 + 1, none⟩ (.slice p.2.1 p.2.2.1 p.2.2.2) :: .at L (av p) (gi xs i) :: es)) : CW P n S0 w0 c Q ls es := fun a w ha hw => by
 have hA : LsAt w L (some ⟨b, o, none⟩) xs := hw.all _ hm;obtain ⟨b', o', e, hb, hc⟩ := hA (by omega);cases e;obtain ⟨p, h0, h1, hx⟩ := hc i hi;rw [<- gi_eq hi] at hx;have hS : (En.ls L (some ⟨b, o, none⟩) xs).S b := ⟨by omega, o, rfl⟩;exact k p a w ha (((hw.pure (e := .at L (av p) (gi xs i)) hx (fun _ h => h)).cellOf (List.mem_cons_of_mem _ hm) rfl hS h1).cellOf (List.mem_cons_of_mem _ (List.mem_cons_of_mem _ hm)) rfl hS h0)
theorem addW {e : En} (he : ∀ w, Fr S0 w0 w es -> e.F w) (k : CW P n S0 w0 c Q ls (e :: es)) (hS : ∀ b, ¬ e.S b := by intro b h; exact h) : CW P n S0 w0 c Q ls es := fun a w ha hw => k a w ha (hw.pure (he w hw) hS)
end
section
variable {ops : Array Oper} {Q : Exit -> Act -> World -> Prop} {S0 : Nat -> Prop} {w0 : World} {E0 : List En} {hd : List (List Nat)} {n j s : Nat} {l : List Nat} {G E : List En} {ls : List (Nat × Value)} {op : Op} {ty : TypeId} {pos : String} {af : Array Edge}
theorem mN {sl sc : Operand} {a b : Int} {kl kc : IntKind} (x y : Nat) (hx : a = x) (hy : b = y) (hxy : x <= y) (hb : y <= 8796093022208) (k : ∀ g, RWs ⟨Tryz.prog, ops, Q, S0, w0, E0, hd⟩ n l (.row g 37 (rn (List.replicate y p0) []) :: G) E ((s, .slice (some ⟨g, 0, none⟩) x y) :: ls))
 (ho : ops[j]? = some ⟨some s, .makeSlice 22 sl sc, ty, pos, af, none⟩ := by rfl) (hk : (chkO ls (.makeSlice 22 sl sc) && Nat.blt s n) = true := by kernel_rfl)
 (h1 : evl ls sl = .int kl a := by (simp only [evlN, Nat.reduceEqDiff, ↓reduceIte]) <;> rfl) (h2 : evl ls sc = .int kc b := by (simp only [evlN, Nat.reduceEqDiff, ↓reduceIte]) <;> rfl) : RWs ⟨Tryz.prog, ops, Q, S0, w0, E0, hd⟩ n (j :: l) G E ls := fun A hA => by
 simp only [Bool.and_eq_true] at hk;refine ⟨_, ho, .inr (.inl ⟨rfl, rfl, fun g => .slice (some ⟨g, 0, none⟩) x y, 37, rn (List.replicate y p0) [], ⟨rfl, fun w => ?_⟩, fun g => k g _ (hA.put (Nat.le_of_ble_eq_true hk.2) _)⟩)⟩;rw [hA.exec (o := ⟨some s, .makeSlice 22 sl sc, ty, pos, af, none⟩) hk.1];obtain ⟨i, hi, hz, hs, hbt⟩ := info_parts info_Int;subst hx hy;have hr := run_make (P := Tryz.prog) w 22 37 i (.agg #[.bool false, .slice none 0 0]) Tryz.underlying22 hi hz kl kc x y (by omega) (by omega) (by rw [hbt]; omega) (by omega);simp only [Int.toNat_natCast] at hr;have e : madeCells (Value.agg #[.bool false, .slice none 0 0]).cells (y * i.size) = (rn (List.replicate y p0) []).toArray := by
  have := made_flat y;rw [hs, rn, List.append_nil, <- this]
 simp [execOp, h1, h2, hr, Result.andThen, e]
theorem sN {b i : Nat} {ps ps' : List P4} {tl : List Value} {ad x : Operand} {sty : TypeId} {E' : List En} (q : Nat) (p : P4) (hq : q < ps.length) (ht : NoW tl) (hs : ps.set q p = ps')
 (k' : RWs ⟨Tryz.prog, ops, Q, S0, w0, E0, hd⟩ n l G E' ls)
 (ho : ops[j]? = some ⟨none, .store sty ad x, ty, pos, af, none⟩ := by rfl) (hk : chkO ls (.store sty ad x) = true := by kernel_rfl)
 (ha : evl ls ad = .pointer (some ⟨b, q * 2, none⟩) := by (simp only [evlN, Nat.reduceEqDiff, ↓reduceIte]) <;> rfl)
 (hv : evl ls x = .agg #[.bool p.1, .slice p.2.1 p.2.2.1 p.2.2.2] := by (simp only [evlN, Nat.reduceEqDiff, ↓reduceIte, av]) <;> rfl)
 (hE : Up (.row b 37 (rn ps tl)) (.row b 37 (rn ps' tl)) i E E' := by repeat first | exact .z | apply Up.s)
 (hr : ∀ w u v, w.cell? ⟨b, q * 2, none⟩ = some u -> w.cell? ⟨b, q * 2 + 1, none⟩ = some v -> w.frozen? ⟨b, q * 2, none⟩ = false -> w.frozen? ⟨b, q * 2 + 1, none⟩ = false -> (execOp (evl ls) ⟨none, .store sty ad x, ty, pos, af, none⟩).run Tryz.prog w = .ok .skip (stA w b (q * 2) [.bool p.1, .slice p.2.1 p.2.2.1 p.2.2.2]) := by intro w u v c0 c1 f0 f1; (try simp only [av]); go_simp <;> rfl)
 (hst : okSt ops hd j [i] = true := by kernel_rfl) : RWs ⟨Tryz.prog, ops, Q, S0, w0, E0, hd⟩ n (j :: l) G E ls := fun a hA => by
 subst hs;refine ⟨_, ho, .inr (.inr ⟨rfl, rfl, Unit, fun _ => undef, fun _ => G, fun _ => E', [i], ⟨()⟩, fun X w hX hw => ?_, hst, fun _ r hr => hE.other (by simpa using hr), fun _ => k' _ (hA.put0 _)⟩)⟩;obtain ⟨m, h1, h2⟩ := hE.right' X G;have hrow : RowAt w b 37 (rn ps tl) := (hw.perm h1).all _ (List.mem_cons_self ..);refine ifw rfl ?_;show wpR _ _ ((execOp a.eval _).run _ w);rw [hA.exec (o := ⟨none, .store sty ad x, ty, pos, af, none⟩) hk, hr w _ _ ((hrow.cell _).trans (rn0 tl hq)) ((hrow.cell _).trans (rn1 tl hq)) (hrow.free _) (hrow.free _)];exact ⟨(), rfl, hw.st (t := 37) _ _ (.inl ⟨NoW.rn ht, by decide⟩) h1 (by rw [rn_set tl hq]; exact h2)⟩
end
theorem Fr.conv {S0 : Nat -> Prop} {w0 w : World} {es : List En} {e e' : En} (h : Fr S0 w0 w (e :: es)) (h1 : e.F w -> e'.F w) (h2 : ∀ b, e'.S b -> e.S b) (h3 : e'.wr = true -> e.wr = true) : Fr S0 w0 w (e' :: es) := by
 have hp := List.pairwise_cons.1 h.sep;exact h.tl.cons (h1 h.m0) (fun x hx => ⟨fun q b hb => (hp.1 x hx).1 (h3 q) b (h2 b hb), fun q b hb hb' => (hp.1 x hx).2 q b hb (h2 b hb')⟩) (fun q b hb => h.own e (List.mem_cons_self ..) (h3 q) b (h2 b hb))
section
variable {P : Program} {Q : Exit -> Act -> World -> Prop} {S0 : Nat -> Prop} {w0 : World} {n : Nat} {ls : List (Nat × Value)} {es : List En} {c : Code}
end
theorem Chg.alloc' (T : Nat -> Prop) (w : World) (o : Obj) : Chg T w (w.drew.alloc o) := Chg.of_below ⟨rfl, rfl, rfl, by simp, fun q hq => heap_alloc_old w.drew _ hq⟩
section
variable {ops : Array Oper} {Q : Exit -> Act -> World -> Prop} {S0 : Nat -> Prop} {w0 : World} {E0 : List En} {hd : List (List Nat)} {n j s : Nat} {l : List Nat} {G E : List En} {ls : List (Nat × Value)} {op : Op} {ty : TypeId} {pos : String} {af : Array Edge}
end
section
variable {P : Program} {ops : Array Oper} {Q : Exit -> Act -> World -> Prop} {S0 : Nat -> Prop} {w0 : World} {E0 : List En} {hd : List (List Nat)} {n j s : Nat} {l : List Nat} {G E : List En} {ls : List (Nat × Value)} {op : Op} {ty : TypeId} {pos : String} {af : Array Edge} {f : FuncId} {args : Array Value}
end
section
variable {P : Program} {Q : Exit -> Act -> World -> Prop} {S0 : Nat -> Prop} {w0 : World} {n : Nat} {ls : List (Nat × Value)} {es : List En} {c : Code}
end
section
variable {P : Program} {ops : Array Oper} {Q : Exit -> Act -> World -> Prop} {S0 : Nat -> Prop} {w0 : World} {E0 : List En} {hd : List (List Nat)} {n j s : Nat} {l : List Nat} {G E : List En} {ls : List (Nat × Value)} {op : Op} {ty : TypeId} {pos : String} {af : Array Edge} {f : FuncId} {args : Array Value}
theorem bW {t : TypeId} {cs : List Value} {m : Nat} (k : ∀ g, RWs ⟨P, ops, Q, S0, w0, E0, hd⟩ n l (.row g t cs :: G) E ((s, .slice (some ⟨g, 0, none⟩) m m) :: ls))
 (ho : ops[j]? = some ⟨some s, op, ty, pos, af, none⟩ := by rfl) (hk : (!isDet op && isNew op && chkO ls op && Nat.blt s n) = true := by kernel_rfl)
 (hr : ∀ w, (execOp (evl ls) ⟨some s, op, ty, pos, af, none⟩).run P w = .ok (.value (.slice (some ⟨w.heap.size, 0, none⟩) m m)) (w.alloc (.cells cs.toArray t (0, 0))) := by intro w; (try simp only [av]); go_simp <;> with_reducible rfl) : RWs ⟨P, ops, Q, S0, w0, E0, hd⟩ n (j :: l) G E ls := fun a ha => by
 simp only [Bool.and_eq_true, Bool.not_eq_true'] at hk;refine ⟨_, ho, .inr (.inl ⟨hk.1.1.1, hk.1.1.2, fun g => .slice (some ⟨g, 0, none⟩) m m, t, cs, ⟨rfl, fun w => ?_⟩, fun g => k g _ (ha.put (Nat.le_of_ble_eq_true hk.2) _)⟩)⟩;rw [ha.exec hk.1.2];exact hr w
end
theorem wlen_nval_le {ws : List Nat} (h : Ok ws) : wlen (nval ws) <= ws.length := by rw [wlen_nval h]; exact tlen_le ws
theorem ow_own {B m cap : Nat} {ao : Option Addr} {w : World} (h : OwnW w B ao (wlen m) cap (dig m)) : OwnI w B (.agg #[.bool false, .slice ao (wlen m) cap]) (m : Int) := OwnI.mk false h
theorem LsAt.pos {w : World} {L : Nat} {ao : Option Addr} {xs : List Int} (h : LsAt w L ao xs) {i : Nat} (hi : i < xs.length) : ∃ b o, ao = some ⟨b, o, none⟩ := by
 obtain ⟨b, o, e, _⟩ := h (by omega);exact ⟨b, o, e⟩
end Go.Proofs.YtdgfhcaokigieaaGreat
namespace Go.Proofs.YtdgfhcaokigieaaGreat
def Rts (R : List (List Int)) : Mx := fun t j => gi (R.getD t []) j
def pts (p : List Nat) : Nat -> Nat := fun t => p.getD t 0
def clr (x y : List Int) (j : Nat) : List Int := (List.range x.length).map fun i => gi x i * gi y j - gi x j * gi y i
def gcdL (l : List Int) : Nat := (l.map Int.natAbs).foldl Nat.gcd 0
def stp (l : List Int) : List Int := if gcdL l = 0 then l else l.map fun x => x / (gcdL l : Int)
def stg (l : List Int) : Int := if gcdL l = 0 then 1 else (gcdL l : Int)
structure Ro where
 l : List Int
 up : Int
 dn : Int
def r13 (R : List (List Int)) (p : List Nat) (l : List Int) : Nat -> Ro
 | 0 => ⟨l, 1, 1⟩
 | i + 1 => if gi (r13 R p l i).l (pts p i) = 0 then r13 R p l i else ⟨stp (clr (r13 R p l i).l (R.getD i []) (pts p i)), (r13 R p l i).up * Rts R i (pts p i), (r13 R p l i).dn * stg (clr (r13 R p l i).l (R.getD i []) (pts p i))⟩
theorem clr_length (x y : List Int) (j : Nat) : (clr x y j).length = x.length := by simp [clr]
theorem gi_out {l : List Int} {i : Nat} (h : l.length <= i) : gi l i = 0 := by simp [gi, h]
theorem clr_gi {x y : List Int} (h : y.length = x.length) (j i : Nat) : gi (clr x y j) i = gi x i * gi y j - gi x j * gi y i := by
 by_cases hi : i < x.length
 · rw [gi_eq (by rw [clr_length]; exact hi)]; simp [clr]
 · rw [gi_out (by rw [clr_length]; omega), gi_out (l := x) (i := i) (by omega), gi_out (l := y) (i := i) (by omega)]; simp
theorem stp_length (l : List Int) : (stp l).length = l.length := by unfold stp; split <;> simp
theorem stg_ne (l : List Int) : stg l ≠ 0 := by unfold stg; split <;> omega
theorem gcdL_dvd {l : List Int} (i : Nat) : (gcdL l : Int) ∣ gi l i := by
 by_cases hi : i < l.length
 · rw [gi_eq hi];exact Int.natAbs_dvd_natAbs.1 (by rw [Int.natAbs_natCast]; exact (fold_dvd (l.map Int.natAbs) 0).2 _ (List.mem_map.2 ⟨_, List.getElem_mem hi, rfl⟩))
 · rw [gi_out (by omega)]; exact Int.dvd_zero _
theorem stp_gi (l : List Int) (i : Nat) : stg l * gi (stp l) i = gi l i := by
 unfold stg stp;split
 · rw [Int.one_mul]
 · rename_i h;have h0 : (gcdL l : Int) ≠ 0 := by omega
   have e : gi (l.map fun x => x / (gcdL l : Int)) i = gi l i / (gcdL l : Int) := by
    by_cases hi : i < l.length
    · rw [gi_eq (by simpa using hi), gi_eq hi]; simp
    · rw [gi_out (by simpa using hi), gi_out (l := l) (by omega)]; simp
   rw [e, Int.mul_ediv_cancel' (gcdL_dvd i)]
theorem r13_length (R : List (List Int)) (p : List Nat) (l : List Int) : ∀ i, (r13 R p l i).l.length = l.length
 | 0 => rfl
 | i + 1 => by
  rw [r13]; split
  · exact r13_length R p l i
  · rw [stp_length, clr_length]; exact r13_length R p l i
section
variable {R : List (List Int)} {p : List Nat} {l : List Int} {k : Nat}
theorem r13_ne (hst : Stair k (Rts R) (pts p)) : ∀ i, i <= k -> (r13 R p l i).up ≠ 0 /\ (r13 R p l i).dn ≠ 0
 | 0, _ => ⟨Int.one_ne_zero, Int.one_ne_zero⟩
 | i + 1, hi => by
  have ih := r13_ne hst i (by omega);rw [r13]; split
  · exact ih
  · exact ⟨Int.mul_ne_zero ih.1 (hst.at_ i (by omega)), Int.mul_ne_zero ih.2 (stg_ne _)⟩
theorem r13_rel (hR : ∀ t, t < k -> (R.getD t []).length = l.length) : ∀ i, i <= k -> ∃ q : Nat -> Int, ∀ j, (r13 R p l i).dn * gi (r13 R p l i).l j = (r13 R p l i).up * gi l j + sm i fun t => q t * Rts R t j
 | 0, _ => ⟨fun _ => 0, fun j => by show 1 * gi l j = 1 * gi l j + 0; omega⟩
 | i + 1, hi => by
  obtain ⟨q, hq⟩ := r13_rel hR i (by omega);have hlen := r13_length R p l i;rw [r13]; split
  · refine ⟨fun t => if t < i then q t else 0, fun j => ?_⟩;show _ = _ + (sm i (fun t => (if t < i then q t else 0) * Rts R t j) + (if i < i then q i else 0) * Rts R i j);rw [hq, if_neg (Nat.lt_irrefl i), Int.zero_mul, Int.add_zero];congr 1;exact sm_congr fun t ht => by rw [if_pos ht]
  · obtain ⟨o, ho⟩ : ∃ o, r13 R p l i = o := ⟨_, rfl⟩;rw [ho] at hq hlen ⊢;obtain ⟨y, hy⟩ : ∃ y, Rts R i (pts p i) = y := ⟨_, rfl⟩;refine ⟨fun t => if t < i then y * q t else - (o.dn * gi o.l (pts p i)), fun j => ?_⟩;show o.dn * stg (clr o.l (R.getD i []) (pts p i)) * gi (stp (clr o.l (R.getD i []) (pts p i))) j = o.up * Rts R i (pts p i) * gi l j + (sm i (fun t => (if t < i then y * q t else - (o.dn * gi o.l (pts p i))) * Rts R t j) + (if i < i then y * q i else - (o.dn * gi o.l (pts p i))) * Rts R i j);rw [Int.mul_assoc, stp_gi, clr_gi (by rw [hR i (by omega), hlen]), if_neg (Nat.lt_irrefl i)];have e1 : sm i (fun t => (if t < i then y * q t else - (o.dn * gi o.l (pts p i))) * Rts R t j) = y * sm i fun t => q t * Rts R t j := by
     rw [<- sm_mul]; exact sm_congr fun t ht => by rw [if_pos ht, Int.mul_assoc]
    rw [e1];have e2 : gi (R.getD i []) (pts p i) = y := hy;have e3 : gi (R.getD i []) j = Rts R i j := rfl;rw [e2, e3, hy, Int.mul_sub, <- Int.mul_assoc, hq, Int.add_mul, Int.mul_comm (sm i _) y, Int.neg_mul, Int.mul_assoc o.up, Int.mul_comm (gi l j) y, <- Int.mul_assoc o.up, <- Int.mul_assoc o.dn];omega
theorem r13_zero (hR : ∀ t, t < k -> (R.getD t []).length = l.length) (hst : Stair k (Rts R) (pts p)) : ∀ i, i <= k -> ∀ t, t < i -> gi (r13 R p l i).l (pts p t) = 0
 | 0, _, t, ht => by omega
 | i + 1, hi, t, ht => by
  have ih := r13_zero hR hst i (by omega);have hlen := r13_length R p l i;rw [r13]; split
  · rename_i h;by_cases e : t = i
    · rw [e]; exact h
    · exact ih t (by omega)
  · have h0 : gi (clr (r13 R p l i).l (R.getD i []) (pts p i)) (pts p t) = 0 := by
     rw [clr_gi (by rw [hR i (by omega), hlen])];by_cases e : t = i
     · rw [e, Int.sub_eq_zero]
     · rw [ih t (by omega), Int.zero_mul, show gi (R.getD i []) (pts p t) = 0 from hst.clr i (by omega) t (by omega), Int.mul_zero, Int.sub_zero]
    have h1 := stp_gi (clr (r13 R p l i).l (R.getD i []) (pts p i)) (pts p t);rw [h0] at h1;exact (Int.mul_eq_zero.1 h1).resolve_left (stg_ne _)
theorem stp_prim (x : List Int) : (∀ d : Int, (∀ j, d ∣ gi (stp x) j) -> d ∣ 1) ∨ ∀ j, gi (stp x) j = 0 := by
 by_cases h : gcdL x = 0
 · refine .inr fun j => ?_;unfold stp; rw [if_pos h];by_cases hj : j < x.length
   · rw [gi_eq hj];have := fold_zero h (x[j].natAbs) (List.mem_map.2 ⟨_, List.getElem_mem hj, rfl⟩);omega
   · exact gi_out (by omega)
 · refine .inl (strip_prim (xs := x) (ys := stp x) (g := gcdL x) rfl h (stp_length x) fun i hi => ?_);have h1 := stp_gi x i;unfold stg at h1;rw [if_neg h] at h1;rw [Int.mul_comm]; exact h1
theorem r13_prim (i : Nat) : (r13 R p l i).l = l ∨ (∀ d : Int, (∀ j, d ∣ gi (r13 R p l i).l j) -> d ∣ 1) ∨ ∀ j, gi (r13 R p l i).l j = 0 := by
 induction i with
 | zero => exact .inl rfl
 | succ i ih =>
  rw [r13]; split
  · exact ih
  · exact .inr (stp_prim _)
theorem r13_bound {A i : Nat} {a : Mx} (h : MadeR k (Rts R) a (pts p)) (hR : ∀ t, t < k -> (R.getD t []).length = l.length) (hi : i <= k) (ha : ∀ t < k, ∀ j, (a t j).natAbs <= A) (h0 : ∀ j, (gi l j).natAbs <= A) (j : Nat) : (gi (r13 R p l i).l j).natAbs <= (k + 1) * ((2 * (k + 1) * A + 1) ^ k * A) := by
 have hbig : A <= (k + 1) * ((2 * (k + 1) * A + 1) ^ k * A) := by
  have h1 : 1 <= (2 * (k + 1) * A + 1) ^ k := Nat.pow_pos (by omega);have h2 := Nat.mul_le_mul h1 (Nat.le_refl A);have h3 := Nat.mul_le_mul (show 1 <= k + 1 by omega) h2;omega
 rcases r13_prim (R := R) (p := p) (l := l) i with e | hp | hz
 · rw [e]; exact Nat.le_trans (h0 j) hbig
 · obtain ⟨q, hq⟩ := r13_rel (p := p) hR i hi;have hne := r13_ne (l := l) h.toStair i hi;refine Nat.le_trans (h.bound (l0 := gi l) (l := gi (r13 R p l i).l) (c := q) hi hne.2 hne.1 hq (r13_zero hR h.toStair i hi) hp (fun t ht => ha t (by omega)) h0 j) ?_;have e1 : 2 * (i + 1) * A + 1 <= 2 * (k + 1) * A + 1 := Nat.succ_le_succ (Nat.mul_le_mul_right A (by omega));have e2 : (2 * (i + 1) * A + 1) ^ i <= (2 * (k + 1) * A + 1) ^ k := Nat.le_trans (Nat.pow_le_pow_left e1 i) (Nat.pow_le_pow_right (by omega) hi);exact Nat.mul_le_mul (by omega) (Nat.mul_le_mul_right A e2)
 · rw [hz j]; exact Nat.zero_le _
end
def bw (m : Nat) : Nat := 65 * (m + 1)
theorem bw_big {k m : Nat} (hk : k <= 64) : (k + 1) * ((2 * (k + 1) * W ^ m + 1) ^ k * W ^ m) < W ^ bw m := by
 have h1 : 2 * (k + 1) * W ^ m + 1 <= W ^ (m + 1) := by
  have hp : 1 <= W ^ m := Nat.pow_pos (by decide);have h2 := Nat.mul_le_mul_right (W ^ m) (show 2 * (k + 1) + 1 <= W by unfold W; omega);rw [Nat.add_mul, Nat.one_mul] at h2;rw [Nat.pow_succ, Nat.mul_comm (W ^ m) W]; omega
 have h3 : (2 * (k + 1) * W ^ m + 1) ^ k <= W ^ ((m + 1) * 64) := by
  refine Nat.le_trans (Nat.pow_le_pow_left h1 k) ?_;rw [<- Nat.pow_mul];exact Nat.pow_le_pow_right (by decide) (Nat.mul_le_mul_left _ hk)
 have h4 : (2 * (k + 1) * W ^ m + 1) ^ k * W ^ m <= W ^ ((m + 1) * 64 + m) := by
  rw [Nat.pow_add]; exact Nat.mul_le_mul_right _ h3
 have h5 : k + 1 < W := by unfold W; omega
 refine Nat.lt_of_lt_of_le (Nat.mul_lt_mul_of_lt_of_le h5 h4 (Nat.pow_pos (by decide))) ?_;rw [Nat.mul_comm, <- Nat.pow_succ];exact Nat.pow_le_pow_right (by decide) (by unfold bw; omega)
end Go.Proofs.YtdgfhcaokigieaaGreat
namespace Go.Proofs.YtdgfhcaokigieaaGreat
open Go.RowKit
def lead : List Int -> Nat
 | [] => 0
 | x :: xs => if x = 0 then lead xs + 1 else 0
theorem lead_le : ∀ xs : List Int, lead xs <= xs.length
 | [] => Nat.le_refl _
 | x :: xs => by
  unfold lead; split
  · have := lead_le xs; simp; omega
  · simp
theorem lead_of : ∀ (xs : List Int) (k : Nat) (h : k < xs.length), (∀ i (h' : i < k), xs[i]'(by omega) = 0) -> xs[k] ≠ 0 -> lead xs = k
 | x :: xs, 0, _, _, hn => by unfold lead; rw [if_neg]; simpa using hn
 | x :: xs, k + 1, h, hz, hn => by
  have h0 : x = 0 := hz 0 (by omega);unfold lead; rw [if_pos h0, lead_of xs k (by simpa using h) (fun i hi => by have := hz (i + 1) (by omega); simpa using this) (by simpa using hn)]
theorem lead_all : ∀ (xs : List Int), (∀ i (h : i < xs.length), xs[i] = 0) -> lead xs = xs.length
 | [], _ => rfl
 | x :: xs, hz => by
  have h0 : x = 0 := hz 0 (by simp);unfold lead; rw [if_pos h0, lead_all xs (fun i hi => by have := hz (i + 1) (by simpa using hi); simpa using this)]; rfl
set_option maxRecDepth 100000 in
set_option maxHeartbeats 4000000 in
theorem Lead_c (b cap : Nat) (xs : List Int) (w : World) (hR : RowN w b xs) (hL : ∀ x ∈ xs, wlen x.natAbs <= 17592186044415) (hlen : xs.length <= 9223372036854775807) :
 Calls Tryz.prog 19 #[.slice (some ⟨b, 0, none⟩) xs.length cap] w fun e w' => e = .returned (.int .i64 (lead xs : Nat)) /\ Below w.heap.size w w' := by
 have HL := Lib.hid hL; clear hL;have HR := Lib.hid hR; clear hR;go_enter Tryz.func19, Tryz.ntmps19;go_wp2;go_loopw [7] (fun i wr => ∃ k : Nat, k <= xs.length /\ i = .int .i64 (k : Int) /\ Hid (∀ j (h : j < k) (h' : j < xs.length), xs[j] = 0) /\ Below w.heap.size w wr) (fun i _ => xs.length - (intOf i).toNat)
 case atStart => exact ⟨0, Nat.zero_le _, rfl, fun j h => by omega, Below.refl _ _⟩
 case round =>
  obtain ⟨k, hk, rfl, hz, hb⟩ := hrel;by_cases hkl : k < xs.length
  · have hR2 := HR.out.below hb;obtain ⟨p, hc0, hc1, hn⟩ := hR2.get hkl;have hkl' : (k : Int) < (xs.length : Int) := by omega
    have HN := Lib.hid hn;clear hn;go_wp2_with fail
    have hb1 : Below wr.heap.size wr (wr.alloc (.cells #[.bool p.fst, .slice p.snd.fst p.snd.snd.fst p.snd.snd.snd] 37)) := (Below.refl _ _).alloc (Nat.le_refl _) _;refine (ISign_c (av p) xs[k] _ ((HN.out.int (HL.out _ (List.getElem_mem hkl))).below hb1)).mono ?_;rintro e w2 ⟨rfl, hb2⟩;have hb3 : Below w.heap.size w w2 := hb.trans ((hb1.trans (hb2.mono hb1.size)).mono hb.size);have HB3 := Lib.hid hb3;clear hb1 hb2 hb3 hc0 hc1;by_cases h0 : xs[k] = 0
    · have hz0 : zsign xs[k] = 0 := zsign_beq.2 h0;rw [hz0];have H0 := Lib.hid h0;clear h0 hz0;go_wp2;go_roundw
      case rel => exact ⟨k + 1, by omega, by go_num, Lib.hid (fun j hj hj' => (Nat.lt_succ_iff_lt_or_eq.1 hj).elim (fun h => hz.out j h hj') (fun h => by subst h; exact H0.out)), HB3.out⟩
      case measure => simp [intOf]; omega
    · have hn0 : ¬ zsign xs[k] = 0 := fun h => h0 (zsign_beq.1 h);have hle := lead_of xs k hkl (fun i h' => hz.out i h' (by omega)) h0;have HLE := Lib.hid hle;obtain ⟨s, hs⟩ : ∃ s, zsign xs[k] = s := ⟨_, rfl⟩;rw [hs] at hn0 ⊢;have hb0 : (s != 0) = true := by simpa using hn0
      clear h0 hle hs;go_wp2;go_ret;rw [HLE.out];exact ⟨rfl, HB3.out⟩
  · obtain rfl : k = xs.length := by omega
    have hle := lead_all xs (fun i h => hz.out i h h);have HLE := Lib.hid hle;clear hle;go_wp2;go_ret;rw [HLE.out];exact ⟨rfl, hb⟩
theorem Chg.rowN {S : Nat -> Prop} {w w' : World} (h : Chg S w w') (hS : Wordless S w) {b : Nat} {xs : List Int} (hx : RowN w b xs) (hb : ¬ S b) : RowN w' b xs := by
 obtain ⟨ps, tl, nt, hr, hl, hn⟩ := hx;exact ⟨ps, tl, nt, h.row hr hb, hl, fun i h1 h2 => h.num hS (hn i h1 h2)⟩
theorem RowN.wordless {w : World} {b : Nat} {xs : List Int} (h : RowN w b xs) : Wordless (· = b) w := by
 rintro g rfl;obtain ⟨ps, tl, nt, hr, _⟩ := h;exact ⟨_, _, hr, flat_app nt⟩
def addRow (k : Int) (xs ys : List Int) : List Int := List.zipWith (fun x y => k * y + x) xs ys
def AddTo (k : Int) (xs ys cu : List Int) (m : Nat) : Prop := cu.length = xs.length /\ (∀ j (h : j < cu.length) (h1 : j < xs.length) (h2 : j < ys.length), j < m -> cu[j] = k * ys[j] + xs[j]) /\ (∀ j (h : j < cu.length) (h1 : j < xs.length), m <= j -> cu[j] = xs[j])
theorem AddTo.start (k : Int) (xs ys : List Int) : AddTo k xs ys xs 0 := ⟨rfl, fun _ _ _ _ h => by omega, fun _ _ _ _ => rfl⟩
theorem AddTo.next {k : Int} {xs ys cu : List Int} {m : Nat} (h : AddTo k xs ys cu m) (hm : m < xs.length) (hl : xs.length = ys.length) : AddTo k xs ys (cu.set m (k * ys[m] + xs[m])) (m + 1) := by
 obtain ⟨h1, h2, h3⟩ := h;refine ⟨by simpa using h1, fun j hj hx hy hjm => ?_, fun j hj hx hjm => ?_⟩
 · rw [List.getElem_set];split
   · rename_i e; subst e; rfl
   · exact h2 j (by simpa using hj) hx hy (by omega)
 · rw [List.getElem_set, if_neg (by omega)];exact h3 j (by simpa using hj) hx (by omega)
theorem AddTo.skip {k : Int} {xs ys cu : List Int} {m : Nat} (h : AddTo k xs ys cu m) (hm : m < xs.length) (hl : xs.length = ys.length) (h0 : ys[m] = 0) : AddTo k xs ys cu (m + 1) := by
 obtain ⟨h1, h2, h3⟩ := h;refine ⟨h1, fun j hj hx hy hjm => ?_, fun j hj hx hjm => h3 j hj hx (by omega)⟩;by_cases e : j = m
 · subst e; rw [h3 j hj hx (Nat.le_refl _), h0]; simp
 · exact h2 j hj hx hy (by omega)
theorem AddTo.all {k : Int} {xs ys cu : List Int} (h : AddTo k xs ys cu xs.length) (hl : xs.length = ys.length) : cu = addRow k xs ys := by
 obtain ⟨h1, h2, h3⟩ := h;refine List.ext_getElem (by simp [addRow, h1, <- hl]) fun j hj hj' => ?_;rw [h2 j hj (by omega) (by omega) (by omega)];simp [addRow]
set_option maxRecDepth 100000 in
set_option maxHeartbeats 4000000 in
theorem LAdd_c (bx by_ cx cy LA LB : Nat) (xs ys : List Int) (kv : Value) (k : Int) (w : World) (hX : RowN w bx xs) (hY : RowN w by_ ys) (hK : IntAt w LA kv k) (hne : bx ≠ by_) (hl : xs.length = ys.length)
 (hxL : ∀ x ∈ xs, wlen x.natAbs <= 17592186044415) (hyL : ∀ y ∈ ys, wlen y.natAbs <= LB) (hLab : LA + LB <= 17592186044415) (hlen : xs.length <= 4611686018427387903) :
 Calls Tryz.prog 71 #[.slice (some ⟨bx, 0, none⟩) xs.length cx, .slice (some ⟨by_, 0, none⟩) ys.length cy, kv] w fun e w' => e = .returned (.tuple #[]) /\ RowN w' bx (addRow k xs ys) /\ Chg (· = bx) w w' := by
 obtain ⟨kp, rfl⟩ := hK.parts;have HX := Lib.hid hX; clear hX;have HY := Lib.hid hY; clear hY;have HK := Lib.hid hK; clear hK;have HXL := Lib.hid hxL; clear hxL;have HYL := Lib.hid hyL; clear hyL;have Hl := Lib.hid hl; clear hl;go_enter Tryz.func71, Tryz.ntmps71;unfold av at *;go_wp2;have hb1 : Below w.heap.size w (w.alloc (.cells #[.bool kp.1, .slice kp.2.1 kp.2.2.1 kp.2.2.2] 37)) := (Below.refl _ _).alloc (Nat.le_refl _) _;have hr1 := RowAt.new w #[.bool kp.1, .slice kp.2.1 kp.2.2.1 kp.2.2.2] 37;generalize w.alloc (.cells #[.bool kp.1, .slice kp.2.1 kp.2.2.1 kp.2.2.2] 37) = w1 at *;have HB1 := Lib.hid (Chg.of_below (S := (· = bx)) hb1);have HX1 := Lib.hid (HX.out.below hb1);have HY1 := Lib.hid (HY.out.below hb1);have HK1 := Lib.hid (HK.out.below hb1);have HR1 := Lib.hid hr1;have hs1 : w.heap.size < w1.heap.size := hr1.lt;have hbx := HX.out.lt;have hby := HY.out.lt;clear hr1 hb1;go_loopw [9] (fun i wr => ∃ (m : Nat) (cu : List Int), m <= xs.length /\ i = .int .i64 (m : Int) /\ Hid (AddTo k xs ys cu m) /\ Hid (RowN wr bx cu) /\ Hid (RowN wr by_ ys) /\ Hid (RowAt wr w.heap.size 37 [.bool kp.1, .slice kp.2.1 kp.2.2.1 kp.2.2.2]) /\ Hid (IntAt wr LA (av kp) k) /\ Hid (Chg (· = bx) w wr)) (fun i _ => xs.length - (intOf i).toNat)
 case atStart => exact ⟨0, xs, Nat.zero_le _, rfl, AddTo.start .., HX1, HY1, HR1, HK1, HB1⟩
 case round =>
  obtain ⟨m, cu, hm, rfl, HA, hX, hY, hR, hK, hC⟩ := hrel;by_cases hml : m < xs.length
  · have hmy : m < ys.length := by have := Hl.out; omega
    have hmx : m < cu.length := by rw [HA.out.1]; exact hml
    have hm1 : (m : Int) < (ys.length : Int) := by omega
    have hm2 : (m : Int) < (xs.length : Int) := by omega
    obtain ⟨py, cy0, cy1, hny⟩ := hY.out.get hmy;have Hny := Lib.hid hny; clear hny;go_wp2_with fail
    refine (ISign_c (av py) ys[m] _ (Hny.out.int (by have := HYL.out _ (List.getElem_mem hmy); omega))).mono ?_;rintro e w2 ⟨rfl, hb2⟩;clear cy0 cy1;have X2 := Lib.hid (hX.out.below hb2);have Y2 := Lib.hid (hY.out.below hb2);have R2 := Lib.hid (hR.out.below hb2 hR.out.lt);have K2 := Lib.hid (hK.out.below hb2);have C2 := Lib.hid (hC.out.below hb2);have N2 := Lib.hid (Hny.out.below hb2);have hsw := hC.out.size;have hsw2 := hb2.size;have hswr := hR.out.lt;clear hX hY hR hK hC Hny hb2;by_cases h0 : ys[m] = 0
    · have hz0 : zsign ys[m] = 0 := zsign_beq.2 h0;rw [hz0];have H0 := Lib.hid h0;clear h0 hz0;go_wp2;go_roundw
      case rel => exact ⟨m + 1, cu, by omega, by go_num, HA.out.skip hml Hl.out H0.out, X2, Y2, R2, K2, C2⟩
      case measure => simp [intOf]; omega
    · have hn0 : ¬ zsign ys[m] = 0 := fun h => h0 (zsign_beq.1 h);obtain ⟨s, hs⟩ : ∃ s, zsign ys[m] = s := ⟨_, rfl⟩;rw [hs] at hn0 ⊢;have hb0 : (s != 0) = true := by simpa using hn0
      clear h0 hs;go_wp2;clear hb0 hn0;obtain ⟨px, cx0, cx1, hnx⟩ := X2.out.get hmx;obtain ⟨py, cy0, cy1, hny⟩ := Y2.out.get hmy;have ck0 : w2.cell? ⟨w.heap.size, 0, none⟩ = some (.bool kp.1) := R2.out.cell 0;have ck1 : w2.cell? ⟨w.heap.size, 1, none⟩ = some (.slice kp.2.1 kp.2.2.1 kp.2.2.2) := R2.out.cell 1;have hbx2 := X2.out.lt;have hby2 := Y2.out.lt;have hsk2 := R2.out.lt;have hxe : cu[m] = xs[m] := HA.out.2.2 m hmx hml (Nat.le_refl _);have hxw : wlen (cu[m]).natAbs <= 17592186044415 := by rw [hxe]; exact HXL.out _ (List.getElem_mem hml)
      have hyw : wlen (ys[m]).natAbs <= LB := HYL.out _ (List.getElem_mem hmy);have HXE := Lib.hid hxe; clear hxe;have Hnx := Lib.hid (hnx.int hxw); clear hnx;have Hny := Lib.hid (hny.int hyw); clear hny;clear N2;refine wp_region_K ⟨13, fun q_ => [18, 19, 20, 21, 22, 23, 24, 25, 26, 27, 28, 29, 30].getD q_ 0,
       fun q_ => [.val (.slice (some ⟨bx, 0, none⟩) xs.length cx), .val (.int .i64 (m : Int)), .val (.agg #[.bool kp.1, .slice kp.2.1 kp.2.2.1 kp.2.2.2]), .val (.slice (some ⟨by_, 0, none⟩) ys.length cy), .val (.int .i64 (m : Int)), .val (.pointer (some ⟨by_, m * 2, none⟩)), .val (.agg #[.bool py.1, .slice py.2.1 py.2.2.1 py.2.2.2]), .val (.slice (some ⟨bx, 0, none⟩) xs.length cx), .val (.int .i64 (m : Int)), .val (.pointer (some ⟨bx, m * 2, none⟩)), .val (.agg #[.bool px.1, .slice px.2.1 px.2.2.1 px.2.2.2]), .int 0 (k * ys[m] + cu[m]), .val (.pointer (some ⟨bx, m * 2, none⟩))].getD q_ .any,
       [],
       [(.agg #[.bool kp.1, .slice kp.2.1 kp.2.2.1 kp.2.2.2], .at_ LA k), (.agg #[.bool py.1, .slice py.2.1 py.2.2.1 py.2.2.2], .at_ LB ys[m]), (.agg #[.bool px.1, .slice px.2.1 px.2.2.1 px.2.2.2], .at_ 17592186044415 cu[m])],
       [],
       [], [(⟨w.heap.size, 0, none⟩, .bool kp.1), (⟨w.heap.size, 1, none⟩, .slice kp.2.1 kp.2.2.1 kp.2.2.2), (⟨by_, m * 2, none⟩, .bool py.1), (⟨by_, m * 2 + 1, none⟩, .slice py.2.1 py.2.2.1 py.2.2.2), (⟨bx, m * 2, none⟩, .bool px.1), (⟨bx, m * 2 + 1, none⟩, .slice px.2.1 px.2.2.1 px.2.2.2)], []⟩ [18, 19, 20, 21, 22, 23, 24, 25, 26, 27, 28, 29, 30] (w2.heap.size) (by kernel_rfl) (by kernel_rfl) (by kernel_rfl) (by kernel_rfl) (by kernel_rfl) ?_ ?_ ?_ ?_ ?_ ?_
      · exact allq (K2.out) (allq (Hny.out) (allq (Hnx.out) allz))
      · exact allz
      · exact allq (⟨ck0, by dsimp only; omega, allz⟩) (allq (⟨ck1, by dsimp only; omega, allz⟩) (allq (⟨cy0, by dsimp only; omega, allz⟩) (allq (⟨cy1, by dsimp only; omega, allz⟩) (allq (⟨cx0, by dsimp only; omega, allz⟩) (allq (⟨cx1, by dsimp only; omega, allz⟩) allz)))))
      · exact allz
      · refine allc ?_ (allc ?_ (allc ?_ (allc ?_ (allc ?_ (allc ?_ (allc ?_ (allc ?_ (allc ?_ (allc ?_ (allc ?_ (allc ?_ (allc ?_ alln))))))))))));any_goals (first | (intro L fx w' hJ hL hp hcl; have _ := hp0 hp (by decide +kernel); refine wps rfl fun K hK => ?_; go_simp; exact hJ.q hK (by kernel_rfl) rfl) | fail)
        · intro L fx w' hJ hL hp hcl;refine wps rfl fun K hK => ?_;have cl0 := (hJ.cells _ mm0).1;have cl1 := (hJ.cells _ mm1).1;try dsimp only at cl0 cl1
          go_simp;exact hJ.q hK (by kernel_rfl) rfl
        · intro L fx w' hJ hL hp hcl;have e3 := hJ.pt 3 21 (.slice (some ⟨by_, 0, none⟩) ys.length cy) rfl rfl rfl (hp 3 (by decide));rw [e3] at hJ ⊢; clear e3;have e4 := hJ.pt 4 22 (.int .i64 (m : Int)) rfl rfl rfl (hp 4 (by decide));rw [e4] at hJ ⊢; clear e4;refine wps rfl fun K hK => ?_;go_simp;exact hJ.q hK (by kernel_rfl) rfl
        · intro L fx w' hJ hL hp hcl;have e5 := hJ.pt 5 23 (.pointer (some ⟨by_, m * 2, none⟩)) rfl rfl rfl (hp 5 (by decide));rw [e5] at hJ ⊢; clear e5;refine wps rfl fun K hK => ?_;have cl0 := (hJ.cells _ mm2).1;have cl1 := (hJ.cells _ mm3).1;try dsimp only at cl0 cl1
          go_simp;exact hJ.q hK (by kernel_rfl) rfl
        · intro L fx w' hJ hL hp hcl;have e7 := hJ.pt 7 25 (.slice (some ⟨bx, 0, none⟩) xs.length cx) rfl rfl rfl (hp 7 (by decide));rw [e7] at hJ ⊢; clear e7;have e8 := hJ.pt 8 26 (.int .i64 (m : Int)) rfl rfl rfl (hp 8 (by decide));rw [e8] at hJ ⊢; clear e8;refine wps rfl fun K hK => ?_;go_simp;exact hJ.q hK (by kernel_rfl) rfl
        · intro L fx w' hJ hL hp hcl;have e9 := hJ.pt 9 27 (.pointer (some ⟨bx, m * 2, none⟩)) rfl rfl rfl (hp 9 (by decide));rw [e9] at hJ ⊢; clear e9;refine wps rfl fun K hK => ?_;have cl0 := (hJ.cells _ mm4).1;have cl1 := (hJ.cells _ mm5).1;try dsimp only at cl0 cl1
          go_simp;exact hJ.q hK (by kernel_rfl) rfl
        · intro L fx w' hJ hL hp hcl;have e2 := hJ.pt 2 20 (.agg #[.bool kp.1, .slice kp.2.1 kp.2.2.1 kp.2.2.2]) rfl rfl rfl (hp 2 (by decide));rw [e2] at hJ ⊢; clear e2;have e6 := hJ.pt 6 24 (.agg #[.bool py.1, .slice py.2.1 py.2.2.1 py.2.2.2]) rfl rfl rfl (hp 6 (by decide));rw [e6] at hJ ⊢; clear e6;have e10 := hJ.pt 10 28 (.agg #[.bool px.1, .slice px.2.1 px.2.2.1 px.2.2.2]) rfl rfl rfl (hp 10 (by decide));rw [e10] at hJ ⊢; clear e10;refine wps rfl fun K hK => ?_;go_simp;go_at_call 85;refine (IMulAdd_c _ _ _ k ys[m] cu[m] LA LB _ (show IntAt w' (LA) (.agg #[.bool kp.1, .slice kp.2.1 kp.2.2.1 kp.2.2.2]) (k) from hJ.base _ mm0) (show IntAt w' (LB) (.agg #[.bool py.1, .slice py.2.1 py.2.2.1 py.2.2.2]) (ys[m]) from hJ.base _ mm1) (show IntAt w' (17592186044415) (.agg #[.bool px.1, .slice px.2.1 px.2.2.1 px.2.2.2]) (cu[m]) from hJ.base _ mm2) hLab).mono ?_;rintro e w4 ⟨⟨v5, rfl, h5⟩, hb4⟩;try dsimp only
          exact hK _ _ ⟨_, by kernel_rfl, hJ.gC 11 rfl (by kernel_rfl) hb4 (OwnI.mono h5 (Nat.zero_le _)) (by omega)⟩
        · intro L fx w' hJ hL hp hcl;have e0 := hJ.pt 0 18 (.slice (some ⟨bx, 0, none⟩) xs.length cx) rfl rfl rfl (hp 0 (by decide));rw [e0] at hJ ⊢; clear e0;have e1 := hJ.pt 1 19 (.int .i64 (m : Int)) rfl rfl rfl (hp 1 (by decide));rw [e1] at hJ ⊢; clear e1;refine wps rfl fun K hK => ?_;go_simp;exact hJ.q hK (by kernel_rfl) rfl
      · intro L x' w3 hL hJ;have hfr : Below w2.drew.heap.size w2.drew w3 := hJ.fr;have e11 : OwnI w3 0 (x' 29) (k * ys[m] + cu[m]) := hJ.slot 11 (by show 11 < 13; decide) (hL 11 (by show 11 < 13; decide));have e12 : x' 30 = .pointer (some ⟨bx, m * 2, none⟩) := hJ.slot 12 (by show 12 < 13; decide) (hL 12 (by show 12 < 13; decide));obtain ⟨pz, hpz⟩ := NumAt.parts e11.num;rw [hpz] at e11;unfold av at hpz;rw [patchX (x := x') (d := 29) hpz];rw [patchX (x := updX x' 29 (.agg #[.bool pz.1, .slice pz.2.1 pz.2.2.1 pz.2.2.2])) (d := 30) (v := .pointer (some ⟨bx, m * 2, none⟩)) e12];clear hJ hL;have X3 := Lib.hid (RowN.below (w := w2.drew) X2.out hfr);have Y3 := Lib.hid (RowN.below (w := w2.drew) Y2.out hfr);have R3 := Lib.hid (RowAt.below (w := w2.drew) R2.out hfr R2.out.lt);have K3 := Lib.hid (IntAt.below (w := w2.drew) K2.out hfr);have C3 := Lib.hid (C2.out.drew.below hfr);obtain ⟨pq, q0, q1, _⟩ := X3.out.get hmx;have q2 := X3.out.free (m * 2);have q3 := X3.out.free (m * 2 + 1);refine wps rfl fun K hK => ?_;go_simp;refine hK _ _ ⟨⟨updX (updX x' 29 (.agg #[.bool pz.1, .slice pz.2.1 pz.2.2.1 pz.2.2.2])) 30 (.pointer (some ⟨bx, m * 2, none⟩)), by kernel_rfl⟩, ?_⟩;clear hK q0 q1 q2 q3;go_wp2;go_roundw
        case rel =>
         refine ⟨m + 1, _, by omega, by go_num, ?_, Lib.hid (X3.out.set m e11.num), Lib.hid (X3.out.keepRow Y3.out (fun e => hne e.symm) m pz), Lib.hid ((R3.out.other (by show w.heap.size ≠ bx; omega) _).other (by show w.heap.size ≠ bx; omega) _), Lib.hid (X3.out.keepInt K3.out m pz), Lib.hid ((C3.out.set rfl _).set rfl _)⟩;rw [HXE.out];exact HA.out.next hml Hl.out
        case measure => simp [intOf]; omega
  · obtain rfl : m = xs.length := by omega
    have he := HA.out.all Hl.out;have HE := Lib.hid he;clear he;go_wp2;refine bodyPost_end (results_none (by kernel_rfl) _ _ _) rfl ?_;rw [<- HE.out];exact ⟨rfl, hX.out, hC.out⟩
def CV.cells (cs : List Value) : CV := CV.free (fun _ v => v = cs) (fun h _ => h) (fun h _ _ _ _ _ _ => h)
def mixRow (a b : Int) (xs ys : List Int) : List Int := List.zipWith (fun u v => a * u + b * v) xs ys
def MixTo (a b : Int) (xs ys zs cu : List Int) (m : Nat) : Prop := cu.length = zs.length /\ (∀ j (h : j < cu.length) (h1 : j < xs.length) (h2 : j < ys.length), j < m -> cu[j] = a * xs[j] + b * ys[j]) /\ (∀ j (h : j < cu.length) (h1 : j < zs.length), m <= j -> cu[j] = zs[j])
theorem MixTo.start (a b : Int) (xs ys zs : List Int) : MixTo a b xs ys zs zs 0 := ⟨rfl, fun _ _ _ _ h => by omega, fun _ _ _ _ => rfl⟩
theorem MixTo.next {a b : Int} {xs ys zs cu : List Int} {m : Nat} (h : MixTo a b xs ys zs cu m) (hx : m < xs.length) (hy : m < ys.length) : MixTo a b xs ys zs (cu.set m (a * xs[m] + b * ys[m])) (m + 1) := by
 obtain ⟨h1, h2, h3⟩ := h;refine ⟨by simpa using h1, fun j hj hx hy hjm => ?_, fun j hj hx hjm => ?_⟩
 · rw [List.getElem_set];split
   · rename_i e; subst e; rfl
   · exact h2 j (by simpa using hj) hx hy (by omega)
 · rw [List.getElem_set, if_neg (by omega)];exact h3 j (by simpa using hj) hx (by omega)
theorem MixTo.all {a b : Int} {xs ys zs cu : List Int} (h : MixTo a b xs ys zs cu xs.length) (hl : xs.length = ys.length) (hz : xs.length = zs.length) : cu = mixRow a b xs ys := by
 obtain ⟨h1, h2, h3⟩ := h;refine List.ext_getElem (by simp [mixRow, h1, <- hl, hz]) fun j hj hj' => ?_;rw [h2 j hj (by omega) (by omega) (by omega)];simp [mixRow]
set_option maxRecDepth 100000 in
set_option maxHeartbeats 4000000 in
theorem LMix_c (bx by_ cx cy LA LB : Nat) (xs ys : List Int) (p q r s : P4) (a b c d : Int) (w : World) (hX : RowN w bx xs) (hY : RowN w by_ ys) (hA : IntAt w LA (av p) a) (hB : IntAt w LA (av q) b) (hC : IntAt w LA (av r) c) (hD : IntAt w LA (av s) d) (hne : bx ≠ by_) (hl : xs.length = ys.length)
 (hxL : ∀ x ∈ xs, wlen x.natAbs <= LB) (hyL : ∀ y ∈ ys, wlen y.natAbs <= LB) (hLab : LA + LB <= 17592186044415) (hlen : xs.length <= 4611686018427387903) :
 Calls Tryz.prog 73 #[.slice (some ⟨bx, 0, none⟩) xs.length cx, .slice (some ⟨by_, 0, none⟩) ys.length cy, .agg #[.bool p.1, .slice p.2.1 p.2.2.1 p.2.2.2, .bool q.1, .slice q.2.1 q.2.2.1 q.2.2.2, .bool r.1, .slice r.2.1 r.2.2.1 r.2.2.2, .bool s.1, .slice s.2.1 s.2.2.1 s.2.2.2]] w
  fun e w' => e = .returned (.tuple #[]) /\ RowN w' bx (mixRow a b xs ys) /\ RowN w' by_ (mixRow c d xs ys) /\ Chg (fun k => k = bx ∨ k = by_) w w' := by
 have HX := Lib.hid hX; clear hX;have HY := Lib.hid hY; clear hY;have HA := Lib.hid hA; clear hA;have HB := Lib.hid hB; clear hB;have HC := Lib.hid hC; clear hC;have HD := Lib.hid hD; clear hD;have HXL := Lib.hid hxL; clear hxL;have HYL := Lib.hid hyL; clear hyL;have Hl := Lib.hid hl; clear hl;go_enter Tryz.func73, Tryz.ntmps73;unfold av at *;go_wp2;have hb1 : Below w.heap.size w (w.alloc (.cells #[.bool p.1, .slice p.2.1 p.2.2.1 p.2.2.2, .bool q.1, .slice q.2.1 q.2.2.1 q.2.2.2, .bool r.1, .slice r.2.1 r.2.2.1 r.2.2.2, .bool s.1, .slice s.2.1 s.2.2.1 s.2.2.2] 106)) := (Below.refl _ _).alloc (Nat.le_refl _) _;have hr1 := RowAt.new w #[.bool p.1, .slice p.2.1 p.2.2.1 p.2.2.2, .bool q.1, .slice q.2.1 q.2.2.1 q.2.2.2, .bool r.1, .slice r.2.1 r.2.2.1 r.2.2.2, .bool s.1, .slice s.2.1 s.2.2.1 s.2.2.2] 106;generalize w.alloc (.cells #[.bool p.1, .slice p.2.1 p.2.2.1 p.2.2.2, .bool q.1, .slice q.2.1 q.2.2.1 q.2.2.2, .bool r.1, .slice r.2.1 r.2.2.1 r.2.2.2, .bool s.1, .slice s.2.1 s.2.2.1 s.2.2.2] 106) = w1 at *;have HB1 := Lib.hid (Chg.of_below (S := (fun k => k = bx ∨ k = by_)) hb1);have HX1 := Lib.hid (HX.out.below hb1);have HY1 := Lib.hid (HY.out.below hb1);have HI1 : Hid (IntAt w1 LA (av p) a /\ IntAt w1 LA (av q) b /\ IntAt w1 LA (av r) c /\ IntAt w1 LA (av s) d) := Lib.hid ⟨HA.out.below hb1, HB.out.below hb1, HC.out.below hb1, HD.out.below hb1⟩;have HR1 := Lib.hid hr1;have hs1 : w.heap.size < w1.heap.size := hr1.lt;have hbx := HX.out.lt;have hby := HY.out.lt;clear hr1 hb1;go_loopw [11] (fun i wr => ∃ (m : Nat) (cu cv : List Int), m <= xs.length /\ i = .int .i64 (m : Int) /\ Hid (MixTo a b xs ys xs cu m) /\ Hid (MixTo c d xs ys ys cv m) /\ Hid (RowN wr bx cu) /\ Hid (RowN wr by_ cv) /\ Hid (RowAt wr w.heap.size 106 [.bool p.1, .slice p.2.1 p.2.2.1 p.2.2.2, .bool q.1, .slice q.2.1 q.2.2.1 q.2.2.2, .bool r.1, .slice r.2.1 r.2.2.1 r.2.2.2, .bool s.1, .slice s.2.1 s.2.2.1 s.2.2.2]) /\ Hid (IntAt wr LA (av p) a /\ IntAt wr LA (av q) b /\ IntAt wr LA (av r) c /\ IntAt wr LA (av s) d) /\ Hid (Chg (fun k => k = bx ∨ k = by_) w wr)) (fun i _ => xs.length - (intOf i).toNat)
 case atStart => exact ⟨0, xs, ys, Nat.zero_le _, rfl, MixTo.start .., MixTo.start .., HX1, HY1, HR1, HI1, HB1⟩
 case round =>
  obtain ⟨m, cu, cv, hm, rfl, HU, HV, hX, hY, hR, hI, hC⟩ := hrel;by_cases hml : m < xs.length
  · have hmy : m < ys.length := by have := Hl.out; omega
    have hmx : m < cu.length := by rw [HU.out.1]; exact hml
    have hmv : m < cv.length := by rw [HV.out.1]; exact hmy
    have hm1 : (m : Int) < (ys.length : Int) := by omega
    have hm2 : (m : Int) < (xs.length : Int) := by omega
    go_wp2;obtain ⟨pu, cu0, cu1, hnu⟩ := hX.out.get hmx;obtain ⟨pv, cv0, cv1, hnv⟩ := hY.out.get hmv;have hxe : cu[m] = xs[m] := HU.out.2.2 m hmx hml (Nat.le_refl _);have hye : cv[m] = ys[m] := HV.out.2.2 m hmv hmy (Nat.le_refl _);rw [hxe] at hnu;rw [hye] at hnv;have hxw : wlen (xs[m]).natAbs <= LB := HXL.out _ (List.getElem_mem hml);have hyw : wlen (ys[m]).natAbs <= LB := HYL.out _ (List.getElem_mem hmy);have Hnu := Lib.hid (hnu.int hxw);have Hnv := Lib.hid (hnv.int hyw);clear hxe hye hnu hnv;have hbx2 := hX.out.lt;have hby2 := hY.out.lt;have hsk2 := hR.out.lt;have hswr := hC.out.size;refine wp_region_J ⟨12, fun q_ => [14, 15, 16, 17, 18, 19, 20, 21, 7, 8, 1010, 1011].getD q_ 0,
     fun q_ => [.val (.slice (some ⟨bx, 0, none⟩) xs.length cx), .val (.int .i64 (m : Int)), .val (.pointer (some ⟨bx, m * 2, none⟩)), .val (.agg #[.bool pu.1, .slice pu.2.1 pu.2.2.1 pu.2.2.2]), .val (.slice (some ⟨by_, 0, none⟩) ys.length cy), .val (.int .i64 (m : Int)), .val (.pointer (some ⟨by_, m * 2, none⟩)), .val (.agg #[.bool pv.1, .slice pv.2.1 pv.2.2.1 pv.2.2.2]), .ptr wr.heap.size 37 2, .ptr wr.heap.size 37 2, .any, .any].getD q_ .any,
     [],
     [],
     [],
     [(10, 7, 37, .cells [.bool pu.1, .slice pu.2.1 pu.2.2.1 pu.2.2.2]), (11, 8, 37, .cells [.bool pv.1, .slice pv.2.1 pv.2.2.1 pv.2.2.2])], [(⟨bx, m * 2, none⟩, .bool pu.1), (⟨bx, m * 2 + 1, none⟩, .slice pu.2.1 pu.2.2.1 pu.2.2.2), (⟨by_, m * 2, none⟩, .bool pv.1), (⟨by_, m * 2 + 1, none⟩, .slice pv.2.1 pv.2.2.1 pv.2.2.2)], [(8, 7), (9, 8)]⟩ [14, 15, 16, 17, 18, 19, 20, 21, 7, 8] (wr.heap.size) (by kernel_rfl) (by kernel_rfl) (by kernel_rfl) (by kernel_rfl) ?_ ?_ ?_ ?_ ?_ ?_
    · exact allz
    · exact allz
    · exact allq (⟨cu0, by dsimp only; omega, allz⟩) (allq (⟨cu1, by dsimp only; omega, allz⟩) (allq (⟨cv0, by dsimp only; omega, allz⟩) (allq (⟨cv1, by dsimp only; omega, allz⟩) allz)))
    · exact allz
    · refine allc ?_ (allc ?_ (allc ?_ (allc ?_ (allc ?_ (allc ?_ (allc ?_ (allc ?_ (allc ?_ (allc ?_ (allc ?_ (allc ?_ alln)))))))))));any_goals (first | (intro L fx w' hJ hL hp hcl; have _ := hp0 hp (by decide +kernel); refine wps rfl fun K hK => ?_; go_simp; exact hJ.q hK (by kernel_rfl) rfl) | fail)
      · intro L fx w' hJ hL hp hcl;have e0 := hJ.pt 0 14 (.slice (some ⟨bx, 0, none⟩) xs.length cx) rfl rfl rfl (hp 0 (by decide));rw [e0] at hJ ⊢; clear e0;have e1 := hJ.pt 1 15 (.int .i64 (m : Int)) rfl rfl rfl (hp 1 (by decide));rw [e1] at hJ ⊢; clear e1;refine wps rfl fun K hK => ?_;go_simp;exact hJ.q hK (by kernel_rfl) rfl
      · intro L fx w' hJ hL hp hcl;have e2 := hJ.pt 2 16 (.pointer (some ⟨bx, m * 2, none⟩)) rfl rfl rfl (hp 2 (by decide));rw [e2] at hJ ⊢; clear e2;refine wps rfl fun K hK => ?_;have cl0 := (hJ.cells _ mm0).1;have cl1 := (hJ.cells _ mm1).1;try dsimp only at cl0 cl1
        go_simp;exact hJ.q hK (by kernel_rfl) rfl
      · intro L fx w' hJ hL hp hcl;have e4 := hJ.pt 4 18 (.slice (some ⟨by_, 0, none⟩) ys.length cy) rfl rfl rfl (hp 4 (by decide));rw [e4] at hJ ⊢; clear e4;have e5 := hJ.pt 5 19 (.int .i64 (m : Int)) rfl rfl rfl (hp 5 (by decide));rw [e5] at hJ ⊢; clear e5;refine wps rfl fun K hK => ?_;go_simp;exact hJ.q hK (by kernel_rfl) rfl
      · intro L fx w' hJ hL hp hcl;have e6 := hJ.pt 6 20 (.pointer (some ⟨by_, m * 2, none⟩)) rfl rfl rfl (hp 6 (by decide));rw [e6] at hJ ⊢; clear e6;refine wps rfl fun K hK => ?_;have cl0 := (hJ.cells _ mm2).1;have cl1 := (hJ.cells _ mm3).1;try dsimp only at cl0 cl1
        go_simp;exact hJ.q hK (by kernel_rfl) rfl
      · intro L fx w' hJ hL hp hcl;have hg0 : wr.heap.size <= w'.heap.size := Nat.le_trans (by omega : wr.heap.size <= wr.heap.size) hJ.size;refine wps rfl fun K hK => ?_;go_simp;exact hK _ _ ⟨_, by kernel_rfl, hJ.grow 8 (by show 8 < 12; decide) _ (by kernel_rfl) (by kernel_rfl) (by intro t ht; rcases mc ht with rfl | ht; exact ⟨by show 10 ≠ 8; decide, fun _ => by cases hh : L 10 with | false => rfl | true => have := hcl 10 (by show 10 < 12; decide) hh 8 (by decide); rw [hL] at this; cases this⟩; rcases mc ht with rfl | ht; exact ⟨by show 11 ≠ 8; decide, fun h => absurd (show 8 = 7 from h) (by decide)⟩; cases ht) (by intro p hp; rcases mc hp with rfl | hp; exact ⟨⟨fun _ => rfl, fun _ => rfl⟩, fun _ q hq hne hLq => (by rcases mc hq with rfl | hq; exact absurd rfl hne; rcases mc hq with rfl | hq; (obtain ⟨g9, cs9, hx9, _, hr9, _⟩ := hJ.slot 9 (by show 9 < 12; decide) hLq; have hx9 : fx 8 = _ := hx9; show _ ≠ fx 8; rw [hx9]; intro e9; injection e9 with e9; injection e9 with e9; injection e9 with e9; exact absurd e9 (Nat.ne_of_gt hr9.lt)); cases hq)⟩; rcases mc hp with rfl | hp; exact ⟨⟨fun h => absurd (show 9 = 8 from h) (by decide), fun h => absurd (show 8 = 7 from h) (by decide)⟩, fun h => absurd (show 9 = 8 from h) (by decide)⟩; cases hp) ((Below.refl _ _).alloc (Nat.le_refl _) _) ⟨w'.heap.size, _, rfl, hJ.size, RowAt.new _ _ _, NoW.two _ _ _ _, rfl⟩ hg0⟩
      · intro L fx w' hJ hL hp hcl;have hg0 : wr.heap.size <= w'.heap.size := Nat.le_trans (by omega : wr.heap.size <= wr.heap.size) hJ.size;refine wps rfl fun K hK => ?_;go_simp;exact hK _ _ ⟨_, by kernel_rfl, hJ.grow 9 (by show 9 < 12; decide) _ (by kernel_rfl) (by kernel_rfl) (by intro t ht; rcases mc ht with rfl | ht; exact ⟨by show 10 ≠ 9; decide, fun h => absurd (show 7 = 8 from h) (by decide)⟩; rcases mc ht with rfl | ht; exact ⟨by show 11 ≠ 9; decide, fun _ => by cases hh : L 11 with | false => rfl | true => have := hcl 11 (by show 11 < 12; decide) hh 9 (by decide); rw [hL] at this; cases this⟩; cases ht) (by intro p hp; rcases mc hp with rfl | hp; exact ⟨⟨fun h => absurd (show 8 = 9 from h) (by decide), fun h => absurd (show 7 = 8 from h) (by decide)⟩, fun h => absurd (show 8 = 9 from h) (by decide)⟩; rcases mc hp with rfl | hp; exact ⟨⟨fun _ => rfl, fun _ => rfl⟩, fun _ q hq hne hLq => (by rcases mc hq with rfl | hq; (obtain ⟨g9, cs9, hx9, _, hr9, _⟩ := hJ.slot 8 (by show 8 < 12; decide) hLq; have hx9 : fx 7 = _ := hx9; show _ ≠ fx 7; rw [hx9]; intro e9; injection e9 with e9; injection e9 with e9; injection e9 with e9; exact absurd e9 (Nat.ne_of_gt hr9.lt)); rcases mc hq with rfl | hq; exact absurd rfl hne; cases hq)⟩; cases hp) ((Below.refl _ _).alloc (Nat.le_refl _) _) ⟨w'.heap.size, _, rfl, hJ.size, RowAt.new _ _ _, NoW.two _ _ _ _, rfl⟩ hg0⟩
      · intro L fx w' hJ hL hp hcl;have e8 := hJ.slot 8 (by show 8 < 12; decide) (hp 8 (by decide));have e3 := hJ.pt 3 17 (.agg #[.bool pu.1, .slice pu.2.1 pu.2.2.1 pu.2.2.2]) rfl rfl rfl (hp 3 (by decide));rw [e3] at hJ ⊢; clear e3;obtain ⟨g, cs, hx, hgB, hr0, hn0, hl0⟩ := e8;obtain ⟨z0, z1, rfl⟩ : ∃ z0 z1, cs = [z0, z1] := list2 hl0;have hf0 := RowAt.free hr0 0;have hc0 := RowAt.cell hr0 0;have hf1 := RowAt.free hr0 1;have hc1 := RowAt.cell hr0 1;try dsimp only at hf0 hc0 hf1 hc1
        have hx1 := hx;rw [patchX (x := (updX fx 17 (.agg #[.bool pu.1, .slice pu.2.1 pu.2.2.1 pu.2.2.2]))) (d := 7) hx] at hJ ⊢;refine wps rfl fun K hK => ?_;go_simp;exact hK _ _ ⟨_, by kernel_rfl, hJ.storeNew (us := [.bool pu.1, .slice pu.2.1 pu.2.2.1 pu.2.2.2]) 10 7 _ _ (by show 10 < 12; decide) rfl mm0 (by intro t ht h; rcases mc ht with rfl | ht; rfl; rcases mc ht with rfl | ht; exact absurd (show 11 = 10 from h) (by decide); cases ht) (by intro t ht hne hLt; rcases mc ht with rfl | ht; exact absurd rfl hne; rcases mc ht with rfl | ht; exact hJ.apart (9, 8) mm1 (8, 7) mm0 (by show 9 ≠ 8; decide) (hcl 11 (by show 11 < 12; decide) hLt 9 (by decide)) (hp 8 (by decide)); cases ht) (by kernel_rfl) (by kernel_rfl) (by decide) (by rfl) hgB hr0 hn0 rfl (NoW.two _ _ _ _) rfl (by omega)⟩
      · intro L fx w' hJ hL hp hcl;have e9 := hJ.slot 9 (by show 9 < 12; decide) (hp 9 (by decide));have e7 := hJ.pt 7 21 (.agg #[.bool pv.1, .slice pv.2.1 pv.2.2.1 pv.2.2.2]) rfl rfl rfl (hp 7 (by decide));rw [e7] at hJ ⊢; clear e7;obtain ⟨g, cs, hx, hgB, hr0, hn0, hl0⟩ := e9;obtain ⟨z0, z1, rfl⟩ : ∃ z0 z1, cs = [z0, z1] := list2 hl0;have hf0 := RowAt.free hr0 0;have hc0 := RowAt.cell hr0 0;have hf1 := RowAt.free hr0 1;have hc1 := RowAt.cell hr0 1;try dsimp only at hf0 hc0 hf1 hc1
        have hx1 := hx;rw [patchX (x := (updX fx 21 (.agg #[.bool pv.1, .slice pv.2.1 pv.2.2.1 pv.2.2.2]))) (d := 8) hx] at hJ ⊢;refine wps rfl fun K hK => ?_;go_simp;exact hK _ _ ⟨_, by kernel_rfl, hJ.storeNew (us := [.bool pv.1, .slice pv.2.1 pv.2.2.1 pv.2.2.2]) 11 8 _ _ (by show 11 < 12; decide) rfl mm1 (by intro t ht h; rcases mc ht with rfl | ht; exact absurd (show 10 = 11 from h) (by decide); rcases mc ht with rfl | ht; rfl; cases ht) (by intro t ht hne hLt; rcases mc ht with rfl | ht; exact hJ.apart (8, 7) mm0 (9, 8) mm1 (by show 8 ≠ 9; decide) (hcl 10 (by show 10 < 12; decide) hLt 8 (by decide)) (hp 9 (by decide)); rcases mc ht with rfl | ht; exact absurd rfl hne; cases ht) (by kernel_rfl) (by kernel_rfl) (by decide) (by rfl) hgB hr0 hn0 rfl (NoW.two _ _ _ _) rfl (by omega)⟩
    · intro L x' w3 hL hJ;have hfr : Below wr.drew.heap.size wr.drew w3 := hJ.fr;obtain ⟨g7, cs7, hx7, hg7, hr7, hcs7⟩ := hJ.new _ mm0 (hL 10 (by show 10 < 12; decide));obtain ⟨g8, cs8, hx8, hg8, hr8, hcs8⟩ := hJ.new _ mm1 (hL 11 (by show 11 < 12; decide));obtain rfl : cs7 = _ := hcs7;obtain rfl : cs8 = _ := hcs8;have hx7 : x' 7 = _ := hx7;have hx8 : x' 8 = _ := hx8;rw [patchX (x := x') (d := 7) hx7];rw [patchX (x := updX x' 7 (.pointer (some ⟨g7, 0, none⟩))) (d := 8) (v := .pointer (some ⟨g8, 0, none⟩)) hx8];have hg7 : wr.heap.size <= g7 := hg7;have hg8 : wr.heap.size <= g8 := hg8;have RG : Hid (RowAt w3 g7 37 [.bool pu.1, .slice pu.2.1 pu.2.2.1 pu.2.2.2]) := Lib.hid hr7;have RH : Hid (RowAt w3 g8 37 [.bool pv.1, .slice pv.2.1 pv.2.2.1 pv.2.2.2]) := Lib.hid hr8;clear hJ hL hx7 hx8 hr7 hr8 cu0 cu1 cv0 cv1;simp only [pN, Nat.reduceEqDiff, ↓reduceIte];go_wp2;have X3 := Lib.hid (RowN.below (w := wr.drew) hX.out hfr);have Y3 := Lib.hid (RowN.below (w := wr.drew) hY.out hfr);have R3 := Lib.hid (RowAt.below (w := wr.drew) hR.out hfr hR.out.lt);have A3 := Lib.hid (IntAt.below (w := wr.drew) hI.out.1 hfr);have B3 := Lib.hid (IntAt.below (w := wr.drew) hI.out.2.1 hfr);have D3 := Lib.hid (IntAt.below (w := wr.drew) hI.out.2.2.1 hfr);have E3 := Lib.hid (IntAt.below (w := wr.drew) hI.out.2.2.2 hfr);have U3 := Lib.hid (IntAt.below (w := wr.drew) Hnu.out hfr);have V3 := Lib.hid (IntAt.below (w := wr.drew) Hnv.out hfr);have C3 := Lib.hid (hC.out.drew.below hfr);have hs3 := hfr.size;have hs3' : wr.drew.heap.size = wr.heap.size := rfl;have hg7' := RG.out.lt;have hg8' := RH.out.lt;clear hX hY hR hI hC Hnu Hnv hfr;have hwb : wlen b.natAbs <= LA := HB.out.wlen;have hwd : wlen d.natAbs <= LA := HD.out.wlen;refine wp_region_K ⟨13, fun q_ => [22, 23, 24, 25, 26, 27, 28, 29, 30, 31, 32, 33, 34].getD q_ 0,
       fun q_ => [.val (.slice (some ⟨bx, 0, none⟩) xs.length cx), .val (.int .i64 (m : Int)), .val (.pointer (some ⟨w.heap.size, 0, none⟩)), .val (.pointer (some ⟨w.heap.size, 0, none⟩)), .val (.agg #[.bool p.1, .slice p.2.1 p.2.2.1 p.2.2.2]), .val (.agg #[.bool pu.1, .slice pu.2.1 pu.2.2.1 pu.2.2.2]), .val (.pointer (some ⟨w.heap.size, 0, none⟩)), .val (.pointer (some ⟨w.heap.size, 2, none⟩)), .val (.agg #[.bool q.1, .slice q.2.1 q.2.2.1 q.2.2.2]), .val (.agg #[.bool pv.1, .slice pv.2.1 pv.2.2.1 pv.2.2.2]), .int 0 (b * ys[m]), .int 0 (a * xs[m] + b * ys[m]), .val (.pointer (some ⟨bx, m * 2, none⟩))].getD q_ .any,
       [],
       [(.agg #[.bool p.1, .slice p.2.1 p.2.2.1 p.2.2.2], .at_ LA a), (.agg #[.bool q.1, .slice q.2.1 q.2.2.1 q.2.2.2], .at_ LA b), (.agg #[.bool pu.1, .slice pu.2.1 pu.2.2.1 pu.2.2.2], .at_ LB xs[m]), (.agg #[.bool pv.1, .slice pv.2.1 pv.2.2.1 pv.2.2.2], .at_ LB ys[m])],
       [(w.heap.size, 106, [.bool p.1, .slice p.2.1 p.2.2.1 p.2.2.2, .bool q.1, .slice q.2.1 q.2.2.1 q.2.2.2, .bool r.1, .slice r.2.1 r.2.2.1 r.2.2.2, .bool s.1, .slice s.2.1 s.2.2.1 s.2.2.2]), (g7, 37, [.bool pu.1, .slice pu.2.1 pu.2.2.1 pu.2.2.2]), (g8, 37, [.bool pv.1, .slice pv.2.1 pv.2.2.1 pv.2.2.2])],
       [], [], []⟩ [22, 23, 24, 25, 26, 27, 28, 29, 30, 31, 32, 33, 34] (w3.heap.size) (by kernel_rfl) (by kernel_rfl) (by kernel_rfl) (by kernel_rfl) (by kernel_rfl) ?_ ?_ ?_ ?_ ?_ ?_
      · exact allq (A3.out) (allq (B3.out) (allq (U3.out) (allq (V3.out) allz)))
      · exact allq (⟨R3.out, (R3.out).lt, allz⟩) (allq (⟨RG.out, (RG.out).lt, allz⟩) (allq (⟨RH.out, (RH.out).lt, allz⟩) allz))
      · exact allz
      · exact allz
      · refine allc ?_ (allc ?_ (allc ?_ (allc ?_ (allc ?_ (allc ?_ (allc ?_ (allc ?_ (allc ?_ (allc ?_ (allc ?_ (allc ?_ (allc ?_ alln))))))))))));any_goals (first | (intro L fx w' hJ hL hp hcl; have _ := hp0 hp (by decide +kernel); refine wps rfl fun K hK => ?_; go_simp; exact hJ.q hK (by kernel_rfl) rfl) | fail)
        · intro L fx w' hJ hL hp hcl;have e2 := hJ.pt 2 24 (.pointer (some ⟨w.heap.size, 0, none⟩)) rfl rfl rfl (hp 2 (by decide));rw [e2] at hJ ⊢; clear e2;refine wps rfl fun K hK => ?_;go_simp;exact hJ.q hK (by kernel_rfl) rfl
        · intro L fx w' hJ hL hp hcl;have e3 := hJ.pt 3 25 (.pointer (some ⟨w.heap.size, 0, none⟩)) rfl rfl rfl (hp 3 (by decide));rw [e3] at hJ ⊢; clear e3;refine wps rfl fun K hK => ?_;have rw0 := (hJ.rows _ mm0).1;have cl0 : w'.cell? ⟨w.heap.size, 0, none⟩ = some (.bool p.1) := rw0.cell 0;have cl1 : w'.cell? ⟨w.heap.size, 1, none⟩ = some (.slice p.2.1 p.2.2.1 p.2.2.2) := rw0.cell 1;go_simp;exact hJ.q hK (by kernel_rfl) rfl
        · intro L fx w' hJ hL hp hcl;refine wps rfl fun K hK => ?_;have rw0 := (hJ.rows _ mm1).1;have cl0 : w'.cell? ⟨g7, 0, none⟩ = some (.bool pu.1) := rw0.cell 0;have cl1 : w'.cell? ⟨g7, 1, none⟩ = some (.slice pu.2.1 pu.2.2.1 pu.2.2.2) := rw0.cell 1;go_simp;exact hJ.q hK (by kernel_rfl) rfl
        · intro L fx w' hJ hL hp hcl;have e6 := hJ.pt 6 28 (.pointer (some ⟨w.heap.size, 0, none⟩)) rfl rfl rfl (hp 6 (by decide));rw [e6] at hJ ⊢; clear e6;refine wps rfl fun K hK => ?_;go_simp;exact hJ.q hK (by kernel_rfl) rfl
        · intro L fx w' hJ hL hp hcl;have e7 := hJ.pt 7 29 (.pointer (some ⟨w.heap.size, 2, none⟩)) rfl rfl rfl (hp 7 (by decide));rw [e7] at hJ ⊢; clear e7;refine wps rfl fun K hK => ?_;have rw0 := (hJ.rows _ mm0).1;have cl0 : w'.cell? ⟨w.heap.size, 2, none⟩ = some (.bool q.1) := rw0.cell 2;have cl1 : w'.cell? ⟨w.heap.size, 3, none⟩ = some (.slice q.2.1 q.2.2.1 q.2.2.2) := rw0.cell 3;go_simp;exact hJ.q hK (by kernel_rfl) rfl
        · intro L fx w' hJ hL hp hcl;refine wps rfl fun K hK => ?_;have rw0 := (hJ.rows _ mm2).1;have cl0 : w'.cell? ⟨g8, 0, none⟩ = some (.bool pv.1) := rw0.cell 0;have cl1 : w'.cell? ⟨g8, 1, none⟩ = some (.slice pv.2.1 pv.2.2.1 pv.2.2.2) := rw0.cell 1;go_simp;exact hJ.q hK (by kernel_rfl) rfl
        · intro L fx w' hJ hL hp hcl;have e8 := hJ.pt 8 30 (.agg #[.bool q.1, .slice q.2.1 q.2.2.1 q.2.2.2]) rfl rfl rfl (hp 8 (by decide));rw [e8] at hJ ⊢; clear e8;have e9 := hJ.pt 9 31 (.agg #[.bool pv.1, .slice pv.2.1 pv.2.2.1 pv.2.2.2]) rfl rfl rfl (hp 9 (by decide));rw [e9] at hJ ⊢; clear e9;refine wps rfl fun K hK => ?_;go_simp;go_at_call 86;refine (IMul_c _ _ b ys[m] LA LB _ (show IntAt w' (LA) (.agg #[.bool q.1, .slice q.2.1 q.2.2.1 q.2.2.2]) (b) from hJ.base _ mm1) (show IntAt w' (LB) (.agg #[.bool pv.1, .slice pv.2.1 pv.2.2.1 pv.2.2.2]) (ys[m]) from hJ.base _ mm3) hLab).mono ?_;rintro e w4 ⟨⟨v5, rfl, h5⟩, hb4⟩;try dsimp only
          exact hK _ _ ⟨_, by kernel_rfl, hJ.gC 10 rfl (by kernel_rfl) hb4 (OwnI.mono h5 (Nat.zero_le _)) (by omega)⟩
        · intro L fx w' hJ hL hp hcl;have e10 := hJ.slot 10 (by show 10 < 13; decide) (hp 10 (by decide));have e4 := hJ.pt 4 26 (.agg #[.bool p.1, .slice p.2.1 p.2.2.1 p.2.2.2]) rfl rfl rfl (hp 4 (by decide));rw [e4] at hJ ⊢; clear e4;have e5 := hJ.pt 5 27 (.agg #[.bool pu.1, .slice pu.2.1 pu.2.2.1 pu.2.2.2]) rfl rfl rfl (hp 5 (by decide));rw [e5] at hJ ⊢; clear e5;refine wps rfl fun K hK => ?_;go_simp;go_at_call 85;refine (IMulAdd_c _ _ _ a xs[m] (b * ys[m]) LA LB _ (show IntAt w' (LA) (.agg #[.bool p.1, .slice p.2.1 p.2.2.1 p.2.2.2]) (a) from hJ.base _ mm0) (show IntAt w' (LB) (.agg #[.bool pu.1, .slice pu.2.1 pu.2.2.1 pu.2.2.2]) (xs[m]) from hJ.base _ mm2) (OwnI.int (show OwnI w' _ (fx 32) _ from e10) (by rw [Int.natAbs_mul]; exact Nat.le_trans (wlen_mul _ _) (Nat.le_trans (Nat.add_le_add hwb hyw) hLab))) hLab).mono ?_;rintro e w4 ⟨⟨v5, rfl, h5⟩, hb4⟩;try dsimp only
          exact hK _ _ ⟨_, by kernel_rfl, hJ.gC 11 rfl (by kernel_rfl) hb4 (OwnI.mono h5 (Nat.zero_le _)) (by omega)⟩
        · intro L fx w' hJ hL hp hcl;have e0 := hJ.pt 0 22 (.slice (some ⟨bx, 0, none⟩) xs.length cx) rfl rfl rfl (hp 0 (by decide));rw [e0] at hJ ⊢; clear e0;have e1 := hJ.pt 1 23 (.int .i64 (m : Int)) rfl rfl rfl (hp 1 (by decide));rw [e1] at hJ ⊢; clear e1;refine wps rfl fun K hK => ?_;go_simp;exact hJ.q hK (by kernel_rfl) rfl
      · intro L x' w3b hL hJ;have hfr : Below w3.drew.heap.size w3.drew w3b := hJ.fr;have e11 : OwnI w3b 0 (x' 33) (a * xs[m] + b * ys[m]) := hJ.slot 11 (by show 11 < 13; decide) (hL 11 (by show 11 < 13; decide));have e12 : x' 34 = .pointer (some ⟨bx, m * 2, none⟩) := hJ.slot 12 (by show 12 < 13; decide) (hL 12 (by show 12 < 13; decide));obtain ⟨pz3, hpz⟩ := NumAt.parts e11.num;rw [hpz] at e11;unfold av at hpz;rw [patchX (x := x') (d := 33) hpz];rw [patchX (x := updX x' 33 (.agg #[.bool pz3.1, .slice pz3.2.1 pz3.2.2.1 pz3.2.2.2])) (d := 34) (v := .pointer (some ⟨bx, m * 2, none⟩)) e12];clear hJ hL;have X4 := Lib.hid (RowN.below (w := w3.drew) X3.out hfr);have Y4 := Lib.hid (RowN.below (w := w3.drew) Y3.out hfr);have R4 := Lib.hid (RowAt.below (w := w3.drew) R3.out hfr R3.out.lt);have RG := Lib.hid (RowAt.below (w := w3.drew) RG.out hfr RG.out.lt);have RH := Lib.hid (RowAt.below (w := w3.drew) RH.out hfr RH.out.lt);have A4 := Lib.hid (IntAt.below (w := w3.drew) A3.out hfr);have B4 := Lib.hid (IntAt.below (w := w3.drew) B3.out hfr);have D4 := Lib.hid (IntAt.below (w := w3.drew) D3.out hfr);have E4 := Lib.hid (IntAt.below (w := w3.drew) E3.out hfr);have U4 := Lib.hid (IntAt.below (w := w3.drew) U3.out hfr);have V4 := Lib.hid (IntAt.below (w := w3.drew) V3.out hfr);have C4 := Lib.hid (C3.out.drew.below hfr);have hsz4 := hfr.size;have hsz4' : w3.drew.heap.size = w3.heap.size := rfl;clear X3 Y3 R3 A3 B3 D3 E3 U3 V3 C3;obtain ⟨pq, q0, q1, _⟩ := X4.out.get hmx;have q2 := X4.out.free (m * 2);have q3 := X4.out.free (m * 2 + 1);refine wps rfl fun K hK => ?_;go_simp;refine hK _ _ ⟨⟨updX (updX x' 33 (.agg #[.bool pz3.1, .slice pz3.2.1 pz3.2.2.1 pz3.2.2.2])) 34 (.pointer (some ⟨bx, m * 2, none⟩)), by kernel_rfl⟩, ?_⟩;clear hK q0 q1 q2 q3;have ZX := Lib.hid (X4.out.set m e11.num);have ZY := Lib.hid (X4.out.keepRow Y4.out (fun e => hne e.symm) m pz3);have ZR := Lib.hid ((R4.out.other (p := ⟨bx, m * 2, none⟩) (by show w.heap.size ≠ bx; omega) (.bool pz3.1)).other (p := ⟨bx, m * 2 + 1, none⟩) (by show w.heap.size ≠ bx; omega) (.slice pz3.2.1 pz3.2.2.1 pz3.2.2.2));have Z7 := Lib.hid ((RG.out.other (p := ⟨bx, m * 2, none⟩) (by show g7 ≠ bx; omega) (.bool pz3.1)).other (p := ⟨bx, m * 2 + 1, none⟩) (by show g7 ≠ bx; omega) (.slice pz3.2.1 pz3.2.2.1 pz3.2.2.2));have Z8 := Lib.hid ((RH.out.other (p := ⟨bx, m * 2, none⟩) (by show g8 ≠ bx; omega) (.bool pz3.1)).other (p := ⟨bx, m * 2 + 1, none⟩) (by show g8 ≠ bx; omega) (.slice pz3.2.1 pz3.2.2.1 pz3.2.2.2));have ZA := Lib.hid (X4.out.keepInt A4.out m pz3);have ZB := Lib.hid (X4.out.keepInt B4.out m pz3);have ZD := Lib.hid (X4.out.keepInt D4.out m pz3);have ZE := Lib.hid (X4.out.keepInt E4.out m pz3);have ZU := Lib.hid (X4.out.keepInt U4.out m pz3);have ZV := Lib.hid (X4.out.keepInt V4.out m pz3);have ZC := Lib.hid ((C4.out.set (p := ⟨bx, m * 2, none⟩) (Or.inl rfl) (.bool pz3.1)).set (p := ⟨bx, m * 2 + 1, none⟩) (Or.inl rfl) (.slice pz3.2.1 pz3.2.2.1 pz3.2.2.2));clear X4 Y4 R4 RG RH A4 B4 D4 E4 U4 V4 C4 e11 e12;have hszg : ((w3b.setCell ⟨bx, m * 2, none⟩ (.bool pz3.1)).setCell ⟨bx, m * 2 + 1, none⟩ (.slice pz3.2.1 pz3.2.2.1 pz3.2.2.2)).heap.size = w3b.heap.size := by simp
        generalize ((w3b.setCell ⟨bx, m * 2, none⟩ (.bool pz3.1)).setCell ⟨bx, m * 2 + 1, none⟩ (.slice pz3.2.1 pz3.2.2.1 pz3.2.2.2)) = w5 at *;have X6 := ZX;have Y6 := ZY;have R6 := ZR;have RG := Z7;have RH := Z8;have A6 := ZA;have B6 := ZB;have D6 := ZD;have E6 := ZE;have U6 := ZU;have V6 := ZV;have C6 := ZC;clear ZX ZY ZR Z7 Z8 ZA ZB ZD ZE ZU ZV ZC;go_wp2;refine wp_region_K ⟨13, fun q_ => [35, 36, 37, 38, 39, 40, 41, 42, 43, 44, 45, 46, 47].getD q_ 0,
         fun q_ => [.val (.slice (some ⟨by_, 0, none⟩) ys.length cy), .val (.int .i64 (m : Int)), .val (.pointer (some ⟨w.heap.size, 4, none⟩)), .val (.pointer (some ⟨w.heap.size, 4, none⟩)), .val (.agg #[.bool r.1, .slice r.2.1 r.2.2.1 r.2.2.2]), .val (.agg #[.bool pu.1, .slice pu.2.1 pu.2.2.1 pu.2.2.2]), .val (.pointer (some ⟨w.heap.size, 4, none⟩)), .val (.pointer (some ⟨w.heap.size, 6, none⟩)), .val (.agg #[.bool s.1, .slice s.2.1 s.2.2.1 s.2.2.2]), .val (.agg #[.bool pv.1, .slice pv.2.1 pv.2.2.1 pv.2.2.2]), .int 0 (d * ys[m]), .int 0 (c * xs[m] + d * ys[m]), .val (.pointer (some ⟨by_, m * 2, none⟩))].getD q_ .any,
         [],
         [(.agg #[.bool r.1, .slice r.2.1 r.2.2.1 r.2.2.2], .at_ LA c), (.agg #[.bool s.1, .slice s.2.1 s.2.2.1 s.2.2.2], .at_ LA d), (.agg #[.bool pu.1, .slice pu.2.1 pu.2.2.1 pu.2.2.2], .at_ LB xs[m]), (.agg #[.bool pv.1, .slice pv.2.1 pv.2.2.1 pv.2.2.2], .at_ LB ys[m])],
         [(w.heap.size, 106, [.bool p.1, .slice p.2.1 p.2.2.1 p.2.2.2, .bool q.1, .slice q.2.1 q.2.2.1 q.2.2.2, .bool r.1, .slice r.2.1 r.2.2.1 r.2.2.2, .bool s.1, .slice s.2.1 s.2.2.1 s.2.2.2]), (g7, 37, [.bool pu.1, .slice pu.2.1 pu.2.2.1 pu.2.2.2]), (g8, 37, [.bool pv.1, .slice pv.2.1 pv.2.2.1 pv.2.2.2])],
         [], [], []⟩ [35, 36, 37, 38, 39, 40, 41, 42, 43, 44, 45, 46, 47] (w5.heap.size) (by kernel_rfl) (by kernel_rfl) (by kernel_rfl) (by kernel_rfl) (by kernel_rfl) ?_ ?_ ?_ ?_ ?_ ?_
        · exact allq (D6.out) (allq (E6.out) (allq (U6.out) (allq (V6.out) allz)))
        · exact allq (⟨R6.out, (R6.out).lt, allz⟩) (allq (⟨RG.out, (RG.out).lt, allz⟩) (allq (⟨RH.out, (RH.out).lt, allz⟩) allz))
        · exact allz
        · exact allz
        · refine allc ?_ (allc ?_ (allc ?_ (allc ?_ (allc ?_ (allc ?_ (allc ?_ (allc ?_ (allc ?_ (allc ?_ (allc ?_ (allc ?_ (allc ?_ alln))))))))))));any_goals (first | (intro L fx w' hJ hL hp hcl; have _ := hp0 hp (by decide +kernel); refine wps rfl fun K hK => ?_; go_simp; exact hJ.q hK (by kernel_rfl) rfl) | fail)
          · intro L fx w' hJ hL hp hcl;have e2 := hJ.pt 2 37 (.pointer (some ⟨w.heap.size, 4, none⟩)) rfl rfl rfl (hp 2 (by decide));rw [e2] at hJ ⊢; clear e2;refine wps rfl fun K hK => ?_;go_simp;exact hJ.q hK (by kernel_rfl) rfl
          · intro L fx w' hJ hL hp hcl;have e3 := hJ.pt 3 38 (.pointer (some ⟨w.heap.size, 4, none⟩)) rfl rfl rfl (hp 3 (by decide));rw [e3] at hJ ⊢; clear e3;refine wps rfl fun K hK => ?_;have rw0 := (hJ.rows _ mm0).1;have cl0 : w'.cell? ⟨w.heap.size, 4, none⟩ = some (.bool r.1) := rw0.cell 4;have cl1 : w'.cell? ⟨w.heap.size, 5, none⟩ = some (.slice r.2.1 r.2.2.1 r.2.2.2) := rw0.cell 5;go_simp;exact hJ.q hK (by kernel_rfl) rfl
          · intro L fx w' hJ hL hp hcl;refine wps rfl fun K hK => ?_;have rw0 := (hJ.rows _ mm1).1;have cl0 : w'.cell? ⟨g7, 0, none⟩ = some (.bool pu.1) := rw0.cell 0;have cl1 : w'.cell? ⟨g7, 1, none⟩ = some (.slice pu.2.1 pu.2.2.1 pu.2.2.2) := rw0.cell 1;go_simp;exact hJ.q hK (by kernel_rfl) rfl
          · intro L fx w' hJ hL hp hcl;have e6 := hJ.pt 6 41 (.pointer (some ⟨w.heap.size, 4, none⟩)) rfl rfl rfl (hp 6 (by decide));rw [e6] at hJ ⊢; clear e6;refine wps rfl fun K hK => ?_;go_simp;exact hJ.q hK (by kernel_rfl) rfl
          · intro L fx w' hJ hL hp hcl;have e7 := hJ.pt 7 42 (.pointer (some ⟨w.heap.size, 6, none⟩)) rfl rfl rfl (hp 7 (by decide));rw [e7] at hJ ⊢; clear e7;refine wps rfl fun K hK => ?_;have rw0 := (hJ.rows _ mm0).1;have cl0 : w'.cell? ⟨w.heap.size, 6, none⟩ = some (.bool s.1) := rw0.cell 6;have cl1 : w'.cell? ⟨w.heap.size, 7, none⟩ = some (.slice s.2.1 s.2.2.1 s.2.2.2) := rw0.cell 7;go_simp;exact hJ.q hK (by kernel_rfl) rfl
          · intro L fx w' hJ hL hp hcl;refine wps rfl fun K hK => ?_;have rw0 := (hJ.rows _ mm2).1;have cl0 : w'.cell? ⟨g8, 0, none⟩ = some (.bool pv.1) := rw0.cell 0;have cl1 : w'.cell? ⟨g8, 1, none⟩ = some (.slice pv.2.1 pv.2.2.1 pv.2.2.2) := rw0.cell 1;go_simp;exact hJ.q hK (by kernel_rfl) rfl
          · intro L fx w' hJ hL hp hcl;have e8 := hJ.pt 8 43 (.agg #[.bool s.1, .slice s.2.1 s.2.2.1 s.2.2.2]) rfl rfl rfl (hp 8 (by decide));rw [e8] at hJ ⊢; clear e8;have e9 := hJ.pt 9 44 (.agg #[.bool pv.1, .slice pv.2.1 pv.2.2.1 pv.2.2.2]) rfl rfl rfl (hp 9 (by decide));rw [e9] at hJ ⊢; clear e9;refine wps rfl fun K hK => ?_;go_simp;go_at_call 86;refine (IMul_c _ _ d ys[m] LA LB _ (show IntAt w' (LA) (.agg #[.bool s.1, .slice s.2.1 s.2.2.1 s.2.2.2]) (d) from hJ.base _ mm1) (show IntAt w' (LB) (.agg #[.bool pv.1, .slice pv.2.1 pv.2.2.1 pv.2.2.2]) (ys[m]) from hJ.base _ mm3) hLab).mono ?_;rintro e w4 ⟨⟨v5, rfl, h5⟩, hb4⟩;try dsimp only
            exact hK _ _ ⟨_, by kernel_rfl, hJ.gC 10 rfl (by kernel_rfl) hb4 (OwnI.mono h5 (Nat.zero_le _)) (by omega)⟩
          · intro L fx w' hJ hL hp hcl;have e10 := hJ.slot 10 (by show 10 < 13; decide) (hp 10 (by decide));have e4 := hJ.pt 4 39 (.agg #[.bool r.1, .slice r.2.1 r.2.2.1 r.2.2.2]) rfl rfl rfl (hp 4 (by decide));rw [e4] at hJ ⊢; clear e4;have e5 := hJ.pt 5 40 (.agg #[.bool pu.1, .slice pu.2.1 pu.2.2.1 pu.2.2.2]) rfl rfl rfl (hp 5 (by decide));rw [e5] at hJ ⊢; clear e5;refine wps rfl fun K hK => ?_;go_simp;go_at_call 85;refine (IMulAdd_c _ _ _ c xs[m] (d * ys[m]) LA LB _ (show IntAt w' (LA) (.agg #[.bool r.1, .slice r.2.1 r.2.2.1 r.2.2.2]) (c) from hJ.base _ mm0) (show IntAt w' (LB) (.agg #[.bool pu.1, .slice pu.2.1 pu.2.2.1 pu.2.2.2]) (xs[m]) from hJ.base _ mm2) (OwnI.int (show OwnI w' _ (fx 45) _ from e10) (by rw [Int.natAbs_mul]; exact Nat.le_trans (wlen_mul _ _) (Nat.le_trans (Nat.add_le_add hwd hyw) hLab))) hLab).mono ?_;rintro e w4 ⟨⟨v5, rfl, h5⟩, hb4⟩;try dsimp only
            exact hK _ _ ⟨_, by kernel_rfl, hJ.gC 11 rfl (by kernel_rfl) hb4 (OwnI.mono h5 (Nat.zero_le _)) (by omega)⟩
          · intro L fx w' hJ hL hp hcl;have e0 := hJ.pt 0 35 (.slice (some ⟨by_, 0, none⟩) ys.length cy) rfl rfl rfl (hp 0 (by decide));rw [e0] at hJ ⊢; clear e0;have e1 := hJ.pt 1 36 (.int .i64 (m : Int)) rfl rfl rfl (hp 1 (by decide));rw [e1] at hJ ⊢; clear e1;refine wps rfl fun K hK => ?_;go_simp;exact hJ.q hK (by kernel_rfl) rfl
        · intro L x' w5b hL hJ;have hfr : Below w5.drew.heap.size w5.drew w5b := hJ.fr;have e11 : OwnI w5b 0 (x' 46) (c * xs[m] + d * ys[m]) := hJ.slot 11 (by show 11 < 13; decide) (hL 11 (by show 11 < 13; decide));have e12 : x' 47 = .pointer (some ⟨by_, m * 2, none⟩) := hJ.slot 12 (by show 12 < 13; decide) (hL 12 (by show 12 < 13; decide));obtain ⟨pz6, hpz⟩ := NumAt.parts e11.num;rw [hpz] at e11;unfold av at hpz;rw [patchX (x := x') (d := 46) hpz];rw [patchX (x := updX x' 46 (.agg #[.bool pz6.1, .slice pz6.2.1 pz6.2.2.1 pz6.2.2.2])) (d := 47) (v := .pointer (some ⟨by_, m * 2, none⟩)) e12];clear hJ hL;have X7 := Lib.hid (RowN.below (w := w5.drew) X6.out hfr);have Y7 := Lib.hid (RowN.below (w := w5.drew) Y6.out hfr);have R7 := Lib.hid (RowAt.below (w := w5.drew) R6.out hfr R6.out.lt);have RG := Lib.hid (RowAt.below (w := w5.drew) RG.out hfr RG.out.lt);have RH := Lib.hid (RowAt.below (w := w5.drew) RH.out hfr RH.out.lt);have A7 := Lib.hid (IntAt.below (w := w5.drew) A6.out hfr);have B7 := Lib.hid (IntAt.below (w := w5.drew) B6.out hfr);have D7 := Lib.hid (IntAt.below (w := w5.drew) D6.out hfr);have E7 := Lib.hid (IntAt.below (w := w5.drew) E6.out hfr);have U7 := Lib.hid (IntAt.below (w := w5.drew) U6.out hfr);have V7 := Lib.hid (IntAt.below (w := w5.drew) V6.out hfr);have C7 := Lib.hid (C6.out.drew.below hfr);have hsz7 := hfr.size;have hsz7' : w5.drew.heap.size = w5.heap.size := rfl;clear X6 Y6 R6 A6 B6 D6 E6 U6 V6 C6;obtain ⟨pq, q0, q1, _⟩ := Y7.out.get hmv;have q2 := Y7.out.free (m * 2);have q3 := Y7.out.free (m * 2 + 1);refine wps rfl fun K hK => ?_;go_simp;refine hK _ _ ⟨⟨updX (updX x' 46 (.agg #[.bool pz6.1, .slice pz6.2.1 pz6.2.2.1 pz6.2.2.2])) 47 (.pointer (some ⟨by_, m * 2, none⟩)), by kernel_rfl⟩, ?_⟩;clear hK q0 q1 q2 q3;have ZY := Lib.hid (Y7.out.set m e11.num);have ZX := Lib.hid (Y7.out.keepRow X7.out (fun e => hne e) m pz6);have ZR := Lib.hid ((R7.out.other (p := ⟨by_, m * 2, none⟩) (by show w.heap.size ≠ by_; omega) (.bool pz6.1)).other (p := ⟨by_, m * 2 + 1, none⟩) (by show w.heap.size ≠ by_; omega) (.slice pz6.2.1 pz6.2.2.1 pz6.2.2.2));have Z7 := Lib.hid ((RG.out.other (p := ⟨by_, m * 2, none⟩) (by show g7 ≠ by_; omega) (.bool pz6.1)).other (p := ⟨by_, m * 2 + 1, none⟩) (by show g7 ≠ by_; omega) (.slice pz6.2.1 pz6.2.2.1 pz6.2.2.2));have Z8 := Lib.hid ((RH.out.other (p := ⟨by_, m * 2, none⟩) (by show g8 ≠ by_; omega) (.bool pz6.1)).other (p := ⟨by_, m * 2 + 1, none⟩) (by show g8 ≠ by_; omega) (.slice pz6.2.1 pz6.2.2.1 pz6.2.2.2));have ZA := Lib.hid (Y7.out.keepInt A7.out m pz6);have ZB := Lib.hid (Y7.out.keepInt B7.out m pz6);have ZD := Lib.hid (Y7.out.keepInt D7.out m pz6);have ZE := Lib.hid (Y7.out.keepInt E7.out m pz6);have ZU := Lib.hid (Y7.out.keepInt U7.out m pz6);have ZV := Lib.hid (Y7.out.keepInt V7.out m pz6);have ZC := Lib.hid ((C7.out.set (p := ⟨by_, m * 2, none⟩) (Or.inr rfl) (.bool pz6.1)).set (p := ⟨by_, m * 2 + 1, none⟩) (Or.inr rfl) (.slice pz6.2.1 pz6.2.2.1 pz6.2.2.2));clear X7 Y7 R7 RG RH A7 B7 D7 E7 U7 V7 C7 e11 e12;go_wp2;go_roundw
          case rel =>
           exact ⟨m + 1, _, _, by omega, by go_num, HU.out.next hml hmy, HV.out.next hml hmy, ZX, ZY, ZR, Lib.hid ⟨ZA.out, ZB.out, ZD.out, ZE.out⟩, ZC⟩
          case measure => simp [intOf]; omega
  · obtain rfl : m = xs.length := by omega
    have he := HU.out.all Hl.out rfl;have he2 := HV.out.all Hl.out Hl.out;have HE := Lib.hid he;have HE2 := Lib.hid he2;clear he he2;go_wp2;refine bodyPost_end (results_none (by kernel_rfl) _ _ _) rfl ?_;rw [<- HE.out, <- HE2.out];exact ⟨rfl, hX.out, hY.out, hC.out⟩
structure Hd where
 blk : Nat
 cap : Nat
 xs : List Int
def Hd.hdr (h : Hd) : Value := .slice (some ⟨h.blk, 0, none⟩) h.xs.length h.cap
theorem NoW_hdrs : ∀ R : List Hd, NoW (R.map Hd.hdr)
 | [] => NoW.nil
 | h :: R => NoW.slice (NoW_hdrs R)
def RowP (w : World) (b : Nat) (t : TypeId) (cs : List Value) : Prop := ∃ tl, NoW tl /\ RowAt w b t (cs ++ tl)
theorem RowAt.pre {w : World} {b : Nat} {t : TypeId} {cs : List Value} (h : RowAt w b t cs) : RowP w b t cs := ⟨[], NoW.nil, by rw [List.append_nil]; exact h⟩
theorem RowP.lt {w : World} {b : Nat} {t : TypeId} {cs : List Value} (h : RowP w b t cs) : b < w.heap.size := by obtain ⟨_, _, h⟩ := h; exact h.lt
theorem RowP.free {w : World} {b : Nat} {t : TypeId} {cs : List Value} (h : RowP w b t cs) (i : Nat) : w.frozen? ⟨b, i, none⟩ = false := by obtain ⟨_, _, h⟩ := h; exact h.free i
theorem RowP.below {w w' : World} {b B : Nat} {t : TypeId} {cs : List Value} (h : RowP w b t cs) (hb : Below B w w') (hB : b < B) : RowP w' b t cs := by obtain ⟨tl, n, h⟩ := h; exact ⟨tl, n, h.below hb hB⟩
theorem RowP.other {w : World} {b : Nat} {t : TypeId} {cs : List Value} (h : RowP w b t cs) {p : Addr} (hp : b ≠ p.block) (v : Value) : RowP (w.setCell p v) b t cs := by obtain ⟨tl, n, h⟩ := h; exact ⟨tl, n, h.other hp v⟩
theorem RowP.set {w : World} {b : Nat} {t : TypeId} {cs : List Value} (h : RowP w b t cs) {i : Nat} (hi : i < cs.length) (v : Value) : RowP (w.setCell ⟨b, i, none⟩ v) b t (cs.set i v) := by
 obtain ⟨tl, n, h⟩ := h;have := h.set i v;rw [List.set_append_left _ _ hi] at this;exact ⟨tl, n, this⟩
theorem RowP.cell {w : World} {b : Nat} {t : TypeId} {cs : List Value} (h : RowP w b t cs) {i : Nat} (hi : i < cs.length) : w.cell? ⟨b, i, none⟩ = cs[i]? := by
 obtain ⟨tl, n, h⟩ := h; rw [h.cell, List.getElem?_append_left hi]
theorem RowP.chg {S : Nat -> Prop} {w w' : World} {b : Nat} {t : TypeId} {cs : List Value} (h : RowP w b t cs) (hc : Chg S w w') (hb : ¬ S b) : RowP w' b t cs := by obtain ⟨tl, n, h⟩ := h; exact ⟨tl, n, hc.row h hb⟩
structure MatN (w : World) (o : Nat) (R : List Hd) : Prop where
 out : RowP w o 22 (R.map Hd.hdr)
 row : ∀ h ∈ R, RowN w h.blk h.xs
 nd : (R.map Hd.blk).Nodup
theorem MatN.below {w w' : World} {o : Nat} {R : List Hd} (h : MatN w o R) (hb : Below w.heap.size w w') : MatN w' o R :=
 ⟨h.out.below hb h.out.lt, fun r hr => (h.row r hr).below hb, h.nd⟩
theorem MatN.ne {w : World} {o : Nat} {R : List Hd} (h : MatN w o R) {r : Hd} (hr : r ∈ R) : r.blk ≠ o := by
 intro e;obtain ⟨ps, tl, nt, hp, _⟩ := h.row r hr;obtain ⟨tl, _, ho⟩ := h.out;unfold RowAt at hp ho;rw [e, ho] at hp;simp only [Option.some.injEq, Obj.cells.injEq] at hp;exact absurd hp.2.1 (by decide)
theorem MatN.hdr {w : World} {o : Nat} {R : List Hd} (h : MatN w o R) {i : Nat} (hi : i < R.length) : w.cell? ⟨o, i, none⟩ = some (R[i]).hdr := by
 rw [h.out.cell (by simpa using hi)]; simp [hi]
theorem MatN.lt {w : World} {o : Nat} {R : List Hd} (h : MatN w o R) : o < w.heap.size := h.out.lt
theorem MatN.setOther {w : World} {o : Nat} {R : List Hd} (h : MatN w o R) {g : Nat} {t : TypeId} {cs : List Value} (hr : RowAt w g t cs) (hn : NoW cs) (ho : o ≠ g) (hb : ∀ r ∈ R, r.blk ≠ g) (i : Nat) (u : Value) : MatN (w.setCell ⟨g, i, none⟩ u) o R :=
 ⟨h.out.other ho u, fun r hr' => (h.row r hr').other (hb r hr') hr hn i u, h.nd⟩
structure TwoS where
 o : Nat
 g : Nat
 g3 : Nat
 cap : Nat
 cs : Nat
 own : Nat -> Prop
 fit : List Hd -> Prop
 rel : List Hd -> List Hd -> Prop
structure LSt where
 lb : Nat
 o : Nat
 sb : Nat
 g : Nat
 cap : Nat
 R : List Hd
 two : Option TwoS
def LSt.rws (S : LSt) (k : Nat) : Prop := k = S.o ∨ ∃ h ∈ S.R, h.blk = k
def LSt.own (S : LSt) (k : Nat) : Prop := S.rws k ∨ ∃ t, S.two = some t /\ t.own k
def LSt.withR (S : LSt) (R : List Hd) : LSt := ⟨S.lb, S.o, S.sb, S.g, S.cap, R, S.two⟩
def LSt.ns (S : LSt) : Nat := match S.two with | none => 1 | some _ => 2
def LSt.cs (S : LSt) : Nat := match S.two with | none => 1 | some t => t.cs
def TwoS.st (t : TwoS) (V : List Hd) : LSt := ⟨0, t.o, 0, t.g, t.cap, V, none⟩
def LSt.hdr (S : LSt) : Value := .slice (some ⟨S.o, 0, none⟩) S.R.length S.cap
def likeF (g : Nat) : List Value := [.func (.func 67) #[] #[.pointer (some ⟨g, 0, none⟩)], .func (.func 68) #[] #[.pointer (some ⟨g, 0, none⟩)], .func (.func 70) #[] #[.pointer (some ⟨g, 0, none⟩)], .func (.func 72) #[] #[.pointer (some ⟨g, 0, none⟩)]]
def agF (g g3 : Nat) : List Value := [.func (.func 67) #[] #[.pointer (some ⟨g, 0, none⟩)], .func (.func 68) #[] #[.pointer (some ⟨g, 0, none⟩)], .func (.func 70) #[] #[.pointer (some ⟨g3, 0, none⟩)], .func (.func 72) #[] #[.pointer (some ⟨g3, 0, none⟩)]]
def LSt.more (S : LSt) : List Value := match S.two with | none => [] | some t => agF t.g t.g3
theorem run_store_fn (P : Program) (w : World) (p : Addr) (f : Fn) (a b : Array Value) (m : Mode) : (store p (.func f a b) m).run P w = stored P w p (.func f a b) m := run_store P w p _ m rfl
attribute [local go_sem] run_store_fn
theorem results_side {fn : Func} {p : Tmp} (h : fn.results = #[.cell p 94]) (tmps : Array Value) (w : World) (g : Nat) (a b c d : Value) (hp : tmps.getD p undef = .pointer (some ⟨g, 0, none⟩)) (hr : RowAt w g 94 [a, b, c, d]) :
 (results fn tmps).run Tryz.prog w = .ok (.agg #[a, b, c, d]) w :=
 results_cell_row h tmps w g 94 #[a, b, c, d] (0, 0) _ hp hr Tryz.underlying94 rfl (by kernel_rfl)
set_option maxRecDepth 100000 in
set_option maxHeartbeats 4000000 in
theorem Like_c (ao : Option Addr) (n cap : Nat) (w : World) :
 Calls Tryz.prog 50 #[.slice ao n cap] w fun e w' => e = .returned (.agg (likeF w.heap.size).toArray) /\ RowAt w' w.heap.size 46 [.slice ao n cap] /\ Below w.heap.size w w' := by
 go_enter Tryz.func50, Tryz.ntmps50;go_wp2;obtain ⟨r1, r2, hb⟩ := two_new w #[.slice ao n cap] (likeF w.heap.size).toArray 46 94;simp only [likeF] at r1 r2 hb;refine bodyPost_ret (results_side (p := 2) (by kernel_rfl) _ _ (w.heap.size + 1) _ _ _ _ rfl r2) rfl ?_;exact ⟨rfl, r1, hb⟩
structure SdAt (w : World) (S : LSt) : Prop where
 box : RowAt w S.g 46 [S.hdr]
 mat : MatN w S.o S.R
theorem SdAt.below {w w' : World} {S : LSt} (h : SdAt w S) (hb : Below w.heap.size w w') : SdAt w' S := ⟨h.box.below hb h.box.lt, h.mat.below hb⟩
structure TwoAt (w : World) (S : LSt) (t : TwoS) (V : List Hd) : Prop where
 sd : SdAt w (t.st V)
 box3 : RowAt w t.g3 46 [(t.st V).hdr]
 rel : t.rel S.R V
 own : ∀ k, t.own k ↔ (t.st V).rws k
 apart : ∀ k, t.own k -> ¬ S.rws k
structure LadAt (w : World) (S : LSt) : Prop where
 lad : RowAt w S.lb 73 [S.hdr, .slice (some ⟨S.sb, 0, none⟩) S.ns S.cs]
 sides : RowP w S.sb 94 (likeF S.g ++ S.more)
 box : RowAt w S.g 46 [S.hdr]
 mat : MatN w S.o S.R
 ext : ∀ t, S.two = some t -> ∃ V, TwoAt w S t V
theorem LadAt.sd {w : World} {S : LSt} (h : LadAt w S) : SdAt w S := ⟨h.box, h.mat⟩
set_option maxRecDepth 100000 in
set_option maxHeartbeats 4000000 in
theorem New_c (o cap : Nat) (R : List Hd) (w : World) (hM : MatN w o R) :
 Calls Tryz.prog 33 #[.slice (some ⟨o, 0, none⟩) R.length cap] w fun e w' => (∃ lb sb g, e = .returned (.pointer (some ⟨lb, 0, none⟩)) /\ LadAt w' ⟨lb, o, sb, g, cap, R, none⟩ /\ w.heap.size <= lb /\ w.heap.size <= sb /\ w.heap.size <= g) /\ Below w.heap.size w w' := by
 have HM := Lib.hid hM;have HM0 := Lib.hid hM; clear hM;go_enter Tryz.func33, Tryz.ntmps33;go_wp2_with fail
 have hb1 : Below w.heap.size w (w.alloc (.cells #[.slice (some ⟨o, 0, none⟩) R.length cap, .slice none 0 0] 73)) := (Below.refl _ _).alloc (Nat.le_refl _) _;have hr1 := RowAt.new w #[.slice (some ⟨o, 0, none⟩) R.length cap, .slice none 0 0] 73;generalize w.alloc (.cells #[.slice (some ⟨o, 0, none⟩) R.length cap, .slice none 0 0] 73) = w1 at *;refine (Like_c _ _ _ _).mono ?_;rintro e w2 ⟨rfl, hbox, hb2⟩;simp only [likeF];have hr2 := hr1.below hb2 hr1.lt;have hM2 := (HM.out.below hb1).below hb2;have hbw : Below w.heap.size w w2 := hb1.trans (hb2.mono hb1.size);have hs1 : w.heap.size < w1.heap.size := hr1.lt;have hs2 : w1.heap.size < w2.heap.size := hbox.lt;have hb3 : Below w2.heap.size w2 (w2.alloc (.cells (likeF w1.heap.size).toArray 94)) := (Below.refl _ _).alloc (Nat.le_refl _) _;have hr3 := RowAt.new w2 (likeF w1.heap.size).toArray 94;have hr4 := hr2.below hb3 hr2.lt;have hbox3 := hbox.below hb3 hbox.lt;have hM3 := hM2.below hb3;have hbw3 := hbw.trans (hb3.mono hbw.size);have f1 := hr4.free 1;have c1 := hr4.cell 1;simp only [likeF] at hr3 f1 c1;have HR3 := Lib.hid hr3;have HR4 := Lib.hid hr4;have HM3 := Lib.hid hM3;have HB3 := Lib.hid hbw3;have HX3 := Lib.hid hbox3;clear hr1 hr2 hr3 hr4 hM2 hM3 hbw hbw3 hb1 hb2 hb3 hbox hbox3 HM;go_wp2;go_ret;have ho := HM0.out.lt;refine ⟨⟨w.heap.size, rfl, w2.heap.size, w1.heap.size, ⟨?_, ?_, ?_, ?_, fun t h => by cases h⟩, Nat.le_refl _, by omega, by omega⟩, ?_⟩
 · exact HR4.out.set 1 (.slice (some ⟨w2.heap.size, 0, none⟩) 1 1)
 · exact (RowAt.other (p := ⟨w.heap.size, 1, none⟩) HR3.out (by show w2.heap.size ≠ w.heap.size; omega) _).pre
 · exact RowAt.other (p := ⟨w.heap.size, 1, none⟩) HX3.out (by show w1.heap.size ≠ w.heap.size; omega) _
 · exact HM3.out.setOther HR4.out (NoW.slice (NoW.slice NoW.nil)) (by show o ≠ w.heap.size; omega) (fun r hr => by have := (HM0.out.row r hr).lt; omega) 1 _
 · exact HB3.out.setCell (p := ⟨w.heap.size, 1, none⟩) (Nat.le_refl _) _
theorem RowAt.ne {w : World} {a b : Nat} {t t' : TypeId} {cs cs' : List Value} (h : RowAt w a t cs) (h' : RowAt w b t' cs') (ht : t ≠ t') : a ≠ b := by
 rintro rfl;unfold RowAt at h h';rw [h] at h';simp only [Option.some.injEq, Obj.cells.injEq] at h';exact ht h'.2.1
theorem RowAt.neP {w : World} {a b : Nat} {t t' : TypeId} {cs cs' : List Value} (h : RowAt w a t cs) (h' : RowP w b t' cs') (ht : t ≠ t') : a ≠ b := by obtain ⟨_, _, h'⟩ := h'; exact h.ne h' ht
def setXs (R : List Hd) (i : Nat) (xs : List Int) : List Hd := R.modify i (fun h => ⟨h.blk, h.cap, xs⟩)
theorem setXs_length (R : List Hd) (i : Nat) (xs : List Int) : (setXs R i xs).length = R.length := by simp [setXs]
theorem setXs_get {R : List Hd} {i : Nat} {xs : List Int} {j : Nat} (hj : j < R.length) : (setXs R i xs)[j]'(by rw [setXs_length]; exact hj) = if i = j then ⟨R[j].blk, R[j].cap, xs⟩ else R[j] := by
 unfold setXs; rw [List.getElem_modify]
theorem setXs_blk (R : List Hd) (i : Nat) (xs : List Int) : (setXs R i xs).map Hd.blk = R.map Hd.blk := by
 refine List.ext_getElem (by simp [setXs_length]) fun j h1 h2 => ?_;simp only [List.getElem_map];rw [setXs_get (by simpa using h2)];split <;> rfl
theorem setXs_hdr {R : List Hd} {i : Nat} {xs : List Int} (hi : i < R.length) (hl : xs.length = R[i].xs.length) : (setXs R i xs).map Hd.hdr = R.map Hd.hdr := by
 refine List.ext_getElem (by simp [setXs_length]) fun j h1 h2 => ?_;simp only [List.getElem_map];rw [setXs_get (by simpa using h2)];split
 · rename_i e; subst e; unfold Hd.hdr; rw [hl]
 · rfl
theorem blk_ne {R : List Hd} (hn : (R.map Hd.blk).Nodup) {i j : Nat} (hi : i < R.length) (hj : j < R.length) (h : i ≠ j) : R[i].blk ≠ R[j].blk := by
 intro e;have h1 : (R.map Hd.blk)[i]'(by simpa using hi) = (R.map Hd.blk)[j]'(by simpa using hj) := by simpa using e
 have hp := List.pairwise_iff_getElem.1 hn;rcases Nat.lt_or_gt_of_ne h with hlt | hlt
 · exact hp i j (by simpa using hi) (by simpa using hj) hlt h1
 · exact hp j i (by simpa using hj) (by simpa using hi) hlt h1.symm
theorem MatN.setXs {w w' : World} {o : Nat} {R : List Hd} (h : MatN w o R) {i : Nat} (hi : i < R.length) {xs : List Int} (hl : xs.length = R[i].xs.length) (hc : Chg (· = R[i].blk) w w') (hr : RowN w' R[i].blk xs) : MatN w' o (setXs R i xs) := by
 have hw : Wordless (· = R[i].blk) w := (h.row _ (List.getElem_mem hi)).wordless;refine ⟨by rw [setXs_hdr hi hl]; exact h.out.chg hc (fun e => h.ne (List.getElem_mem hi) e.symm), fun r hr' => ?_, by rw [setXs_blk]; exact h.nd⟩;obtain ⟨j, hj, rfl⟩ := List.getElem_of_mem hr';rw [setXs_length] at hj;rw [setXs_get hj];split
 · rename_i e; subst e; exact hr
 · rename_i e; exact hc.rowN hw (h.row _ (List.getElem_mem hj)) (blk_ne h.nd hj hi (fun e' => e e'.symm))
theorem addRow_length {k : Int} {xs ys : List Int} (h : xs.length = ys.length) : (addRow k xs ys).length = xs.length := by simp [addRow, h]
theorem mixRow_length {a b : Int} {xs ys : List Int} (h : xs.length = ys.length) : (mixRow a b xs ys).length = xs.length := by simp [mixRow, h]
theorem SdAt.keep {w w' : World} {S : LSt} (h : SdAt w S) (hc : Chg S.rws w w') {b : Nat} {t : TypeId} {cs : List Value} (hb : RowAt w b t cs) (h1 : t ≠ 37) (h2 : t ≠ 22) : RowAt w' b t cs := by
 refine hc.row hb ?_;rintro (rfl | ⟨r, hr, rfl⟩)
 · exact hb.neP h.mat.out h2 rfl
 · obtain ⟨ps, tl, nt, hp, _⟩ := h.mat.row r hr;exact hb.ne hp h1 rfl
theorem SdAt.rows {w w' : World} {S : LSt} (h : SdAt w S) {R : List Hd} (hc : Chg S.rws w w') (hM : MatN w' S.o R) (hl : R.length = S.R.length) : SdAt w' (S.withR R) := by
 have e : LSt.hdr (S.withR R) = S.hdr := by unfold LSt.hdr LSt.withR; rw [hl]
 exact ⟨by rw [e]; exact h.keep hc h.box (by decide) (by decide), hM⟩
def addR (R : List Hd) (i j : Nat) (k : Int) (hi : i < R.length) (hj : j < R.length) : List Hd := setXs R i (addRow k R[i].xs R[j].xs)
set_option maxRecDepth 100000 in
set_option maxHeartbeats 4000000 in
theorem LikeAdd_c (S : LSt) (i j : Nat) (kv : Value) (k : Int) (LA LB : Nat) (w : World) (h : SdAt w S) (hi : i < S.R.length) (hj : j < S.R.length) (hij : i ≠ j) (hK : IntAt w LA kv k) (hl : S.R[i].xs.length = S.R[j].xs.length)
 (hxL : ∀ x ∈ S.R[i].xs, wlen x.natAbs <= 17592186044415) (hyL : ∀ y ∈ S.R[j].xs, wlen y.natAbs <= LB) (hLab : LA + LB <= 17592186044415) (hlen : S.R[i].xs.length <= 4611686018427387903) :
 Calls Tryz.prog 70 #[.int .i64 (i : Int), .int .i64 (j : Int), kv, .pointer (some ⟨S.g, 0, none⟩)] w fun e w' => e = .returned (.tuple #[]) /\ SdAt w' (S.withR (addR S.R i j k hi hj)) /\ Chg S.rws w w' := by
 obtain ⟨kp, rfl⟩ := hK.parts;have HL := Lib.hid h; clear h;have HK := Lib.hid hK; clear hK;have HXL := Lib.hid hxL; clear hxL;have HYL := Lib.hid hyL; clear hyL;have Hl := Lib.hid hl; clear hl;go_enter Tryz.func70, Tryz.ntmps70;unfold av at *;go_wp2;have hb1 : Below w.heap.size w (w.alloc (.cells #[.bool kp.1, .slice kp.2.1 kp.2.2.1 kp.2.2.2] 37)) := (Below.refl _ _).alloc (Nat.le_refl _) _;have hr1 := RowAt.new w #[.bool kp.1, .slice kp.2.1 kp.2.2.1 kp.2.2.2] 37;generalize w.alloc (.cells #[.bool kp.1, .slice kp.2.1 kp.2.2.1 kp.2.2.2] 37) = w1 at *;have hbox := HL.out.box.below hb1 HL.out.box.lt;have hM1 := HL.out.mat.below hb1;have hK1 := HK.out.below hb1;have HX1 := Lib.hid (hM1.row _ (List.getElem_mem hi));have HY1 := Lib.hid (hM1.row _ (List.getElem_mem hj));have hne := blk_ne hM1.nd hi hj hij;have cg : w1.cell? ⟨S.g, 0, none⟩ = some (.slice (some ⟨S.o, 0, none⟩) S.R.length S.cap) := hbox.cell 0;have ci : w1.cell? ⟨S.o, i, none⟩ = some (.slice (some ⟨S.R[i].blk, 0, none⟩) S.R[i].xs.length S.R[i].cap) := hM1.hdr hi;have cj : w1.cell? ⟨S.o, j, none⟩ = some (.slice (some ⟨S.R[j].blk, 0, none⟩) S.R[j].xs.length S.R[j].cap) := hM1.hdr hj;have ck0 : w1.cell? ⟨w.heap.size, 0, none⟩ = some (.bool kp.1) := hr1.cell 0;have ck1 : w1.cell? ⟨w.heap.size, 1, none⟩ = some (.slice kp.2.1 kp.2.2.1 kp.2.2.2) := hr1.cell 1;have hs0 : S.g < w1.heap.size := hbox.lt;have hs1 : S.o < w1.heap.size := hM1.out.lt;have hs2 : w.heap.size < w1.heap.size := hr1.lt;have hi' : (i : Int) < (S.R.length : Int) := by omega
 have hj' : (j : Int) < (S.R.length : Int) := by omega
 have HM1 := Lib.hid hM1; clear hM1;have HK1 := Lib.hid hK1; clear hK1;have HB1 := Lib.hid hb1; clear hb1;clear hr1 hbox;refine wp_region_K ⟨9, fun q_ => [7, 8, 9, 10, 11, 12, 13, 14, 15].getD q_ 0,
  fun q_ => [.val (.slice (some ⟨S.o, 0, none⟩) S.R.length S.cap), .val (.int .i64 (i : Int)), .val (.pointer (some ⟨S.o, i, none⟩)), .val (.slice (some ⟨S.R[i].blk, 0, none⟩) S.R[i].xs.length S.R[i].cap), .val (.slice (some ⟨S.o, 0, none⟩) S.R.length S.cap), .val (.int .i64 (j : Int)), .val (.pointer (some ⟨S.o, j, none⟩)), .val (.slice (some ⟨S.R[j].blk, 0, none⟩) S.R[j].xs.length S.R[j].cap), .val (.agg #[.bool kp.1, .slice kp.2.1 kp.2.2.1 kp.2.2.2])].getD q_ .any,
  [],
  [],
  [],
  [], [(⟨S.g, 0, none⟩, .slice (some ⟨S.o, 0, none⟩) S.R.length S.cap), (⟨S.o, i, none⟩, .slice (some ⟨S.R[i].blk, 0, none⟩) S.R[i].xs.length S.R[i].cap), (⟨S.o, j, none⟩, .slice (some ⟨S.R[j].blk, 0, none⟩) S.R[j].xs.length S.R[j].cap), (⟨w.heap.size, 0, none⟩, .bool kp.1), (⟨w.heap.size, 1, none⟩, .slice kp.2.1 kp.2.2.1 kp.2.2.2)], []⟩ [7, 8, 9, 10, 11, 12, 13, 14, 15, 16] (w1.heap.size) (by kernel_rfl) (by kernel_rfl) (by kernel_rfl) (by kernel_rfl) (by kernel_rfl) ?_ ?_ ?_ ?_ ?_ ?_
 · intro p hp;cases hp
 · intro p hp;cases hp
 · intro p hp;rcases mc hp with rfl | hp
   · refine ⟨cg, by show S.g < w1.heap.size; omega, ?_⟩;intro t ht;cases ht
   rcases mc hp with rfl | hp
   · refine ⟨ci, by show S.o < w1.heap.size; omega, ?_⟩;intro t ht;cases ht
   rcases mc hp with rfl | hp
   · refine ⟨cj, by show S.o < w1.heap.size; omega, ?_⟩;intro t ht;cases ht
   rcases mc hp with rfl | hp
   · refine ⟨ck0, by show w.heap.size < w1.heap.size; omega, ?_⟩;intro t ht;cases ht
   rcases mc hp with rfl | hp
   · refine ⟨ck1, by show w.heap.size < w1.heap.size; omega, ?_⟩;intro t ht;cases ht
   cases hp
 · intro t ht;cases ht
 · refine allc ?_ (allc ?_ (allc ?_ (allc ?_ (allc ?_ (allc ?_ (allc ?_ (allc ?_ (allc ?_ alln))))))));any_goals (first | (intro L fx w' hJ hL hp hcl; have _ := hp0 hp (by decide +kernel); refine wps rfl fun K hK => ?_; go_simp; exact hJ.q hK (by kernel_rfl) rfl) | fail)
   · intro L fx w' hJ hL hp hcl;refine wps rfl fun K hK => ?_;have cl0 := (hJ.cells _ mm0).1;try dsimp only at cl0
     go_simp;exact hJ.q hK (by kernel_rfl) rfl
   · intro L fx w' hJ hL hp hcl;have e0 := hJ.pt 0 7 (.slice (some ⟨S.o, 0, none⟩) S.R.length S.cap) rfl rfl rfl (hp 0 (by decide));rw [e0] at hJ ⊢; clear e0;have e1 := hJ.pt 1 8 (.int .i64 (i : Int)) rfl rfl rfl (hp 1 (by decide));rw [e1] at hJ ⊢; clear e1;refine wps rfl fun K hK => ?_;go_simp;exact hJ.q hK (by kernel_rfl) rfl
   · intro L fx w' hJ hL hp hcl;have e2 := hJ.pt 2 9 (.pointer (some ⟨S.o, i, none⟩)) rfl rfl rfl (hp 2 (by decide));rw [e2] at hJ ⊢; clear e2;refine wps rfl fun K hK => ?_;have cl0 := (hJ.cells _ mm1).1;try dsimp only at cl0
     go_simp;exact hJ.q hK (by kernel_rfl) rfl
   · intro L fx w' hJ hL hp hcl;refine wps rfl fun K hK => ?_;have cl0 := (hJ.cells _ mm0).1;try dsimp only at cl0
     go_simp;exact hJ.q hK (by kernel_rfl) rfl
   · intro L fx w' hJ hL hp hcl;have e4 := hJ.pt 4 11 (.slice (some ⟨S.o, 0, none⟩) S.R.length S.cap) rfl rfl rfl (hp 4 (by decide));rw [e4] at hJ ⊢; clear e4;have e5 := hJ.pt 5 12 (.int .i64 (j : Int)) rfl rfl rfl (hp 5 (by decide));rw [e5] at hJ ⊢; clear e5;refine wps rfl fun K hK => ?_;go_simp;exact hJ.q hK (by kernel_rfl) rfl
   · intro L fx w' hJ hL hp hcl;have e6 := hJ.pt 6 13 (.pointer (some ⟨S.o, j, none⟩)) rfl rfl rfl (hp 6 (by decide));rw [e6] at hJ ⊢; clear e6;refine wps rfl fun K hK => ?_;have cl0 := (hJ.cells _ mm2).1;try dsimp only at cl0
     go_simp;exact hJ.q hK (by kernel_rfl) rfl
   · intro L fx w' hJ hL hp hcl;refine wps rfl fun K hK => ?_;have cl0 := (hJ.cells _ mm3).1;have cl1 := (hJ.cells _ mm4).1;try dsimp only at cl0 cl1
     go_simp;exact hJ.q hK (by kernel_rfl) rfl
 · intro L x' w3 hL hJ;have hfr : Below w1.drew.heap.size w1.drew w3 := hJ.fr;have e3 : x' 10 = .slice (some ⟨S.R[i].blk, 0, none⟩) S.R[i].xs.length S.R[i].cap := hJ.slot 3 (by show 3 < 9; decide) (hL 3 (by show 3 < 9; decide));have e7 : x' 14 = .slice (some ⟨S.R[j].blk, 0, none⟩) S.R[j].xs.length S.R[j].cap := hJ.slot 7 (by show 7 < 9; decide) (hL 7 (by show 7 < 9; decide));have e8 : x' 15 = .agg #[.bool kp.1, .slice kp.2.1 kp.2.2.1 kp.2.2.2] := hJ.slot 8 (by show 8 < 9; decide) (hL 8 (by show 8 < 9; decide));rw [patchX (x := x') (d := 10) (v := .slice (some ⟨S.R[i].blk, 0, none⟩) S.R[i].xs.length S.R[i].cap) e3];rw [patchX (x := (updX x' 10 (.slice (some ⟨S.R[i].blk, 0, none⟩) S.R[i].xs.length S.R[i].cap))) (d := 14) (v := .slice (some ⟨S.R[j].blk, 0, none⟩) S.R[j].xs.length S.R[j].cap) e7];rw [patchX (x := (updX (updX x' 10 (.slice (some ⟨S.R[i].blk, 0, none⟩) S.R[i].xs.length S.R[i].cap)) 14 (.slice (some ⟨S.R[j].blk, 0, none⟩) S.R[j].xs.length S.R[j].cap))) (d := 15) (v := .agg #[.bool kp.1, .slice kp.2.1 kp.2.2.1 kp.2.2.2]) e8];clear hJ hL e3 e7 e8 cg ci cj ck0 ck1;refine wps rfl fun K hK => ?_;go_simp;go_at_call 71;refine (LAdd_c _ _ _ _ LA LB _ _ _ k _ (RowN.below (w := w1.drew) HX1.out hfr) (RowN.below (w := w1.drew) HY1.out hfr) (IntAt.below (w := w1.drew) HK1.out hfr) hne Hl.out HXL.out HYL.out hLab hlen).mono ?_;rintro e w4 ⟨rfl, hR4, hC4⟩;try dsimp only
   refine hK _ _ ⟨⟨updX (updX (updX (updX x' 10 (.slice (some ⟨S.R[i].blk, 0, none⟩) S.R[i].xs.length S.R[i].cap)) 14 (.slice (some ⟨S.R[j].blk, 0, none⟩) S.R[j].xs.length S.R[j].cap)) 15 (.agg #[.bool kp.1, .slice kp.2.1 kp.2.2.1 kp.2.2.2])) 16 (.tuple #[]), by kernel_rfl⟩, ?_⟩;clear hK;go_wp2;refine bodyPost_end (results_none (by kernel_rfl) _ _ _) rfl ?_;have hC0 : Chg S.rws w w3 := (Chg.of_below HB1.out).drew.below hfr;have hs3 := hfr.size;have hs4 : w1.drew.heap.size = w1.heap.size := rfl;have hCs : Chg (· = S.R[i].blk) w w4 := ((Chg.of_below HB1.out).drew.below hfr).trans (hC4.mono (fun k _ e => e));have hCo : Chg S.rws w w4 := hCs.mono (fun k _ e => .inr ⟨S.R[i], List.getElem_mem hi, e.symm⟩);have hM4 := HL.out.mat.setXs hi (addRow_length Hl.out) hCs hR4;exact ⟨rfl, HL.out.rows hCo hM4 (by unfold addR; rw [setXs_length]), hCo⟩
theorem matN_setXs2 {w w' : World} {o : Nat} {R : List Hd} (h : MatN w o R) {i j : Nat} (hi : i < R.length) (hj : j < R.length) (hij : i ≠ j) {xs ys : List Int} (hl : xs.length = R[i].xs.length) (hl2 : ys.length = R[j].xs.length) (hc : Chg (fun k => k = R[i].blk ∨ k = R[j].blk) w w') (hr : RowN w' R[i].blk xs) (hr2 : RowN w' R[j].blk ys) : MatN w' o (setXs (setXs R i xs) j ys) := by
 have hw : Wordless (fun k => k = R[i].blk ∨ k = R[j].blk) w := by
  rintro g (rfl | rfl)
  · exact (h.row _ (List.getElem_mem hi)).wordless _ rfl
  · exact (h.row _ (List.getElem_mem hj)).wordless _ rfl
 have hj' : j < (setXs R i xs).length := by rw [setXs_length]; exact hj
 have ej : (setXs R i xs)[j].xs = R[j].xs := by rw [setXs_get hj, if_neg hij]
 refine ⟨?_, fun r hr' => ?_, by rw [setXs_blk, setXs_blk]; exact h.nd⟩
 · rw [setXs_hdr hj' (by rw [ej]; exact hl2), setXs_hdr hi hl];exact h.out.chg hc (fun e => e.elim (fun e => h.ne (List.getElem_mem hi) e.symm) (fun e => h.ne (List.getElem_mem hj) e.symm))
 · obtain ⟨m, hm, rfl⟩ := List.getElem_of_mem hr';rw [setXs_length] at hm;have hm2 : m < R.length := by rw [setXs_length] at hm; exact hm
   rw [setXs_get hm];split
   · rename_i e;subst e;have : (setXs R i xs)[j].blk = R[j].blk := by rw [setXs_get hj, if_neg hij]
     simp only [this]; exact hr2
   · rename_i hjm;rw [setXs_get hm2];split
     · rename_i e; subst e; exact hr
     · rename_i him;exact hc.rowN hw (h.row _ (List.getElem_mem hm2)) (fun e => e.elim (blk_ne h.nd hm2 hi (fun e' => him e'.symm)) (blk_ne h.nd hm2 hj (fun e' => hjm e'.symm)))
def mixR (R : List Hd) (i j : Nat) (a b c d : Int) (hi : i < R.length) (hj : j < R.length) : List Hd := setXs (setXs R i (mixRow a b R[i].xs R[j].xs)) j (mixRow c d R[i].xs R[j].xs)
set_option maxRecDepth 100000 in
set_option maxHeartbeats 4000000 in
theorem LikeMix_c (S : LSt) (i j : Nat) (mp mq mr ms : P4) (a b c d : Int) (LA LB : Nat) (w : World) (h : SdAt w S) (hi : i < S.R.length) (hj : j < S.R.length) (hij : i ≠ j) (hA : IntAt w LA (av mp) a) (hB : IntAt w LA (av mq) b) (hC : IntAt w LA (av mr) c) (hD : IntAt w LA (av ms) d) (hl : S.R[i].xs.length = S.R[j].xs.length)
 (hxL : ∀ x ∈ S.R[i].xs, wlen x.natAbs <= LB) (hyL : ∀ y ∈ S.R[j].xs, wlen y.natAbs <= LB) (hLab : LA + LB <= 17592186044415) (hlen : S.R[i].xs.length <= 4611686018427387903) :
 Calls Tryz.prog 72 #[.int .i64 (i : Int), .int .i64 (j : Int), .agg #[.bool mp.1, .slice mp.2.1 mp.2.2.1 mp.2.2.2, .bool mq.1, .slice mq.2.1 mq.2.2.1 mq.2.2.2, .bool mr.1, .slice mr.2.1 mr.2.2.1 mr.2.2.2, .bool ms.1, .slice ms.2.1 ms.2.2.1 ms.2.2.2], .pointer (some ⟨S.g, 0, none⟩)] w fun e w' => e = .returned (.tuple #[]) /\ SdAt w' (S.withR (mixR S.R i j a b c d hi hj)) /\ Chg S.rws w w' := by
 have HL := Lib.hid h; clear h;have HA := Lib.hid hA; clear hA;have HB := Lib.hid hB; clear hB;have HC := Lib.hid hC; clear hC;have HD := Lib.hid hD; clear hD;have HXL := Lib.hid hxL; clear hxL;have HYL := Lib.hid hyL; clear hyL;have Hl := Lib.hid hl; clear hl;go_enter Tryz.func72, Tryz.ntmps72;unfold av at *;go_wp2;have hb1 : Below w.heap.size w (w.alloc (.cells #[.bool mp.1, .slice mp.2.1 mp.2.2.1 mp.2.2.2, .bool mq.1, .slice mq.2.1 mq.2.2.1 mq.2.2.2, .bool mr.1, .slice mr.2.1 mr.2.2.1 mr.2.2.2, .bool ms.1, .slice ms.2.1 ms.2.2.1 ms.2.2.2] 106)) := (Below.refl _ _).alloc (Nat.le_refl _) _;have hr1 := RowAt.new w #[.bool mp.1, .slice mp.2.1 mp.2.2.1 mp.2.2.2, .bool mq.1, .slice mq.2.1 mq.2.2.1 mq.2.2.2, .bool mr.1, .slice mr.2.1 mr.2.2.1 mr.2.2.2, .bool ms.1, .slice ms.2.1 ms.2.2.1 ms.2.2.2] 106;generalize w.alloc (.cells #[.bool mp.1, .slice mp.2.1 mp.2.2.1 mp.2.2.2, .bool mq.1, .slice mq.2.1 mq.2.2.1 mq.2.2.2, .bool mr.1, .slice mr.2.1 mr.2.2.1 mr.2.2.2, .bool ms.1, .slice ms.2.1 ms.2.2.1 ms.2.2.2] 106) = w1 at *;have hbox := HL.out.box.below hb1 HL.out.box.lt;have hM1 := HL.out.mat.below hb1;have HA1 := Lib.hid (HA.out.below hb1);have HB1' := Lib.hid (HB.out.below hb1);have HC1 := Lib.hid (HC.out.below hb1);have HD1 := Lib.hid (HD.out.below hb1);have HX1 := Lib.hid (hM1.row _ (List.getElem_mem hi));have HY1 := Lib.hid (hM1.row _ (List.getElem_mem hj));have hne := blk_ne hM1.nd hi hj hij;have cg : w1.cell? ⟨S.g, 0, none⟩ = some (.slice (some ⟨S.o, 0, none⟩) S.R.length S.cap) := hbox.cell 0;have ci : w1.cell? ⟨S.o, i, none⟩ = some (.slice (some ⟨S.R[i].blk, 0, none⟩) S.R[i].xs.length S.R[i].cap) := hM1.hdr hi;have cj : w1.cell? ⟨S.o, j, none⟩ = some (.slice (some ⟨S.R[j].blk, 0, none⟩) S.R[j].xs.length S.R[j].cap) := hM1.hdr hj;have HR1 := Lib.hid hr1;have hs0 : S.g < w1.heap.size := hbox.lt;have hs1 : S.o < w1.heap.size := hM1.out.lt;have hs2 : w.heap.size < w1.heap.size := hr1.lt;have hi' : (i : Int) < (S.R.length : Int) := by omega
 have hj' : (j : Int) < (S.R.length : Int) := by omega
 have HM1 := Lib.hid hM1; clear hM1;have HB1 := Lib.hid hb1; clear hb1;clear hr1 hbox;refine wp_region_K ⟨9, fun q_ => [7, 8, 9, 10, 11, 12, 13, 14, 15].getD q_ 0,
  fun q_ => [.val (.slice (some ⟨S.o, 0, none⟩) S.R.length S.cap), .val (.int .i64 (i : Int)), .val (.pointer (some ⟨S.o, i, none⟩)), .val (.slice (some ⟨S.R[i].blk, 0, none⟩) S.R[i].xs.length S.R[i].cap), .val (.slice (some ⟨S.o, 0, none⟩) S.R.length S.cap), .val (.int .i64 (j : Int)), .val (.pointer (some ⟨S.o, j, none⟩)), .val (.slice (some ⟨S.R[j].blk, 0, none⟩) S.R[j].xs.length S.R[j].cap), .val (.agg #[.bool mp.1, .slice mp.2.1 mp.2.2.1 mp.2.2.2, .bool mq.1, .slice mq.2.1 mq.2.2.1 mq.2.2.2, .bool mr.1, .slice mr.2.1 mr.2.2.1 mr.2.2.2, .bool ms.1, .slice ms.2.1 ms.2.2.1 ms.2.2.2])].getD q_ .any,
  [],
  [],
  [(w.heap.size, 106, [.bool mp.1, .slice mp.2.1 mp.2.2.1 mp.2.2.2, .bool mq.1, .slice mq.2.1 mq.2.2.1 mq.2.2.2, .bool mr.1, .slice mr.2.1 mr.2.2.1 mr.2.2.2, .bool ms.1, .slice ms.2.1 ms.2.2.1 ms.2.2.2])],
  [], [(⟨S.g, 0, none⟩, .slice (some ⟨S.o, 0, none⟩) S.R.length S.cap), (⟨S.o, i, none⟩, .slice (some ⟨S.R[i].blk, 0, none⟩) S.R[i].xs.length S.R[i].cap), (⟨S.o, j, none⟩, .slice (some ⟨S.R[j].blk, 0, none⟩) S.R[j].xs.length S.R[j].cap)], []⟩ [7, 8, 9, 10, 11, 12, 13, 14, 15, 16] (w1.heap.size) (by kernel_rfl) (by kernel_rfl) (by kernel_rfl) (by kernel_rfl) (by kernel_rfl) ?_ ?_ ?_ ?_ ?_ ?_
 · intro p hp;cases hp
 · intro p hp;rcases mc hp with rfl | hp
   · refine ⟨HR1.out, by show w.heap.size < w1.heap.size; omega, ?_⟩;intro t ht;cases ht
   cases hp
 · intro p hp;rcases mc hp with rfl | hp
   · refine ⟨cg, by show S.g < w1.heap.size; omega, ?_⟩;intro t ht;cases ht
   rcases mc hp with rfl | hp
   · refine ⟨ci, by show S.o < w1.heap.size; omega, ?_⟩;intro t ht;cases ht
   rcases mc hp with rfl | hp
   · refine ⟨cj, by show S.o < w1.heap.size; omega, ?_⟩;intro t ht;cases ht
   cases hp
 · intro t ht;cases ht
 · refine allc ?_ (allc ?_ (allc ?_ (allc ?_ (allc ?_ (allc ?_ (allc ?_ (allc ?_ (allc ?_ alln))))))));any_goals (first | (intro L fx w' hJ hL hp hcl; have _ := hp0 hp (by decide +kernel); refine wps rfl fun K hK => ?_; go_simp; exact hJ.q hK (by kernel_rfl) rfl) | fail)
   · intro L fx w' hJ hL hp hcl;refine wps rfl fun K hK => ?_;have cl0 := (hJ.cells _ mm0).1;try dsimp only at cl0
     go_simp;exact hJ.q hK (by kernel_rfl) rfl
   · intro L fx w' hJ hL hp hcl;have e0 := hJ.pt 0 7 (.slice (some ⟨S.o, 0, none⟩) S.R.length S.cap) rfl rfl rfl (hp 0 (by decide));rw [e0] at hJ ⊢; clear e0;have e1 := hJ.pt 1 8 (.int .i64 (i : Int)) rfl rfl rfl (hp 1 (by decide));rw [e1] at hJ ⊢; clear e1;refine wps rfl fun K hK => ?_;go_simp;exact hJ.q hK (by kernel_rfl) rfl
   · intro L fx w' hJ hL hp hcl;have e2 := hJ.pt 2 9 (.pointer (some ⟨S.o, i, none⟩)) rfl rfl rfl (hp 2 (by decide));rw [e2] at hJ ⊢; clear e2;refine wps rfl fun K hK => ?_;have cl0 := (hJ.cells _ mm1).1;try dsimp only at cl0
     go_simp;exact hJ.q hK (by kernel_rfl) rfl
   · intro L fx w' hJ hL hp hcl;refine wps rfl fun K hK => ?_;have cl0 := (hJ.cells _ mm0).1;try dsimp only at cl0
     go_simp;exact hJ.q hK (by kernel_rfl) rfl
   · intro L fx w' hJ hL hp hcl;have e4 := hJ.pt 4 11 (.slice (some ⟨S.o, 0, none⟩) S.R.length S.cap) rfl rfl rfl (hp 4 (by decide));rw [e4] at hJ ⊢; clear e4;have e5 := hJ.pt 5 12 (.int .i64 (j : Int)) rfl rfl rfl (hp 5 (by decide));rw [e5] at hJ ⊢; clear e5;refine wps rfl fun K hK => ?_;go_simp;exact hJ.q hK (by kernel_rfl) rfl
   · intro L fx w' hJ hL hp hcl;have e6 := hJ.pt 6 13 (.pointer (some ⟨S.o, j, none⟩)) rfl rfl rfl (hp 6 (by decide));rw [e6] at hJ ⊢; clear e6;refine wps rfl fun K hK => ?_;have cl0 := (hJ.cells _ mm2).1;try dsimp only at cl0
     go_simp;exact hJ.q hK (by kernel_rfl) rfl
   · intro L fx w' hJ hL hp hcl;refine wps rfl fun K hK => ?_;have rw0 := (hJ.rows _ mm0).1;have cl0 : w'.cell? ⟨w.heap.size, 0, none⟩ = some (.bool mp.1) := rw0.cell 0;have cl1 : w'.cell? ⟨w.heap.size, 1, none⟩ = some (.slice mp.2.1 mp.2.2.1 mp.2.2.2) := rw0.cell 1;have cl2 : w'.cell? ⟨w.heap.size, 2, none⟩ = some (.bool mq.1) := rw0.cell 2;have cl3 : w'.cell? ⟨w.heap.size, 3, none⟩ = some (.slice mq.2.1 mq.2.2.1 mq.2.2.2) := rw0.cell 3;have cl4 : w'.cell? ⟨w.heap.size, 4, none⟩ = some (.bool mr.1) := rw0.cell 4;have cl5 : w'.cell? ⟨w.heap.size, 5, none⟩ = some (.slice mr.2.1 mr.2.2.1 mr.2.2.2) := rw0.cell 5;have cl6 : w'.cell? ⟨w.heap.size, 6, none⟩ = some (.bool ms.1) := rw0.cell 6;have cl7 : w'.cell? ⟨w.heap.size, 7, none⟩ = some (.slice ms.2.1 ms.2.2.1 ms.2.2.2) := rw0.cell 7;go_simp;exact hJ.q hK (by kernel_rfl) rfl
 · intro L x' w3 hL hJ;have hfr : Below w1.drew.heap.size w1.drew w3 := hJ.fr;have e3 : x' 10 = .slice (some ⟨S.R[i].blk, 0, none⟩) S.R[i].xs.length S.R[i].cap := hJ.slot 3 (by show 3 < 9; decide) (hL 3 (by show 3 < 9; decide));have e7 : x' 14 = .slice (some ⟨S.R[j].blk, 0, none⟩) S.R[j].xs.length S.R[j].cap := hJ.slot 7 (by show 7 < 9; decide) (hL 7 (by show 7 < 9; decide));have e8 : x' 15 = .agg #[.bool mp.1, .slice mp.2.1 mp.2.2.1 mp.2.2.2, .bool mq.1, .slice mq.2.1 mq.2.2.1 mq.2.2.2, .bool mr.1, .slice mr.2.1 mr.2.2.1 mr.2.2.2, .bool ms.1, .slice ms.2.1 ms.2.2.1 ms.2.2.2] := hJ.slot 8 (by show 8 < 9; decide) (hL 8 (by show 8 < 9; decide));rw [patchX (x := x') (d := 10) (v := .slice (some ⟨S.R[i].blk, 0, none⟩) S.R[i].xs.length S.R[i].cap) e3];rw [patchX (x := (updX x' 10 (.slice (some ⟨S.R[i].blk, 0, none⟩) S.R[i].xs.length S.R[i].cap))) (d := 14) (v := .slice (some ⟨S.R[j].blk, 0, none⟩) S.R[j].xs.length S.R[j].cap) e7];rw [patchX (x := (updX (updX x' 10 (.slice (some ⟨S.R[i].blk, 0, none⟩) S.R[i].xs.length S.R[i].cap)) 14 (.slice (some ⟨S.R[j].blk, 0, none⟩) S.R[j].xs.length S.R[j].cap))) (d := 15) (v := .agg #[.bool mp.1, .slice mp.2.1 mp.2.2.1 mp.2.2.2, .bool mq.1, .slice mq.2.1 mq.2.2.1 mq.2.2.2, .bool mr.1, .slice mr.2.1 mr.2.2.1 mr.2.2.2, .bool ms.1, .slice ms.2.1 ms.2.2.1 ms.2.2.2]) e8];clear hJ hL e3 e7 e8 cg ci cj;refine wps rfl fun K hK => ?_;go_simp;go_at_call 73;refine (LMix_c _ _ _ _ LA LB _ _ mp mq mr ms a b c d _ (RowN.below (w := w1.drew) HX1.out hfr) (RowN.below (w := w1.drew) HY1.out hfr) (IntAt.below (w := w1.drew) HA1.out hfr) (IntAt.below (w := w1.drew) HB1'.out hfr) (IntAt.below (w := w1.drew) HC1.out hfr) (IntAt.below (w := w1.drew) HD1.out hfr) hne Hl.out HXL.out HYL.out hLab hlen).mono ?_;rintro e w4 ⟨rfl, hR4, hR4', hC4⟩;try dsimp only
   refine hK _ _ ⟨⟨updX (updX (updX (updX x' 10 (.slice (some ⟨S.R[i].blk, 0, none⟩) S.R[i].xs.length S.R[i].cap)) 14 (.slice (some ⟨S.R[j].blk, 0, none⟩) S.R[j].xs.length S.R[j].cap)) 15 (.agg #[.bool mp.1, .slice mp.2.1 mp.2.2.1 mp.2.2.2, .bool mq.1, .slice mq.2.1 mq.2.2.1 mq.2.2.2, .bool mr.1, .slice mr.2.1 mr.2.2.1 mr.2.2.2, .bool ms.1, .slice ms.2.1 ms.2.2.1 ms.2.2.2])) 16 (.tuple #[]), by kernel_rfl⟩, ?_⟩;clear hK;go_wp2;refine bodyPost_end (results_none (by kernel_rfl) _ _ _) rfl ?_;have hC0 : Chg S.rws w w3 := (Chg.of_below HB1.out).drew.below hfr;have hs3 := hfr.size;have hs4 : w1.drew.heap.size = w1.heap.size := rfl;have hCs : Chg (fun k => k = S.R[i].blk ∨ k = S.R[j].blk) w w4 := ((Chg.of_below HB1.out).drew.below hfr).trans (hC4.mono (fun k _ e => e));have hCo : Chg S.rws w w4 := hCs.mono (fun k _ e => .inr (e.elim (fun e => ⟨S.R[i], List.getElem_mem hi, e.symm⟩) (fun e => ⟨S.R[j], List.getElem_mem hj, e.symm⟩)));have hM4 := matN_setXs2 HL.out.mat hi hj hij (mixRow_length Hl.out) ((mixRow_length Hl.out).trans Hl.out) hCs hR4 hR4';exact ⟨rfl, HL.out.rows hCo hM4 (by unfold mixR; rw [setXs_length, setXs_length]), hCo⟩
theorem MatN.drew {w : World} {o : Nat} {R : List Hd} (h : MatN w o R) : MatN w.drew o R := ⟨h.out, h.row, h.nd⟩
theorem SdAt.drew {w : World} {S : LSt} (h : SdAt w S) : SdAt w.drew S := ⟨h.box, h.mat.drew⟩
theorem LadAt.drew {w : World} {S : LSt} (h : LadAt w S) : LadAt w.drew S := ⟨h.lad, h.sides, h.box, h.mat.drew, fun t ht => by obtain ⟨V, hV⟩ := h.ext t ht; exact ⟨V, hV.sd.drew, hV.box3, hV.rel, hV.own, hV.apart⟩⟩
def swapR (R : List Hd) (i j : Nat) (hi : i < R.length) (hj : j < R.length) : List Hd := (R.set i R[j]).set j R[i]
def swp (i j m : Nat) : Nat := if m = j then i else if m = i then j else m
theorem swp_lt {i j m n : Nat} (hi : i < n) (hj : j < n) (hm : m < n) : swp i j m < n := by unfold swp; (repeat' split) <;> assumption
theorem swp_inj {i j a b : Nat} (h : swp i j a = swp i j b) : a = b := by unfold swp at h; (repeat' split at h) <;> omega
theorem swapR_length {R : List Hd} {i j : Nat} (hi : i < R.length) (hj : j < R.length) : (swapR R i j hi hj).length = R.length := by simp [swapR]
theorem swapR_get {R : List Hd} {i j m : Nat} (hi : i < R.length) (hj : j < R.length) (hm : m < R.length) : (swapR R i j hi hj)[m]'(by rw [swapR_length]; exact hm) = R[swp i j m]'(swp_lt hi hj hm) := by
 unfold swapR;rw [List.getElem_set];split
 · rename_i e; subst e; congr 1; unfold swp; rw [if_pos rfl]
 · rename_i e;rw [List.getElem_set];split
   · rename_i e'; subst e'; congr 1; unfold swp; rw [if_neg (fun h => e h.symm), if_pos rfl]
   · rename_i e'; congr 1; unfold swp; rw [if_neg (fun h => e h.symm), if_neg (fun h => e' h.symm)]
theorem swapR_hdr {R : List Hd} {i j : Nat} (hi : i < R.length) (hj : j < R.length) : (swapR R i j hi hj).map Hd.hdr = ((R.map Hd.hdr).set i (R[j]).hdr).set j (R[i]).hdr := by
 unfold swapR; rw [List.map_set, List.map_set]
theorem matN_swap {w w' : World} {o : Nat} {R : List Hd} (h : MatN w o R) {i j : Nat} (hi : i < R.length) (hj : j < R.length) (hc : Chg (· = o) w w') (hr : RowP w' o 22 (((R.map Hd.hdr).set i (R[j]).hdr).set j (R[i]).hdr)) : MatN w' o (swapR R i j hi hj) := by
 have hw : Wordless (· = o) w := by rintro g rfl; obtain ⟨tl, n, ho⟩ := h.out; exact ⟨_, _, ho, NoW.append (NoW_hdrs _) n⟩
 refine ⟨by rw [swapR_hdr]; exact hr, fun r hr' => ?_, ?_⟩
 · obtain ⟨m, hm, rfl⟩ := List.getElem_of_mem hr';rw [swapR_length] at hm;rw [swapR_get hi hj hm];have hmem := List.getElem_mem (l := R) (swp_lt hi hj hm);exact hc.rowN hw (h.row _ hmem) (h.ne hmem)
 · refine List.pairwise_iff_getElem.2 fun a b ha hb hab => ?_;have ha' : a < R.length := by simpa [swapR_length] using ha
   have hb' : b < R.length := by simpa [swapR_length] using hb
   simp only [List.getElem_map];rw [swapR_get hi hj ha', swapR_get hi hj hb'];exact blk_ne h.nd (swp_lt hi hj ha') (swp_lt hi hj hb') (fun e => by have := swp_inj e; omega)
theorem wp_region_L (J : (Nat -> Bool) -> (Nat -> Value) -> World -> Prop) (ds : List Nat) {P : Program} {ops : Array Oper} {Q : Exit -> Act -> World -> Prop} {id n : Nat} {a : Act} {w : World} (hm : P.follows .mixedOrders = true) (hn : ops.size = n)
 (hb : ((List.range n).all fun i => ((ops[i]?).map (·.after.all fun e => !Region.binds .any e || decide (e.on < i))).getD false) = true)
 (hF : a = putAll a (fun k => a.tmps.getD k undef) ds) (h0 : ∀ x, J (fun _ => false) x w.drew)
 (hs : ∀ i ∈ List.range n, ∀ L x w', J L x w' -> (∀ k < n, L k = true -> ∀ j ∈ preOf ops k, L j = true) -> L i = false -> (∀ j ∈ preOf ops i, L j = true) -> wpOp P ops Q i (fun a' w'' => ∃ x', a' = putAll a x' ds /\ J (updL L i) x' w'') (putAll a x ds) w')
 (hend : ∀ L x w', (∀ i < n, L i = true) -> J L x w' -> Q .normal (putAll a x ds) w') : (Code.region id ops true).wp P Q a w :=
 wp_region_inv hm hn hb (fun x => putAll a x ds) J (fun k => a.tmps.getD k undef) hF (h0 _) (fun i hi L x w' hJ hG hL hp => hs i (List.mem_range.2 hi) L x w' hJ (fun k hk hLk => preOf_spec L k (hG k hk hLk)) hL (preOf_spec L i hp)) hend
def swD (k : Nat) : Nat := if k < 13 then k + 5 else 18
def swV (S : LSt) (i j : Nat) (hi : i < S.R.length) (hj : j < S.R.length) (k : Nat) : Value := [.slice (some ⟨S.o, 0, none⟩) S.R.length S.cap, .int .i64 (i : Int), .slice (some ⟨S.o, 0, none⟩) S.R.length S.cap, .int .i64 (j : Int), .slice (some ⟨S.o, 0, none⟩) S.R.length S.cap, .int .i64 (j : Int), .pointer (some ⟨S.o, j, none⟩), .slice (some ⟨(S.R[j]'hj).blk, 0, none⟩) (S.R[j]'hj).xs.length (S.R[j]'hj).cap, .slice (some ⟨S.o, 0, none⟩) S.R.length S.cap, .int .i64 (i : Int), .pointer (some ⟨S.o, i, none⟩), .slice (some ⟨(S.R[i]'hi).blk, 0, none⟩) (S.R[i]'hi).xs.length (S.R[i]'hi).cap, .pointer (some ⟨S.o, i, none⟩), undef, .pointer (some ⟨S.o, j, none⟩), undef].getD k undef
def swW (S : LSt) (i j : Nat) (hi : i < S.R.length) (hj : j < S.R.length) (w : World) : Bool -> Bool -> World
 | true, true => (w.setCell ⟨S.o, i, none⟩ (.slice (some ⟨(S.R[j]'hj).blk, 0, none⟩) (S.R[j]'hj).xs.length (S.R[j]'hj).cap)).setCell ⟨S.o, j, none⟩ (.slice (some ⟨(S.R[i]'hi).blk, 0, none⟩) (S.R[i]'hi).xs.length (S.R[i]'hi).cap)
 | true, false => w.setCell ⟨S.o, i, none⟩ (.slice (some ⟨(S.R[j]'hj).blk, 0, none⟩) (S.R[j]'hj).xs.length (S.R[j]'hj).cap)
 | false, _ => w
def swJ (S : LSt) (i j : Nat) (hi : i < S.R.length) (hj : j < S.R.length) (w : World) (L : Nat -> Bool) (x : Nat -> Value) (w' : World) : Prop :=
 (∀ k, k < 16 -> k ≠ 13 -> k ≠ 15 -> L k = true -> x (swD k) = swV S i j hi hj k) /\ w' = swW S i j hi hj w (L 13) (L 15)
theorem swJ.pure {S : LSt} {i j : Nat} {hi : i < S.R.length} {hj : j < S.R.length} {w w' : World} {L : Nat -> Bool} {x : Nat -> Value} (h : swJ S i j hi hj w L x w') (k : Nat) (hk : Nat.blt k 16 = true) (h1 : Nat.beq k 13 = false) (h2 : Nat.beq k 15 = false) :
 swJ S i j hi hj w (updL L k) (updX x (swD k) (swV S i j hi hj k)) w' := by
 have hk := Nat.le_of_ble_eq_true hk;have h1 : k ≠ 13 := fun e => by subst e; cases h1
 have h2 : k ≠ 15 := fun e => by subst e; cases h2
 refine ⟨fun m hm hm1 hm2 hL => ?_, ?_⟩
 · unfold updX;by_cases e : m = k
   · subst e; rw [if_pos rfl]
   · rw [if_neg (by unfold swD; split <;> split <;> omega)];unfold updL at hL;rw [if_neg e] at hL;exact h.1 m hm hm1 hm2 hL
 · show w' = swW S i j hi hj w (updL L k 13) (updL L k 15);unfold updL;rw [if_neg (Ne.symm h1), if_neg (Ne.symm h2)];exact h.2
set_option maxRecDepth 100000 in
set_option maxHeartbeats 4000000 in
theorem LikeSwap_c (S : LSt) (i j : Nat) (w : World) (h : SdAt w S) (hi : i < S.R.length) (hj : j < S.R.length) (hij : i ≠ j) :
 Calls Tryz.prog 67 #[.int .i64 (i : Int), .int .i64 (j : Int), .pointer (some ⟨S.g, 0, none⟩)] w fun e w' => e = .returned (.tuple #[]) /\ SdAt w' (S.withR (swapR S.R i j hi hj)) /\ Chg S.rws w w' := by
 have hgo : S.g ≠ S.o := h.box.neP h.mat.out (by decide);have hog : ¬ S.o = S.g := fun e => hgo e.symm;have cg : w.cell? ⟨S.g, 0, none⟩ = some (.slice (some ⟨S.o, 0, none⟩) S.R.length S.cap) := h.box.cell 0;have ci : w.cell? ⟨S.o, i, none⟩ = some (.slice (some ⟨S.R[i].blk, 0, none⟩) S.R[i].xs.length S.R[i].cap) := h.mat.hdr hi;have cj : w.cell? ⟨S.o, j, none⟩ = some (.slice (some ⟨S.R[j].blk, 0, none⟩) S.R[j].xs.length S.R[j].cap) := h.mat.hdr hj;have fi := h.mat.out.free i;have fj := h.mat.out.free j;have hi' : (i : Int) < (S.R.length : Int) := by omega
 have hj' : (j : Int) < (S.R.length : Int) := by omega
 have hji : ¬ j = i := fun e => hij e.symm;have HL := Lib.hid h; clear h;go_enter Tryz.func67, Tryz.ntmps67;go_wp2;have hcell : ∀ a b, (swW S i j hi hj w.drew a b).cell? ⟨S.g, 0, none⟩ = some (.slice (some ⟨S.o, 0, none⟩) S.R.length S.cap) := by
  intro a b;cases a
  · exact cg
  · cases b
    · exact (World.cell?_setCell_far _ _ _ _ hog).trans cg
    · exact (World.cell?_setCell_far _ _ _ _ hog).trans ((World.cell?_setCell_far _ _ _ _ hog).trans cg)
 have HC := Lib.hid hcell;clear hcell;refine wp_region_L (swJ S i j hi hj w.drew) [5, 6, 7, 8, 9, 10, 11, 12, 13, 14, 15, 16, 17, 18] (n := 16) (by kernel_rfl) (by kernel_rfl) (by kernel_rfl) (by kernel_rfl) ?_ ?_ ?_
 · exact fun _ => ⟨fun _ _ _ _ h => by simp at h, rfl⟩
 · refine allc ?_ (allc ?_ (allc ?_ (allc ?_ (allc ?_ (allc ?_ (allc ?_ (allc ?_ (allc ?_ (allc ?_ (allc ?_ (allc ?_ (allc ?_ (allc ?_ (allc ?_ (allc ?_ alln)))))))))))))))
   · intro L x w' hJ hG hL hp;have c0 : w'.cell? ⟨S.g, 0, none⟩ = some (.slice (some ⟨S.o, 0, none⟩) S.R.length S.cap) := by rw [hJ.2]; exact HC.out _ _
     refine wpOp_step rfl (fun K hK => ?_);simp only [pN, Nat.reduceEqDiff, ↓reduceIte];go_simp;exact hK _ _ ⟨_, by kernel_rfl, hJ.pure 0 rfl rfl rfl⟩
   · intro L x w' hJ hG hL hp;refine wpOp_step rfl (fun K hK => ?_);simp only [pN, Nat.reduceEqDiff, ↓reduceIte];go_simp;exact hK _ _ ⟨_, by kernel_rfl, hJ.pure 1 rfl rfl rfl⟩
   · intro L x w' hJ hG hL hp;have c0 : w'.cell? ⟨S.g, 0, none⟩ = some (.slice (some ⟨S.o, 0, none⟩) S.R.length S.cap) := by rw [hJ.2]; exact HC.out _ _
     refine wpOp_step rfl (fun K hK => ?_);simp only [pN, Nat.reduceEqDiff, ↓reduceIte];go_simp;exact hK _ _ ⟨_, by kernel_rfl, hJ.pure 2 rfl rfl rfl⟩
   · intro L x w' hJ hG hL hp;refine wpOp_step rfl (fun K hK => ?_);simp only [pN, Nat.reduceEqDiff, ↓reduceIte];go_simp;exact hK _ _ ⟨_, by kernel_rfl, hJ.pure 3 rfl rfl rfl⟩
   · intro L x w' hJ hG hL hp;have c0 : w'.cell? ⟨S.g, 0, none⟩ = some (.slice (some ⟨S.o, 0, none⟩) S.R.length S.cap) := by rw [hJ.2]; exact HC.out _ _
     refine wpOp_step rfl (fun K hK => ?_);simp only [pN, Nat.reduceEqDiff, ↓reduceIte];go_simp;exact hK _ _ ⟨_, by kernel_rfl, hJ.pure 4 rfl rfl rfl⟩
   · intro L x w' hJ hG hL hp;refine wpOp_step rfl (fun K hK => ?_);simp only [pN, Nat.reduceEqDiff, ↓reduceIte];go_simp;exact hK _ _ ⟨_, by kernel_rfl, hJ.pure 5 rfl rfl rfl⟩
   · intro L x w' hJ hG hL hp;have e4 : x 9 = (.slice (some ⟨S.o, 0, none⟩) S.R.length S.cap) := hJ.1 4 (by decide) (by decide) (by decide) (hp 4 (by decide));have e5 : x 10 = (.int .i64 (j : Int)) := hJ.1 5 (by decide) (by decide) (by decide) (hp 5 (by decide));rw [patchX (x := x) (d := 9) e4] at hJ ⊢;rw [patchX (x := (updX x 9 (.slice (some ⟨S.o, 0, none⟩) S.R.length S.cap))) (d := 10) e5] at hJ ⊢;refine wpOp_step rfl (fun K hK => ?_);simp only [pN, Nat.reduceEqDiff, ↓reduceIte];go_simp;exact hK _ _ ⟨_, by kernel_rfl, hJ.pure 6 rfl rfl rfl⟩
   · intro L x w' hJ hG hL hp;have e6 : x 11 = (.pointer (some ⟨S.o, j, none⟩)) := hJ.1 6 (by decide) (by decide) (by decide) (hp 6 (by decide));rw [patchX (x := x) (d := 11) e6] at hJ ⊢;have h13 : L 13 = false := by cases h : L 13 with | false => rfl | true => have := hG 13 (by decide) h 7 (by decide); rw [hL] at this; cases this
     have hw : w' = w.drew := by rw [hJ.2, h13]; rfl
     rw [hw] at hJ ⊢;have cj' : w.drew.cell? ⟨S.o, j, none⟩ = some (.slice (some ⟨(S.R[j]'hj).blk, 0, none⟩) (S.R[j]'hj).xs.length (S.R[j]'hj).cap) := cj;refine wpOp_step rfl (fun K hK => ?_);simp only [pN, Nat.reduceEqDiff, ↓reduceIte];go_simp;exact hK _ _ ⟨_, by kernel_rfl, hJ.pure 7 rfl rfl rfl⟩
   · intro L x w' hJ hG hL hp;have c0 : w'.cell? ⟨S.g, 0, none⟩ = some (.slice (some ⟨S.o, 0, none⟩) S.R.length S.cap) := by rw [hJ.2]; exact HC.out _ _
     refine wpOp_step rfl (fun K hK => ?_);simp only [pN, Nat.reduceEqDiff, ↓reduceIte];go_simp;exact hK _ _ ⟨_, by kernel_rfl, hJ.pure 8 rfl rfl rfl⟩
   · intro L x w' hJ hG hL hp;refine wpOp_step rfl (fun K hK => ?_);simp only [pN, Nat.reduceEqDiff, ↓reduceIte];go_simp;exact hK _ _ ⟨_, by kernel_rfl, hJ.pure 9 rfl rfl rfl⟩
   · intro L x w' hJ hG hL hp;have e8 : x 13 = (.slice (some ⟨S.o, 0, none⟩) S.R.length S.cap) := hJ.1 8 (by decide) (by decide) (by decide) (hp 8 (by decide));have e9 : x 14 = (.int .i64 (i : Int)) := hJ.1 9 (by decide) (by decide) (by decide) (hp 9 (by decide));rw [patchX (x := x) (d := 13) e8] at hJ ⊢;rw [patchX (x := (updX x 13 (.slice (some ⟨S.o, 0, none⟩) S.R.length S.cap))) (d := 14) e9] at hJ ⊢;refine wpOp_step rfl (fun K hK => ?_);simp only [pN, Nat.reduceEqDiff, ↓reduceIte];go_simp;exact hK _ _ ⟨_, by kernel_rfl, hJ.pure 10 rfl rfl rfl⟩
   · intro L x w' hJ hG hL hp;have e10 : x 15 = (.pointer (some ⟨S.o, i, none⟩)) := hJ.1 10 (by decide) (by decide) (by decide) (hp 10 (by decide));rw [patchX (x := x) (d := 15) e10] at hJ ⊢;have h13 : L 13 = false := by cases h : L 13 with | false => rfl | true => have := hG 13 (by decide) h 11 (by decide); rw [hL] at this; cases this
     have hw : w' = w.drew := by rw [hJ.2, h13]; rfl
     rw [hw] at hJ ⊢;have ci' : w.drew.cell? ⟨S.o, i, none⟩ = some (.slice (some ⟨(S.R[i]'hi).blk, 0, none⟩) (S.R[i]'hi).xs.length (S.R[i]'hi).cap) := ci;refine wpOp_step rfl (fun K hK => ?_);simp only [pN, Nat.reduceEqDiff, ↓reduceIte];go_simp;exact hK _ _ ⟨_, by kernel_rfl, hJ.pure 11 rfl rfl rfl⟩
   · intro L x w' hJ hG hL hp;have e0 : x 5 = (.slice (some ⟨S.o, 0, none⟩) S.R.length S.cap) := hJ.1 0 (by decide) (by decide) (by decide) (hp 0 (by decide));have e1 : x 6 = (.int .i64 (i : Int)) := hJ.1 1 (by decide) (by decide) (by decide) (hp 1 (by decide));rw [patchX (x := x) (d := 5) e0] at hJ ⊢;rw [patchX (x := (updX x 5 (.slice (some ⟨S.o, 0, none⟩) S.R.length S.cap))) (d := 6) e1] at hJ ⊢;refine wpOp_step rfl (fun K hK => ?_);simp only [pN, Nat.reduceEqDiff, ↓reduceIte];go_simp;exact hK _ _ ⟨_, by kernel_rfl, hJ.pure 12 rfl rfl rfl⟩
   · intro L x w' hJ hG hL hp;have e12 : x 17 = (.pointer (some ⟨S.o, i, none⟩)) := hJ.1 12 (by decide) (by decide) (by decide) (hp 12 (by decide));have e7 : x 12 = (.slice (some ⟨(S.R[j]'hj).blk, 0, none⟩) (S.R[j]'hj).xs.length (S.R[j]'hj).cap) := hJ.1 7 (by decide) (by decide) (by decide) (hp 7 (by decide));rw [patchX (x := x) (d := 17) e12] at hJ ⊢;rw [patchX (x := (updX x 17 (.pointer (some ⟨S.o, i, none⟩)))) (d := 12) e7] at hJ ⊢;have hw : w' = w.drew := by rw [hJ.2, hL]; rfl
     rw [hw] at hJ ⊢;refine wpOp_step rfl (fun K hK => ?_);simp only [pN, Nat.reduceEqDiff, ↓reduceIte];go_simp;have h15 : L 15 = false := by cases h : L 15 with | false => rfl | true => have := hG 15 (by decide) h 13 (by decide); rw [hL] at this; cases this
     refine hK _ _ ⟨_, by kernel_rfl, fun m hm h1 h2 hLm => hJ.1 m hm h1 h2 (by unfold updL at hLm; rw [if_neg h1] at hLm; exact hLm), ?_⟩;have e1 : updL L 13 13 = true := rfl;have e2 : updL L 13 15 = false := h15;rw [e1, e2];rfl
   · intro L x w' hJ hG hL hp;have e2 : x 7 = (.slice (some ⟨S.o, 0, none⟩) S.R.length S.cap) := hJ.1 2 (by decide) (by decide) (by decide) (hp 2 (by decide));have e3 : x 8 = (.int .i64 (j : Int)) := hJ.1 3 (by decide) (by decide) (by decide) (hp 3 (by decide));rw [patchX (x := x) (d := 7) e2] at hJ ⊢;rw [patchX (x := (updX x 7 (.slice (some ⟨S.o, 0, none⟩) S.R.length S.cap))) (d := 8) e3] at hJ ⊢;refine wpOp_step rfl (fun K hK => ?_);simp only [pN, Nat.reduceEqDiff, ↓reduceIte];go_simp;exact hK _ _ ⟨_, by kernel_rfl, hJ.pure 14 rfl rfl rfl⟩
   · intro L x w' hJ hG hL hp;have e14 : x 18 = (.pointer (some ⟨S.o, j, none⟩)) := hJ.1 14 (by decide) (by decide) (by decide) (hp 14 (by decide));have e11 : x 16 = (.slice (some ⟨(S.R[i]'hi).blk, 0, none⟩) (S.R[i]'hi).xs.length (S.R[i]'hi).cap) := hJ.1 11 (by decide) (by decide) (by decide) (hp 11 (by decide));rw [patchX (x := x) (d := 18) e14] at hJ ⊢;rw [patchX (x := (updX x 18 (.pointer (some ⟨S.o, j, none⟩)))) (d := 16) e11] at hJ ⊢;have h13 : L 13 = true := hp 13 (by decide);have hw : w' = w.drew.setCell ⟨S.o, i, none⟩ (S.R[j]'hj).hdr := by rw [hJ.2, h13, hL]; rfl
     rw [hw] at hJ ⊢;refine wpOp_step rfl (fun K hK => ?_);simp only [pN, Nat.reduceEqDiff, ↓reduceIte];go_simp;refine hK _ _ ⟨_, by kernel_rfl, fun m hm h1 h2 hLm => hJ.1 m hm h1 h2 (by unfold updL at hLm; rw [if_neg h2] at hLm; exact hLm), ?_⟩;have e1 : updL L 15 13 = true := h13;have e2 : updL L 15 15 = true := rfl;rw [e1, e2];rfl
 · intro L x w' hL hJ;have hw : w' = (w.drew.setCell ⟨S.o, i, none⟩ (S.R[j]'hj).hdr).setCell ⟨S.o, j, none⟩ (S.R[i]'hi).hdr := by rw [hJ.2, hL 13 (by decide), hL 15 (by decide)]; rfl
   rw [hw];simp only [pN, Nat.reduceEqDiff, ↓reduceIte];go_wp2;refine bodyPost_end (results_none (by kernel_rfl) _ _ _) rfl ?_;have hC : Chg (· = S.o) w ((w.setCell ⟨S.o, i, none⟩ (S.R[j]).hdr).setCell ⟨S.o, j, none⟩ (S.R[i]).hdr) := ((Chg.refl (· = S.o) w).set (p := ⟨S.o, i, none⟩) rfl _).set (p := ⟨S.o, j, none⟩) rfl _;have hR := (HL.out.mat.out.set (i := i) (by simpa using hi) (S.R[j]).hdr).set (i := j) (by simpa using hj) (S.R[i]).hdr;have hM := matN_swap HL.out.mat hi hj hC hR;have hCo : Chg S.rws w ((w.setCell ⟨S.o, i, none⟩ (S.R[j]).hdr).setCell ⟨S.o, j, none⟩ (S.R[i]).hdr) := hC.mono (fun k _ e => .inl e);have hL := HL.out.rows hCo hM (swapR_length hi hj);exact ⟨rfl, SdAt.drew hL, hCo.drew⟩
def negRow (xs : List Int) : List Int := xs.map (fun x => -x)
def NegTo (xs cu : List Int) (m : Nat) : Prop := cu.length = xs.length /\ (∀ j (h : j < cu.length) (h1 : j < xs.length), j < m -> cu[j] = -xs[j]) /\ (∀ j (h : j < cu.length) (h1 : j < xs.length), m <= j -> cu[j] = xs[j])
theorem NegTo.start (xs : List Int) : NegTo xs xs 0 := ⟨rfl, fun _ _ _ h => by omega, fun _ _ _ _ => rfl⟩
theorem NegTo.next {xs cu : List Int} {m : Nat} (h : NegTo xs cu m) (hm : m < xs.length) : NegTo xs (cu.set m (-xs[m])) (m + 1) := by
 obtain ⟨h1, h2, h3⟩ := h;refine ⟨by simpa using h1, fun j hj hx hjm => ?_, fun j hj hx hjm => ?_⟩
 · rw [List.getElem_set];split
   · rename_i e; subst e; rfl
   · exact h2 j (by simpa using hj) hx (by omega)
 · rw [List.getElem_set, if_neg (by omega)];exact h3 j (by simpa using hj) hx (by omega)
theorem NegTo.all {xs cu : List Int} (h : NegTo xs cu xs.length) : cu = negRow xs := by
 obtain ⟨h1, h2, h3⟩ := h;refine List.ext_getElem (by simp [negRow, h1]) fun j hj hj' => ?_;rw [h2 j hj (by omega) (by omega)];simp [negRow]
def turnR (R : List Hd) (i : Nat) (hi : i < R.length) : List Hd := setXs R i (negRow R[i].xs)
set_option maxRecDepth 100000 in
set_option maxHeartbeats 4000000 in
theorem LikeTurn_c (S : LSt) (i : Nat) (w : World) (h : SdAt w S) (hi : i < S.R.length)
 (hxL : ∀ x ∈ S.R[i].xs, wlen x.natAbs <= 17592186044415) (hlen : S.R[i].xs.length <= 4611686018427387903) :
 Calls Tryz.prog 68 #[.int .i64 (i : Int), .pointer (some ⟨S.g, 0, none⟩)] w fun e w' => e = .returned (.tuple #[]) /\ SdAt w' (S.withR (turnR S.R i hi)) /\ Chg S.rws w w' := by
 have HXL := Lib.hid hxL; clear hxL;have cg : w.cell? ⟨S.g, 0, none⟩ = some (.slice (some ⟨S.o, 0, none⟩) S.R.length S.cap) := h.box.cell 0;have ci : w.cell? ⟨S.o, i, none⟩ = some (.slice (some ⟨S.R[i].blk, 0, none⟩) S.R[i].xs.length S.R[i].cap) := h.mat.hdr hi;have hi' : (i : Int) < (S.R.length : Int) := by omega
 have hX := Lib.hid (h.mat.row _ (List.getElem_mem hi));have hG := Lib.hid h.box;have hO := Lib.hid h.mat.out;have hob : S.o ≠ S.R[i].blk := fun e => h.mat.ne (List.getElem_mem hi) e.symm;have hgb : S.g ≠ S.R[i].blk := by
  obtain ⟨ps, tl, nt, hp, _⟩ := h.mat.row _ (List.getElem_mem hi);exact h.box.ne hp (by decide)
 have HL := Lib.hid h; clear h;go_enter Tryz.func68, Tryz.ntmps68;go_wp2;go_loopw [10] (fun c wr => ∃ (m : Nat) (cu : List Int), m <= S.R[i].xs.length /\ c = .int .i64 (m : Int) /\ Hid (NegTo S.R[i].xs cu m) /\ Hid (RowN wr S.R[i].blk cu) /\ Hid (RowAt wr S.g 46 [S.hdr]) /\ Hid (RowP wr S.o 22 (S.R.map Hd.hdr)) /\ Hid (Chg (· = S.R[i].blk) w wr)) (fun c _ => S.R[i].xs.length - (intOf c).toNat)
 case atStart => exact ⟨0, _, Nat.zero_le _, rfl, NegTo.start _, hX, hG, hO, Chg.refl ..⟩
 case round =>
  obtain ⟨m, cu, hm, rfl, HA, hX, hG, hO, hC⟩ := hrel;by_cases hml : m < S.R[i].xs.length
  · have hmx : m < cu.length := by rw [HA.out.1]; exact hml
    have hm2 : (m : Int) < (S.R[i].xs.length : Int) := by omega
    obtain ⟨px, cx0, cx1, hnx⟩ := hX.out.get hmx;have Hnx := Lib.hid hnx; clear hnx;clear cg ci;go_wp2;have hb1 : Below wr.heap.size wr (wr.alloc (.cells #[.bool px.1, .slice px.2.1 px.2.2.1 px.2.2.2] 37)) := (Below.refl _ _).alloc (Nat.le_refl _) _;have hr1 := RowAt.new wr #[.bool px.1, .slice px.2.1 px.2.2.1 px.2.2.2] 37;generalize wr.alloc (.cells #[.bool px.1, .slice px.2.1 px.2.2.1 px.2.2.2] 37) = w2 at *;have X2 := Lib.hid (hX.out.below hb1);have G2 := Lib.hid (hG.out.below hb1 hG.out.lt);have O2 := Lib.hid (hO.out.below hb1 hO.out.lt);have C2 := Lib.hid (hC.out.below hb1);have N2 := Lib.hid (Hnx.out.below hb1);have R2 := Lib.hid hr1;have hs1 : wr.heap.size < w2.heap.size := hr1.lt;have hxe : cu[m] = S.R[i].xs[m] := HA.out.2.2 m hmx hml (Nat.le_refl _);have hxw : wlen (S.R[i].xs[m]).natAbs <= 17592186044415 := HXL.out _ (List.getElem_mem hml);have N3 := N2.out;rw [hxe] at N3;have N3 := Lib.hid (N3.int hxw);clear hX hG hO hC Hnx N2 hb1 hr1 cx0 cx1 hxe;have cg : w2.cell? ⟨S.g, 0, none⟩ = some (.slice (some ⟨S.o, 0, none⟩) S.R.length S.cap) := G2.out.cell 0;have ci : w2.cell? ⟨S.o, i, none⟩ = some (.slice (some ⟨S.R[i].blk, 0, none⟩) S.R[i].xs.length S.R[i].cap) := by rw [O2.out.cell (by simpa using hi)]; simp [hi, Hd.hdr]
    have cx0 : w2.cell? ⟨wr.heap.size, 0, none⟩ = some (.bool px.1) := R2.out.cell 0;have cx1 : w2.cell? ⟨wr.heap.size, 1, none⟩ = some (.slice px.2.1 px.2.2.1 px.2.2.2) := R2.out.cell 1;have hg2 := G2.out.lt;have ho2 := O2.out.lt;refine wp_region_K ⟨8, fun q_ => [15, 16, 17, 18, 19, 20, 21, 22].getD q_ 0,
     fun q_ => [.val (.slice (some ⟨S.o, 0, none⟩) S.R.length S.cap), .val (.int .i64 (i : Int)), .val (.pointer (some ⟨S.o, i, none⟩)), .val (.slice (some ⟨S.R[i].blk, 0, none⟩) S.R[i].xs.length S.R[i].cap), .val (.int .i64 (m : Int)), .val (.agg #[.bool px.1, .slice px.2.1 px.2.2.1 px.2.2.2]), .int 0 (-S.R[i].xs[m]), .val (.pointer (some ⟨S.R[i].blk, m * 2, none⟩))].getD q_ .any,
     [],
     [(.agg #[.bool px.1, .slice px.2.1 px.2.2.1 px.2.2.2], .at_ 17592186044415 (S.R[i].xs[m]))],
     [],
     [], [(⟨S.g, 0, none⟩, .slice (some ⟨S.o, 0, none⟩) S.R.length S.cap), (⟨S.o, i, none⟩, .slice (some ⟨S.R[i].blk, 0, none⟩) S.R[i].xs.length S.R[i].cap), (⟨wr.heap.size, 0, none⟩, .bool px.1), (⟨wr.heap.size, 1, none⟩, .slice px.2.1 px.2.2.1 px.2.2.2)], []⟩ [15, 16, 17, 18, 19, 20, 21, 22] (w2.heap.size) (by kernel_rfl) (by kernel_rfl) (by kernel_rfl) (by kernel_rfl) (by kernel_rfl) ?_ ?_ ?_ ?_ ?_ ?_
    · intro p hp;rcases mc hp with rfl | hp
      · exact N3.out
      cases hp
    · intro p hp;cases hp
    · intro p hp;rcases mc hp with rfl | hp
      · refine ⟨cg, by show S.g < w2.heap.size; omega, ?_⟩;intro t ht;cases ht
      rcases mc hp with rfl | hp
      · refine ⟨ci, by show S.o < w2.heap.size; omega, ?_⟩;intro t ht;cases ht
      rcases mc hp with rfl | hp
      · refine ⟨cx0, by show wr.heap.size < w2.heap.size; omega, ?_⟩;intro t ht;cases ht
      rcases mc hp with rfl | hp
      · refine ⟨cx1, by show wr.heap.size < w2.heap.size; omega, ?_⟩;intro t ht;cases ht
      cases hp
    · intro t ht;cases ht
    · refine allc ?_ (allc ?_ (allc ?_ (allc ?_ (allc ?_ (allc ?_ (allc ?_ (allc ?_ alln)))))));any_goals (first | (intro L fx w' hJ hL hp hcl; have _ := hp0 hp (by decide +kernel); refine wps rfl fun K hK => ?_; go_simp; exact hJ.q hK (by kernel_rfl) rfl) | fail)
      · intro L fx w' hJ hL hp hcl;refine wps rfl fun K hK => ?_;have cl0 := (hJ.cells _ mm0).1;try dsimp only at cl0
        go_simp;exact hJ.q hK (by kernel_rfl) rfl
      · intro L fx w' hJ hL hp hcl;have e0 := hJ.pt 0 15 (.slice (some ⟨S.o, 0, none⟩) S.R.length S.cap) rfl rfl rfl (hp 0 (by decide));rw [e0] at hJ ⊢; clear e0;have e1 := hJ.pt 1 16 (.int .i64 (i : Int)) rfl rfl rfl (hp 1 (by decide));rw [e1] at hJ ⊢; clear e1;refine wps rfl fun K hK => ?_;go_simp;exact hJ.q hK (by kernel_rfl) rfl
      · intro L fx w' hJ hL hp hcl;have e2 := hJ.pt 2 17 (.pointer (some ⟨S.o, i, none⟩)) rfl rfl rfl (hp 2 (by decide));rw [e2] at hJ ⊢; clear e2;refine wps rfl fun K hK => ?_;have cl0 := (hJ.cells _ mm1).1;try dsimp only at cl0
        go_simp;exact hJ.q hK (by kernel_rfl) rfl
      · intro L fx w' hJ hL hp hcl;refine wps rfl fun K hK => ?_;have cl0 := (hJ.cells _ mm2).1;have cl1 := (hJ.cells _ mm3).1;try dsimp only at cl0 cl1
        go_simp;exact hJ.q hK (by kernel_rfl) rfl
      · intro L fx w' hJ hL hp hcl;have e5 := hJ.pt 5 20 (.agg #[.bool px.1, .slice px.2.1 px.2.2.1 px.2.2.2]) rfl rfl rfl (hp 5 (by decide));rw [e5] at hJ ⊢; clear e5;refine wps rfl fun K hK => ?_;go_simp;go_at_call 69;refine (INeg_c _ (S.R[i].xs[m]) _ (show IntAt w' _ _ _ from hJ.base _ mm0)).mono ?_;rintro e w4 ⟨⟨v5, rfl, h5⟩, hb4⟩;try dsimp only
        exact hK _ _ ⟨_, by kernel_rfl, hJ.gC 6 rfl (by kernel_rfl) hb4 (OwnI.mono h5 (Nat.zero_le _)) (by omega)⟩
      · intro L fx w' hJ hL hp hcl;have e3 := hJ.pt 3 18 (.slice (some ⟨S.R[i].blk, 0, none⟩) S.R[i].xs.length S.R[i].cap) rfl rfl rfl (hp 3 (by decide));rw [e3] at hJ ⊢; clear e3;have e4 := hJ.pt 4 19 (.int .i64 (m : Int)) rfl rfl rfl (hp 4 (by decide));rw [e4] at hJ ⊢; clear e4;refine wps rfl fun K hK => ?_;go_simp;exact hJ.q hK (by kernel_rfl) rfl
    · intro L x' w3 hL hJ;have hfr : Below w2.drew.heap.size w2.drew w3 := hJ.fr;have e11 : OwnI w3 0 (x' 21) (-S.R[i].xs[m]) := hJ.slot 6 (by show 6 < 8; decide) (hL 6 (by show 6 < 8; decide));have e12 : x' 22 = .pointer (some ⟨S.R[i].blk, m * 2, none⟩) := hJ.slot 7 (by show 7 < 8; decide) (hL 7 (by show 7 < 8; decide));obtain ⟨pz, hpz⟩ := NumAt.parts e11.num;rw [hpz] at e11;unfold av at hpz;rw [patchX (x := x') (d := 21) hpz];rw [patchX (x := updX x' 21 (.agg #[.bool pz.1, .slice pz.2.1 pz.2.2.1 pz.2.2.2])) (d := 22) (v := .pointer (some ⟨S.R[i].blk, m * 2, none⟩)) e12];clear hJ hL cg ci cx0 cx1;have X3 := Lib.hid (RowN.below (w := w2.drew) X2.out hfr);have G3 := Lib.hid (RowAt.below (w := w2.drew) G2.out hfr G2.out.lt);have O3 := Lib.hid (RowP.below (w := w2.drew) O2.out hfr O2.out.lt);have C3 := Lib.hid (C2.out.drew.below hfr);obtain ⟨pq, q0, q1, _⟩ := X3.out.get hmx;have q2 := X3.out.free (m * 2);have q3 := X3.out.free (m * 2 + 1);refine wps rfl fun K hK => ?_;go_simp;refine hK _ _ ⟨⟨updX (updX x' 21 (.agg #[.bool pz.1, .slice pz.2.1 pz.2.2.1 pz.2.2.2])) 22 (.pointer (some ⟨S.R[i].blk, m * 2, none⟩)), by kernel_rfl⟩, ?_⟩;clear hK q0 q1 q2 q3;go_wp2;go_roundw
      case rel =>
       exact ⟨m + 1, _, by omega, by go_num, HA.out.next hml, Lib.hid (X3.out.set m e11.num), Lib.hid ((G3.out.other (by show S.g ≠ S.R[i].blk; exact hgb) _).other (by show S.g ≠ S.R[i].blk; exact hgb) _), Lib.hid ((O3.out.other (by show S.o ≠ S.R[i].blk; exact hob) _).other (by show S.o ≠ S.R[i].blk; exact hob) _), Lib.hid ((C3.out.set (p := ⟨S.R[i].blk, m * 2, none⟩) rfl _).set (p := ⟨S.R[i].blk, m * 2 + 1, none⟩) rfl _)⟩
      case measure => simp [intOf]; omega
  · obtain rfl : m = S.R[i].xs.length := by omega
    have he := HA.out.all;have HE := Lib.hid he;clear he;go_wp2;refine bodyPost_end (results_none (by kernel_rfl) _ _ _) rfl ?_;have hR4 := hX.out;rw [HE.out] at hR4;have hCo : Chg S.rws w wr := hC.out.mono (fun k _ e => .inr ⟨S.R[i], List.getElem_mem hi, e.symm⟩);have hM4 := HL.out.mat.setXs hi (by simp [negRow]) hC.out hR4;exact ⟨rfl, HL.out.rows hCo hM4 (by unfold turnR; rw [setXs_length]), hCo⟩
attribute [local go_sem] run_store_fn
end Go.Proofs.YtdgfhcaokigieaaGreat
