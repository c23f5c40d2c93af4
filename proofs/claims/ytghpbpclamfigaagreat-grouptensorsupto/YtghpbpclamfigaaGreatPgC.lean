/- Part 3 of 6 of the proof that the law GroupTensors returns true for every input of bulk at most 1048576 and leaves its arguments as they were: here the contracts of the functions that it calls, and plain lemmas. -/
import Derived.Test.YtghpbpclamfigaaGreatRows
import Derived.WalkKit
import Derived.ProofKit
import Derived.OpenShut
import Derived.JoinedCond
import Derived.Carry
import Derived.Deep.Slices
import Derived.Lib.SmallJoins
import Derived.Deep.AppendSrc
import Derived.Deep.Upon
import Derived.Test.YtghpbpclamfigaaGreatPgB
set_option linter.all false
namespace Go.Proofs.YtghpbpclamfigaaGreat
open Go.ChangeShapes Go.WideShapes Go.ChangeAt Go.RowKit Go.Deep
section
variable {H : Type} {enc : TypeId × Value -> H} {w : World} {base : Nat} {sp : Nat -> Bool} {held : Bool}
theorem bulk_one (d : DataW H) : 1 <= Rows.uptoBulk d := by
 cases d with
 | lit l => cases l <;> simp [Rows.uptoBulk]
 | nil => simp [Rows.uptoBulk]
 | ptr d => simp [Rows.uptoBulk]
 | slice elems spare => simp [Rows.uptoBulk]
 | agg parts => simp [Rows.uptoBulk]
 | iface t d => simp [Rows.uptoBulk]
 | map entries => simp [Rows.uptoBulk]
 | held h => simp [Rows.uptoBulk]
theorem bulk_append (l r : List (DataW H)) : Rows.uptoBulkAll (l ++ r) = Rows.uptoBulkAll l + Rows.uptoBulkAll r := by
 induction l with
 | nil => simp [Rows.uptoBulkAll]
 | cons x l ih => simp only [List.cons_append, Rows.uptoBulkAll, ih]; omega
theorem bulk_mem {d : DataW H} {l : List (DataW H)} (h : d ∈ l) : Rows.uptoBulk d <= Rows.uptoBulkAll l := by
 induction l with
 | nil => cases h
 | cons x r ih =>
  simp only [Rows.uptoBulkAll];rcases List.mem_cons.1 h with rfl | h
  · omega
  · have := ih h; omega
theorem bulk_length (l : List (DataW H)) : l.length <= Rows.uptoBulkAll l := by
 induction l with
 | nil => simp [Rows.uptoBulkAll]
 | cons x r ih => have := bulk_one x; simp only [Rows.uptoBulkAll, List.length_cons]; omega
theorem bulk_slice (l r : List (DataW H)) : Rows.uptoBulk (.slice l r) = Rows.uptoBulkAll l + Rows.uptoBulkAll r + 1 := by simp [Rows.uptoBulk]
theorem bulk_agg (l : List (DataW H)) : Rows.uptoBulk (.agg l) = Rows.uptoBulkAll l + 1 := by simp [Rows.uptoBulk]
theorem list_of {α : Type} {n : Nat} {p : Nat -> α -> Prop} (h : ∀ i, i < n -> ∃ x, p i x) : ∃ l : List α, l.length = n /\ ∀ i (hi : i < l.length), p i l[i] := by
 induction n with
 | zero => exact ⟨[], rfl, fun i hi => by simp at hi⟩
 | succ n ih =>
  obtain ⟨l, hl, hp⟩ := ih (fun i hi => h i (by omega));obtain ⟨x, hx⟩ := h n (by omega);refine ⟨l ++ [x], by simp [hl], fun i hi => ?_⟩;by_cases hin : i < l.length
  · rw [List.getElem_append_left hin]; exact hp i hin
  · have : i = n := by simp at hi; omega
    subst this;rw [List.getElem_append_right (by omega)];simp [hl]; exact hx
theorem addr_none {w : World} {a : Addr} {v : Value} (h : w.cell? a = some v) : ∃ b o, a = ⟨b, o, none⟩ /\ b < w.heap.size := by
 have h1 := World.cell?_spot h;obtain ⟨b, o, s⟩ := a;exact ⟨b, o, by simpa using h1, cell_lt h⟩
set_option maxRecDepth 100000 in
theorem open_words {fuel : Nat} {cs : List Value} {x : DataW H × List MemPlace} (h : DataW.trod enc Tryz.prog w base sp held fuel 35 cs = some x) :
 ∃ ao len cap ws, cs = [.slice ao len cap] /\ len = ws.length /\ len <= cap /\ WAt w ao ws /\ ws.length + 1 <= Rows.uptoBulk x.1 := by
 rcases open_ints Tryz.underlying35 Tryz.underlying23 (by kernel_rfl) h with ⟨rfl, rfl⟩ | ⟨a, len, cap, zs, rfl, hb, hl, hm, hz, rfl, hcell, hwf⟩
 · exact ⟨none, 0, 0, [], rfl, rfl, Nat.le_refl _, ⟨fun x h => (by cases h), fun h => absurd h (by simp)⟩, by simp [Rows.uptoBulk]⟩
 · have hlz : len <= zs.length := by rw [hz]; split <;> omega
   have hrng : ∀ z ∈ zs, 0 <= z /\ z < 18446744073709551616 := fun z hzm => by
    have h1 : 0 <= z /\ z <= 18446744073709551615 := by simpa [Lit.wf, IntKind.min, IntKind.max, IntKind.signed, IntKind.bits] using hwf z hzm
    omega
   have hll : ((zs.take len).map Int.toNat).length = len := by simp; omega
   refine ⟨some a, len, cap, (zs.take len).map Int.toNat, rfl, hll.symm, hl, ⟨fun x hx => ?_, fun hp => ?_⟩, ?_⟩
   · obtain ⟨z, hz1, rfl⟩ := List.mem_map.1 hx;have := hrng z (List.mem_of_mem_take hz1);unfold W; omega
   · rw [hll] at hp;have h0 := hcell 0 (by omega);obtain ⟨b, o, rfl, hblt⟩ := addr_none (a := a) (w := w) (by simpa [Addr.add] using h0);refine ⟨b, o, rfl, hblt, fun i hi => ?_⟩;rw [hll] at hi;have h1 := hcell i (by omega);rw [add_plain] at h1;rw [h1];have h2 := hrng (zs[i]'(by omega)) (List.getElem_mem (by omega));have e1 : zs.getD i 0 = zs[i]'(by omega) := by rw [List.getD_eq_getElem?_getD, List.getElem?_eq_getElem (by omega)]; rfl
     have e2 : gw ((zs.take len).map Int.toNat) i = (zs[i]'(by omega)).toNat := by
      unfold gw;rw [List.getD_eq_getElem?_getD, List.getElem?_eq_getElem (by rw [hll]; exact hi)];simp
     rw [e1, e2];congr 2;omega
   · rw [bulk_slice, hll];have := bulk_length (lits (H := H) .u64 (zs.take len));have e : (lits (H := H) .u64 (zs.take len)).length = len := by simp [lits]; omega
     omega
set_option maxRecDepth 100000 in
theorem open_num {fuel : Nat} {cs : List Value} {x : DataW H × List MemPlace} (h : DataW.trod enc Tryz.prog w base sp held fuel 37 cs = some x) :
 ∃ (p : P4) (L : Nat) (z : Int), cs = [.bool p.1, .slice p.2.1 p.2.2.1 p.2.2.2] /\ IntAt w L (av p) z /\ L + 3 <= Rows.uptoBulk x.1 := by
 obtain ⟨y0, y1, n, rfl, hl, h0, h1⟩ := trod_struct2 Tryz.underlying37 h;obtain ⟨c0, c1, rfl⟩ : ∃ c0 c1, cs = [c0, c1] := by
  have e : cs.length = 2 := hl.trans (by kernel_rfl);match cs, e with
  | [a, b], _ => exact ⟨a, b, rfl⟩
 rw [show Tryz.prog.cellsOf 4 = 1 by kernel_rfl] at h0;rw [show Tryz.prog.cellsOf 35 = 1 by kernel_rfl] at h1;obtain ⟨b, hb, hy0⟩ := DataW.trod_bool Tryz.underlying4 h0;obtain ⟨ao, len, cap, ws, hc, hlen, hcap, hW, hbk⟩ := open_words h1;simp at hb hc;subst hb hc;refine ⟨(b, ao, len, cap), len, zi b (nval ws), rfl, ⟨b, ao, len, cap, ws, rfl, hW, hlen, Nat.le_refl _, hcap, rfl⟩, ?_⟩;rw [bulk_agg];simp only [Rows.uptoBulkAll];have := bulk_one y0.1;omega
theorem bulk_sum (D : Nat -> DataW H) (f : Nat -> Nat) : ∀ n, (∀ i, i < n -> f i <= Rows.uptoBulk (D i)) -> ((List.range n).map f).sum <= Rows.uptoBulkAll ((List.range n).map D)
 | 0, _ => by simp
 | n + 1, h => by
  have h1 := bulk_sum D f n fun i hi => h i (by omega);have h2 := h n (by omega);rw [List.range_succ, List.map_append, List.map_append, List.sum_append, bulk_append];simp only [List.map_cons, List.map_nil, List.sum_cons, List.sum_nil, Rows.uptoBulkAll];omega
set_option maxRecDepth 100000 in
theorem open_nums_s {fuel : Nat} {cs : List Value} {x : DataW H × List MemPlace} (h : DataW.trod enc Tryz.prog w base sp held fuel 22 cs = some x) :
 ∃ ao len cap xs, cs = [.slice ao len cap] /\ len = xs.length /\ len <= cap /\ LsAt w (Rows.uptoBulk x.1) ao xs /\ xs.length + 1 <= Rows.uptoBulk x.1 /\ (xs.map fun z => wlen z.natAbs).sum <= Rows.uptoBulk x.1 := by
 rcases open_slice Tryz.underlying22 h with ⟨rfl, rfl⟩ | ⟨a, len, cap, m, n, D, Pl, rfl, hb, hl, hm, hmm, rfl, hi⟩
 · exact ⟨none, 0, 0, [], rfl, rfl, Nat.le_refl _, fun h => absurd h (by simp), by simp [Rows.uptoBulk], by simp⟩
 · have hlm : len <= m := by rw [hmm]; split <;> omega
   have hD : ∀ i, i < len -> Rows.uptoBulk (D i) <= Rows.uptoBulkAll ((List.range len).map D) := fun i hi => bulk_mem (List.mem_map.2 ⟨i, List.mem_range.2 hi, rfl⟩);obtain ⟨l, hll, hp⟩ := list_of (n := len) (p := fun i (q : P4 × Int) => (w.cell? (a.add (i * 2)) = some (.bool q.1.1) /\ w.cell? (a.add (i * 2 + 1)) = some (.slice q.1.2.1 q.1.2.2.1 q.1.2.2.2)) /\ IntAt w (Rows.uptoBulkAll ((List.range len).map D)) (av q.1) q.2 /\ wlen q.2.natAbs <= Rows.uptoBulk (D i)) (fun i hil => by
    obtain ⟨cs', hc, ht⟩ := hi i (by omega);rw [show Tryz.prog.cellsOf 37 = 2 by kernel_rfl] at hc;obtain ⟨p, L, z, rfl, hI, hbk⟩ := open_num ht;obtain ⟨_, _, hcell⟩ := World.cells?_some hc;have c0 := hcell 0 (by omega);have c1 := hcell 1 (by omega);rw [add_add] at c0 c1;exact ⟨(p, z), ⟨by simpa using c0, by simpa using c1⟩, hI.mono (by have := hD i hil; have : Rows.uptoBulk (D i, Pl i).1 = Rows.uptoBulk (D i) := rfl; omega), by show wlen z.natAbs <= _; have h8 := hI.wlen; have h9 : Rows.uptoBulk (D i, Pl i).1 = Rows.uptoBulk (D i) := rfl; omega⟩)
   have hbl : len <= Rows.uptoBulkAll ((List.range len).map D) := by have := bulk_length ((List.range len).map D); simpa using this
   refine ⟨some a, len, cap, l.map Prod.snd, rfl, by simp [hll], hl, fun hpos => ?_, ?_, ?_⟩
   · have hpos' : 0 < len := by simpa [hll] using hpos
     have h0 := (hp 0 (by omega)).1.1;obtain ⟨b, o, rfl, hblt⟩ := addr_none (a := a) (w := w) (by simpa [Addr.add] using h0);refine ⟨b, o, rfl, hblt, fun i hi' => ?_⟩;have hil : i < l.length := by simpa using hi'
     obtain ⟨⟨c0, c1⟩, hI, _⟩ := hp i hil;rw [add_plain] at c0 c1;refine ⟨l[i].1, c0, by rw [<- Nat.add_assoc] at c1; exact c1, ?_⟩;have e : (l.map Prod.snd)[i]'hi' = l[i].2 := by simp
     rw [e, bulk_slice];exact hI.mono (by omega)
   · rw [bulk_slice]; simp [hll]; omega
   · have h1 := bulk_sum D (fun i => wlen ((l.map Prod.snd).getD i 0).natAbs) len (fun i hi => by
      have h2 := (hp i (by omega)).2.2;have e : (l.map Prod.snd).getD i 0 = (l[i]'(by omega)).2 := by
       rw [List.getD_eq_getElem?_getD, List.getElem?_map, List.getElem?_eq_getElem (by omega)]; rfl
      rw [e]; exact h2)
     have e : (List.range len).map (fun i => wlen ((l.map Prod.snd).getD i 0).natAbs) = (l.map Prod.snd).map fun z => wlen z.natAbs := by
      refine List.ext_getElem (by simp [hll]) fun i h1 h2 => ?_;have hi : i < l.length := by simpa using h2
      simp [hi]
     rw [e] at h1;rw [bulk_slice]; omega
theorem open_nums {fuel : Nat} {cs : List Value} {x : DataW H × List MemPlace} (h : DataW.trod enc Tryz.prog w base sp held fuel 22 cs = some x) :
 ∃ ao len cap xs, cs = [.slice ao len cap] /\ len = xs.length /\ len <= cap /\ LsAt w (Rows.uptoBulk x.1) ao xs /\ xs.length + 1 <= Rows.uptoBulk x.1 := by
 obtain ⟨ao, len, cap, xs, h1, h2, h3, h4, h5, _⟩ := open_nums_s h;exact ⟨ao, len, cap, xs, h1, h2, h3, h4, h5⟩
set_option maxRecDepth 100000 in
theorem trodAll_stays {P : Program} (hl : laidOutB P = true) {W W' : World} {spf : Nat -> Bool} : ∀ {ts : List TypeId} {vs : List Value} {ds : List (DataW H)} {ps : List MemPlace}, (ts.all fun t => P.readableRec t && decide (t < P.types.size)) = true ->
 DataW.TrodAll enc P W 0 (fun _ => true) true ts vs ds ps -> (∀ x ∈ ps, W.sameAt W' x) -> (∀ x ∈ ps, spf x.block = true) -> DataW.TrodAll enc P W' 0 spf true ts vs ds ps := by
 intro ts;induction ts with
 | nil =>
  intro vs ds ps _ h _ _;cases vs <;> cases ds <;> exact h
 | cons t ts ih =>
  intro vs ds ps ha h hs hp;cases vs with
  | nil => exact h.elim
  | cons v vs =>
   cases ds with
   | nil => exact h.elim
   | cons d ds =>
    obtain ⟨p, q, h1, h2, rfl⟩ := h;simp only [List.all_cons, Bool.and_eq_true, decide_eq_true_eq] at ha;exact ⟨p, q, WideElems.Trod_stays hl ha.1.1 ha.1.2 h1 (fun x hx => hs x (List.mem_append_left _ hx)) (fun x hx => hp x (List.mem_append_left _ hx)),
     ih ha.2 h2 (fun x hx => hs x (List.mem_append_right _ hx)) (fun x hx => hp x (List.mem_append_right _ hx)), rfl⟩
theorem laid_out : laidOutB Tryz.prog = true := by kernel_rfl
set_option maxRecDepth 100000 in
theorem law_post {f : Func} {s : ChangeSpec} {W W' : World} {args : Array Value} {ds gs : List (DataW H)} {before : List MemPlace} (ha : (f.params.toList.all fun t => Tryz.prog.readableRec t && decide (t < Tryz.prog.types.size)) = true) (hv : s.vars = []) (hr : f.resultTypes = #[4])
 (hW : DataW.Whole enc Tryz.prog f.params.toList s.vars false W args.toList ds gs before) (h1 : (s.fn H (ds ++ gs)).results = [.lit (.bool true)]) (h2 : (s.fn H (ds ++ gs)).args = ds) (h3 : (s.fn H (ds ++ gs)).vars = []) (hb : Below W.heap.size W W') :
 s.post enc Tryz.prog f false true false false W args (.bool true) W' := by
 have hlt : ∀ p ∈ before, p.block < W.heap.size := fun p hp => hW.lt p hp;have hold : ∀ p ∈ before, (fun b => decide (b < W.heap.size)) p.block = true := fun p hp => by simpa using hlt p hp
 have hW' := hW;obtain ⟨p, q, hA, hV, rfl, hz, hn⟩ := hW;rw [hv] at hV;obtain ⟨rfl, rfl⟩ := trodVars_none hV;have hsame : ∀ x ∈ p, W.sameAt W' x := fun x hx => hb.same (hlt x (List.mem_append_left _ hx));have hargs : ∀ spf : Nat -> Bool, (∀ x ∈ p ++ [], spf x.block = true) -> DataW.TrodAll enc Tryz.prog W' 0 spf true f.params.toList args.toList (s.fn H (ds ++ [])).args p := fun spf hs => by
  rw [h2]; exact trodAll_stays laid_out ha hA hsame (fun x hx => hs x (List.mem_append_left _ hx))
 have hres : ∀ (b : Nat) (spf : Nat -> Bool) (hd : Bool), DataW.TrodAll enc Tryz.prog W' b spf hd f.resultTypes.toList ((Value.bool true).resultList f.resultTypes.size) (s.fn H (ds ++ [])).results [] := fun b spf hd => by
  rw [hr, h1]; exact trodAll_cons_mk (shut_bool Tryz.underlying4 _) trodAll_mk0
 have hvars : ∀ spf : Nat -> Bool, DataW.TrodVars enc Tryz.prog W' spf s.vars (s.fn H (ds ++ [])).vars [] := fun spf => by rw [hv, h3]; rfl
 refine ⟨ds, [], p ++ [], [], p, [], hW', hres _ _ _, hargs _ hold, hvars _, World.keptBut_mono (fun x hx => ⟨hx, Or.inr (by simpa using hx)⟩) (hb.frame (· ∈ p ++ [])), fun _ => ?_⟩;have hb1 : Value.okWide Tryz.prog W' .any 0 4 (.bool true) := okWide_bool_mk Tryz.underlying4 true;refine ⟨ok_one hr rfl hb1, _, _, ([] ++ p) ++ [], ⟨[] ++ p, [], trodAll_append (hargs _ (fun _ _ => rfl)) (hres _ _ _), hvars _, rfl, ?_, ?_⟩, ?_⟩
 · intro b off hp;have hin : MemPlace.cell b off ∈ p ++ [] := by simpa using hp
   rw [hb.frozen (hlt _ hin)];exact hz b off hin
 · intro h; cases h
 · intro x hx _;simpa using hx
end
set_option maxRecDepth 100000 in
theorem bulk_bound {H : Type} {l : List (DataW H)} (hk : Rows.uptoSmall H l = true) : Rows.uptoBulkAll l <= 1048576 := of_decide_eq_true hk
end Go.Proofs.YtghpbpclamfigaaGreat
namespace Go.Proofs.YtghpbpclamfigaaGreat
open Go.RowKit
section
variable {P : Program} {Q : Exit -> Act -> World -> Prop} {S0 : Nat -> Prop} {w0 : World} {n : Nat} {ls : List (Nat × Value)} {es : List En} {c : Code}
theorem wordW {ws : List Nat} {b o : Nat} (i : Nat) (hm : En.wat (some ⟨b, o, none⟩) ws ∈ es) (hi : i < ws.length) (k : CW P n S0 w0 c Q ls (.cell ⟨b, o + i, none⟩ (.int .u64 ((gw ws i : Nat) : Int)) :: es)) : CW P n S0 w0 c Q ls es := fun a w ha hw => by
 have hA : WAt w (some ⟨b, o, none⟩) ws := hw.all _ hm;obtain ⟨b', o', e, hb, hc⟩ := hA.2 (by omega);cases e;refine k a w ha (hw.cons (e := .cell ⟨b, o + i, none⟩ (.int .u64 ((gw ws i : Nat) : Int))) (hc i hi) (fun e' he' => ⟨(fun h => nomatch h), fun hwr g hg hg' => ?_⟩) (fun h => nomatch h));have hg' : g = b := hg';subst hg';obtain ⟨l1, l2, rfl⟩ := List.append_of_mem hm;have hS : (En.wat (some ⟨g, o, none⟩) ws).S g := ⟨by omega, o, rfl⟩;have hp := List.pairwise_append.1 hw.sep;rcases List.mem_append.1 he' with h | h
 · exact (hp.2.2 e' h _ (List.mem_cons_self ..)).1 hwr g hg hS
 · rcases List.mem_cons.1 h with rfl | h
   · cases hwr
   · exact ((List.pairwise_cons.1 hp.2.1).1 e' h).2 hwr g hg hS
theorem pickW {es' : List En} (k : CW P n S0 w0 c Q ls es') (h : Pk es es' := by repeat (first | exact Pk.n | refine Pk.c (by repeat (first | exact Rm.z | apply Rm.s)) ?_)) : CW P n S0 w0 c Q ls es := fun a w ha hw => k a w ha (hw.pick h)
end
section
variable {P : Program} {ops : Array Oper} {Q : Exit -> Act -> World -> Prop} {S0 : Nat -> Prop} {w0 : World} {E0 : List En} {hd : List (List Nat)} {n j s : Nat} {l : List Nat} {G E : List En} {ls : List (Nat × Value)} {op : Op} {ty : TypeId} {pos : String} {af : Array Edge} {v v' : Value}
theorem dE (hv : v' = v) (k : RWs ⟨P, ops, Q, S0, w0, E0, []⟩ n l G E ((s, v) :: ls))
 (ho : ops[j]? = some ⟨some s, op, ty, pos, af, none⟩ := by rfl) (hk : (isDet op && chkO ls op && Nat.blt s n) = true := by kernel_rfl)
 (hr : ∀ w, (isLd op = true -> Fr S0 w0 w E0) -> (execOp (evl ls) ⟨some s, op, ty, pos, af, none⟩).run P w = .ok (.value v') w := by intro w H; (first | (have c := (H rfl).c; try simp only [celN, cl, List.cons_append, List.nil_append] at c) | skip); clear H; go_simp <;> with_reducible rfl) : RWs ⟨P, ops, Q, S0, w0, E0, []⟩ n (j :: l) G E ls :=
 dW (v := v) k ho hk (by rw [<- hv]; exact hr)
theorem dB (b : Bool) (k : RWs ⟨P, ops, Q, S0, w0, E0, []⟩ n l G E ((s, .bool b) :: ls))
 (ho : ops[j]? = some ⟨some s, op, ty, pos, af, none⟩ := by rfl) (hk : (isDet op && chkO ls op && Nat.blt s n) = true := by kernel_rfl)
 (hr : ∀ w, (isLd op = true -> Fr S0 w0 w E0) -> (execOp (evl ls) ⟨some s, op, ty, pos, af, none⟩).run P w = .ok (.value v') w := by intro w H; (first | (have c := (H rfl).c; try simp only [celN, cl, List.cons_append, List.nil_append] at c) | skip); clear H; go_simp <;> with_reducible rfl)
 (hv : v' = .bool b := by first | rfl | (simp [*]; done) | (simp; omega)) : RWs ⟨P, ops, Q, S0, w0, E0, []⟩ n (j :: l) G E ls :=
 dE hv k ho hk hr
theorem dGB (b : Bool) {sg g : Nat} {want : Bool} (k : RWs ⟨P, ops, Q, S0, w0, E0, []⟩ n l G E ((s, .bool b) :: ls))
 (ho : ops[j]? = some ⟨some s, op, ty, pos, af, some (g, want)⟩ := by rfl) (hk : (isDet op && chkO ls op && Nat.blt s n) = true := by kernel_rfl)
 (hg : (ops[g]?).bind (·.dst) = some sg := by rfl) (hi : inLs ls (.tmp sg) = true := by kernel_rfl) (hb : evl ls (.tmp sg) = .bool want := by (simp only [evlN, Nat.reduceEqDiff, ↓reduceIte]) <;> first | rfl | simp [*])
 (hr : ∀ w, (isLd op = true -> Fr S0 w0 w E0) -> (execOp (evl ls) ⟨some s, op, ty, pos, af, some (g, want)⟩).run P w = .ok (.value v') w := by intro w H; (first | (have c := (H rfl).c; try simp only [celN, cl, List.cons_append, List.nil_append] at c) | skip); clear H; go_simp <;> with_reducible rfl)
 (hv : v' = .bool b := by first | rfl | (simp [*]; done) | (simp; omega)) : RWs ⟨P, ops, Q, S0, w0, E0, []⟩ n (j :: l) G E ls :=
 dG k ho hk hg hi hb (by rw [<- hv]; exact hr)
end
theorem Fr.apart {S0 : Nat -> Prop} {w0 w : World} {es : List En} (h : Fr S0 w0 w es) {e e1 : En} (he : e ∈ es) (he1 : e1 ∈ es) (hw : e.wr = true) (hw1 : e1.wr = false) {b : Nat} (hb : e.S b) : ¬ e1.S b := fun hb1 => by
 obtain ⟨l1, l2, rfl⟩ := List.append_of_mem he1;have hp := List.pairwise_append.1 h.sep;rcases List.mem_append.1 he with h | h
 · exact (hp.2.2 e h _ (List.mem_cons_self ..)).1 hw b hb hb1
 · rcases List.mem_cons.1 h with rfl | h
   · rw [hw] at hw1; cases hw1
   · exact ((List.pairwise_cons.1 hp.2.1).1 e h).2 hw b hb hb1
section
variable {P : Program} {ops : Array Oper} {Q : Exit -> Act -> World -> Prop} {S0 : Nat -> Prop} {w0 : World} {E0 : List En} {hd : List (List Nat)} {n j s sg g : Nat} {l : List Nat} {G E : List En} {ls : List (Nat × Value)} {op : Op} {ty : TypeId} {pos : String} {af : Array Edge} {f : FuncId} {args : Array Value} {want : Bool}
end
theorem gi_eq {xs : List Int} {i : Nat} (h : i < xs.length) : gi xs i = xs[i] := by simp [gi, h]
theorem gp_eq {ps : List P4} {i : Nat} (h : i < ps.length) : gp ps i = ps[i] := by simp [gp, h]
theorem gi_mem {xs : List Int} {i : Nat} (h : i < xs.length) : gi xs i ∈ xs := by rw [gi_eq h]; exact List.getElem_mem h
theorem gi_set {xs : List Int} {i j : Nat} (h : i < xs.length) (x : Int) : gi (xs.set i x) j = if j = i then x else gi xs j := by
 unfold gi;rw [List.getD_eq_getElem?_getD, List.getElem?_set, List.getD_eq_getElem?_getD];by_cases e : i = j
 · subst e; simp [h]
 · have e2 : ¬ j = i := fun q => e q.symm;simp [e, e2]
theorem rn0 {ps : List P4} {i : Nat} (tl : List Value) (h : i < ps.length) : (rn ps tl)[i * 2]? = some (.bool (gp ps i).1) := by
 have := flat_length ps;rw [gp_eq h, rn, List.getElem?_append_left (by omega)]; exact flat_get0 ps i h
theorem rn1 {ps : List P4} {i : Nat} (tl : List Value) (h : i < ps.length) : (rn ps tl)[i * 2 + 1]? = some (.slice (gp ps i).2.1 (gp ps i).2.2.1 (gp ps i).2.2.2) := by
 have := flat_length ps;rw [gp_eq h, rn, List.getElem?_append_left (by omega)]; exact flat_get1 ps i h
theorem rn_set {ps : List P4} {i : Nat} (tl : List Value) (h : i < ps.length) (p : P4) : setL (rn ps tl) (i * 2) [.bool p.1, .slice p.2.1 p.2.2.1 p.2.2.2] = rn (ps.set i p) tl := by
 have hl := flat_length ps;simp only [setL, rn];rw [List.set_append_left _ _ (by omega), List.set_append_left _ _ (by rw [List.length_set]; omega), flat_set]
theorem NoW.rn {ps : List P4} {tl : List Value} (h : NoW tl) : NoW (rn ps tl) := flat_app h
theorem NsAt.set {w : World} {ps : List P4} {xs : List Int} (h : NsAt w ps xs) (i : Nat) {p : P4} {x : Int} (hp : NumAt w (av p) x) : NsAt w (ps.set i p) (xs.set i x) := by
 refine ⟨by simp [h.1], fun j hj => ?_⟩;rw [List.length_set] at hj;have h1 := h.1;by_cases e : i = j
 · subst e;rw [gp_eq (by simpa using hj), gi_eq (by simp; omega)];simpa using hp
 · have := h.2 j hj;rw [gp_eq hj, gi_eq (by omega)] at this;rw [gp_eq (by simpa using hj), gi_eq (by simp; omega)];simpa [e] using this
theorem NsAt.snoc {w : World} {ps : List P4} {xs : List Int} (h : NsAt w ps xs) {p : P4} {x : Int} (hp : NumAt w (av p) x) : NsAt w (ps ++ [p]) (xs ++ [x]) := by
 refine ⟨by simp [h.1], fun j hj => ?_⟩;have h1 := h.1;rw [gp_eq hj, gi_eq (by simp at hj ⊢; omega)];by_cases e : j < ps.length
 · have := h.2 j e;rw [gp_eq e, gi_eq (by omega)] at this;rw [List.getElem_append_left e, List.getElem_append_left (by omega)]; exact this
 · have e1 : j = ps.length := by simp at hj; omega
   subst e1;simpa [h1] using hp
theorem NsAt.nil (w : World) : NsAt w [] [] := ⟨rfl, fun i h => absurd h (by simp)⟩
theorem NsAt.zeros (w : World) (n : Nat) : NsAt w (List.replicate n p0) (List.replicate n 0) := ⟨by simp, fun i h => by
 have h : i < n := by simpa using h
 rw [gp_eq (by simpa using h), gi_eq (by simpa using h)]; simp; exact NumAt.zero w⟩
theorem RowN.mk' {w : World} {b : Nat} {ps : List P4} {tl : List Value} {xs : List Int} (h : RowAt w b 37 (rn ps tl)) (ht : NoW tl) (hn : NsAt w ps xs) : RowN w b xs :=
 ⟨ps, tl, ht, h, hn.1, fun i h1 h2 => by have := hn.2 i h1; rw [gp_eq h1, gi_eq h2] at this; exact this⟩
theorem Fr.l {S0 : Nat -> Prop} {w0 w : World} {es : List En} (h : Fr S0 w0 w es) {L : Nat} {ao : Option Addr} {xs : List Int} (hx : LsAt w L ao xs) (hS : ∀ e ∈ es, e.wr = false) : Fr S0 w0 w (.ls L ao xs :: es) :=
 h.cons hx (fun e he => ⟨(fun q => nomatch q), fun q => by rw [hS e he] at q; cases q⟩) (fun q => nomatch q)
section
variable {P : Program} {Q : Exit -> Act -> World -> Prop} {S0 : Nat -> Prop} {w0 : World} {n : Nat} {ls : List (Nat × Value)} {es : List En} {c : Code}
theorem Fr.cellOf {w : World} {e : En} {a : Addr} {v : Value} (h : Fr S0 w0 w es) (hm : e ∈ es) (hwr : e.wr = false) (hS : e.S a.block) (hc : w.cell? a = some v) : Fr S0 w0 w (.cell a v :: es) :=
 h.cons (e := .cell a v) hc (fun e' he' => ⟨(fun q => nomatch q), fun q g hg hg' => by
  obtain rfl : g = a.block := hg';exact h.apart he' hm q hwr hg hS⟩) (fun q => nomatch q)
theorem numW {L : Nat} {xs : List Int} {b o : Nat} (i : Nat) (hm : En.ls L (some ⟨b, o, none⟩) xs ∈ es) (hi : i < xs.length) (k : ∀ p : P4, CW P n S0 w0 c Q ls (.cell ⟨b, o + i * 2, none⟩ (.bool p.1) :: .cell ⟨b, o + i * 2 + 1, none⟩ (.slice p.2.1 p.2.2.1 p.2.2.2) :: .at L (av p) (gi xs i) :: es)) : CW P n S0 w0 c Q ls es := fun a w ha hw => by
 have hA : LsAt w L (some ⟨b, o, none⟩) xs := hw.all _ hm;obtain ⟨b', o', e, hb, hc⟩ := hA (by omega);cases e;obtain ⟨p, h0, h1, hx⟩ := hc i hi;rw [<- gi_eq hi] at hx;have hS : (En.ls L (some ⟨b, o, none⟩) xs).S b := ⟨by omega, o, rfl⟩;exact k p a w ha (((hw.pure (e := .at L (av p) (gi xs i)) hx (fun _ h => h)).cellOf (List.mem_cons_of_mem _ hm) rfl hS h1).cellOf (List.mem_cons_of_mem _ (List.mem_cons_of_mem _ hm)) rfl hS h0)
theorem addW {e : En} (he : ∀ w, Fr S0 w0 w es -> e.F w) (k : CW P n S0 w0 c Q ls (e :: es)) (hS : ∀ b, ¬ e.S b := by intro b h; exact h) : CW P n S0 w0 c Q ls es := fun a w ha hw => k a w ha (hw.pure (he w hw) hS)
end
section
variable {ops : Array Oper} {Q : Exit -> Act -> World -> Prop} {S0 : Nat -> Prop} {w0 : World} {E0 : List En} {hd : List (List Nat)} {n j s : Nat} {l : List Nat} {G E : List En} {ls : List (Nat × Value)} {op : Op} {ty : TypeId} {pos : String} {af : Array Edge}
theorem mN {sl sc : Operand} {a b : Int} {kl kc : IntKind} (x y : Nat) (hx : a = x) (hy : b = y) (hxy : x <= y) (hb : y <= 8796093022208) (k : ∀ g, RWs ⟨Tryz.prog, ops, Q, S0, w0, E0, hd⟩ n l (.row g 37 (rn (List.replicate y p0) []) :: G) E ((s, .slice (some ⟨g, 0, none⟩) x y) :: ls))
 (ho : ops[j]? = some ⟨some s, .makeSlice 22 sl sc, ty, pos, af, none⟩ := by rfl) (hk : (chkO ls (.makeSlice 22 sl sc) && Nat.blt s n) = true := by kernel_rfl)
 (h1 : evl ls sl = .int kl a := by (simp only [evlN, Nat.reduceEqDiff, ↓reduceIte]) <;> rfl) (h2 : evl ls sc = .int kc b := by (simp only [evlN, Nat.reduceEqDiff, ↓reduceIte]) <;> rfl) : RWs ⟨Tryz.prog, ops, Q, S0, w0, E0, hd⟩ n (j :: l) G E ls := fun A hA => by
 simp only [Bool.and_eq_true] at hk;refine ⟨_, ho, .inr (.inl ⟨rfl, rfl, fun g => .slice (some ⟨g, 0, none⟩) x y, 37, rn (List.replicate y p0) [], ⟨rfl, fun w => ?_⟩, fun g => k g _ (hA.put (Nat.le_of_ble_eq_true hk.2) _)⟩)⟩;rw [hA.exec (o := ⟨some s, .makeSlice 22 sl sc, ty, pos, af, none⟩) hk.1];obtain ⟨i, hi, hz, hs, hbt⟩ := info_parts info_Int;subst hx hy;have hr := run_make (P := Tryz.prog) w 22 37 i (.agg #[.bool false, .slice none 0 0]) Tryz.underlying22 hi hz kl kc x y (by omega) (by omega) (by rw [hbt]; omega) (by omega);simp only [Int.toNat_natCast] at hr;have e : madeCells (Value.agg #[.bool false, .slice none 0 0]).cells (y * i.size) = (rn (List.replicate y p0) []).toArray := by
  have := made_flat y;rw [hs, rn, List.append_nil, <- this]
 simp [execOp, h1, h2, hr, Result.andThen, e]
theorem sN {b i : Nat} {ps ps' : List P4} {tl : List Value} {ad x : Operand} {sty : TypeId} {E' : List En} (q : Nat) (p : P4) (hq : q < ps.length) (ht : NoW tl) (hs : ps.set q p = ps')
 (k' : RWs ⟨Tryz.prog, ops, Q, S0, w0, E0, hd⟩ n l G E' ls)
 (ho : ops[j]? = some ⟨none, .store sty ad x, ty, pos, af, none⟩ := by rfl) (hk : chkO ls (.store sty ad x) = true := by kernel_rfl)
 (ha : evl ls ad = .pointer (some ⟨b, q * 2, none⟩) := by (simp only [evlN, Nat.reduceEqDiff, ↓reduceIte]) <;> rfl)
 (hv : evl ls x = .agg #[.bool p.1, .slice p.2.1 p.2.2.1 p.2.2.2] := by (simp only [evlN, Nat.reduceEqDiff, ↓reduceIte, av]) <;> rfl)
 (hE : Up (.row b 37 (rn ps tl)) (.row b 37 (rn ps' tl)) i E E' := by repeat first | exact .z | apply Up.s)
 (hr : ∀ w u v, w.cell? ⟨b, q * 2, none⟩ = some u -> w.cell? ⟨b, q * 2 + 1, none⟩ = some v -> w.frozen? ⟨b, q * 2, none⟩ = false -> w.frozen? ⟨b, q * 2 + 1, none⟩ = false -> (execOp (evl ls) ⟨none, .store sty ad x, ty, pos, af, none⟩).run Tryz.prog w = .ok .skip (stA w b (q * 2) [.bool p.1, .slice p.2.1 p.2.2.1 p.2.2.2]) := by intro w u v c0 c1 f0 f1; (try simp only [av]); go_simp <;> rfl)
 (hst : okSt ops hd j [i] = true := by kernel_rfl) : RWs ⟨Tryz.prog, ops, Q, S0, w0, E0, hd⟩ n (j :: l) G E ls := fun a hA => by
 subst hs;refine ⟨_, ho, .inr (.inr ⟨rfl, rfl, Unit, fun _ => undef, fun _ => G, fun _ => E', [i], ⟨()⟩, fun X w hX hw => ?_, hst, fun _ r hr => hE.other (by simpa using hr), fun _ => k' _ (hA.put0 _)⟩)⟩;obtain ⟨m, h1, h2⟩ := hE.right' X G;have hrow : RowAt w b 37 (rn ps tl) := (hw.perm h1).all _ (List.mem_cons_self ..);refine ifw rfl ?_;show wpR _ _ ((execOp a.eval _).run _ w);rw [hA.exec (o := ⟨none, .store sty ad x, ty, pos, af, none⟩) hk, hr w _ _ ((hrow.cell _).trans (rn0 tl hq)) ((hrow.cell _).trans (rn1 tl hq)) (hrow.free _) (hrow.free _)];exact ⟨(), rfl, hw.st (t := 37) _ _ (.inl ⟨NoW.rn ht, by decide⟩) h1 (by rw [rn_set tl hq]; exact h2)⟩
end
theorem Fr.conv {S0 : Nat -> Prop} {w0 w : World} {es : List En} {e e' : En} (h : Fr S0 w0 w (e :: es)) (h1 : e.F w -> e'.F w) (h2 : ∀ b, e'.S b -> e.S b) (h3 : e'.wr = true -> e.wr = true) : Fr S0 w0 w (e' :: es) := by
 have hp := List.pairwise_cons.1 h.sep;exact h.tl.cons (h1 h.m0) (fun x hx => ⟨fun q b hb => (hp.1 x hx).1 (h3 q) b (h2 b hb), fun q b hb hb' => (hp.1 x hx).2 q b hb (h2 b hb')⟩) (fun q b hb => h.own e (List.mem_cons_self ..) (h3 q) b (h2 b hb))
section
variable {P : Program} {Q : Exit -> Act -> World -> Prop} {S0 : Nat -> Prop} {w0 : World} {n : Nat} {ls : List (Nat × Value)} {es : List En} {c : Code}
end
theorem rn_snoc {ps : List P4} {tl : List Value} {cap : Nat} (hl : (rn ps tl).length = cap * 2) (h : ps.length < cap) (p : P4) : setL (rn ps tl) (ps.length * 2) [.bool p.1, .slice p.2.1 p.2.2.1 p.2.2.2] = rn (ps ++ [p]) (tl.drop 2) := by
 have hf := flat_length ps;obtain ⟨a, b, t, rfl⟩ : ∃ a b t, tl = a :: b :: t := by
  rw [rn, List.length_append] at hl;match tl, hl with
  | [], h => simp at h; omega
  | [_], h => simp at h; omega
  | a :: b :: t, _ => exact ⟨a, b, t, rfl⟩
 simp only [setL, rn];rw [List.set_append_right _ _ (by omega), List.set_append_right _ _ (by omega), flat_append, show ps.length * 2 - (flat ps).length = 0 by omega, show ps.length * 2 + 1 - (flat ps).length = 1 by omega];simp [flat]
theorem Chg.alloc' (T : Nat -> Prop) (w : World) (o : Obj) : Chg T w (w.drew.alloc o) := Chg.of_below ⟨rfl, rfl, rfl, by simp, fun q hq => heap_alloc_old w.drew _ hq⟩
theorem app_run {w : World} {ty : TypeId} {ao : Option Addr} {k cap : Nat} {ps : List P4} (h : LstF ao k cap ps w) (hb : k <= 100000000) {ad : Addr} {c : Nat} {p : P4} (h0 : w.cell? ad = some (.bool p.1)) (h1 : w.cell? (ad.add 1) = some (.slice p.2.1 p.2.2.1 p.2.2.2)) :
 ∃ ao' cap' w', (Builtin.append_ #[22, 22] ty #[.slice ao k cap, .slice (some ad) 1 c]).run Tryz.prog w = .ok (.slice ao' (k + 1) cap') w' /\ LstF ao' (k + 1) cap' (ps ++ [p]) w' /\ Chg (fun g => ∃ o, ao = some ⟨g, o, none⟩) w w' /\ ∀ g, (∃ o, ao' = some ⟨g, o, none⟩) -> (∃ o, ao = some ⟨g, o, none⟩) ∨ w.heap.size <= g := by
 obtain ⟨i, hi, hz, hsz, hby⟩ := info_parts info_Int;have hn : ∀ j u, [Value.bool p.1, .slice p.2.1 p.2.2.1 p.2.2.2][j]? = some u -> w.cell? (ad.add j) = some u := fun j u hj => by
  match j, hj with
  | 0, hj => cases hj; simpa [Addr.add] using h0
  | 1, hj => cases hj; exact h1
 have hsrc : Src Tryz.prog i.size 22 (.slice (some ad) 1 c) 1 [Value.bool p.1, .slice p.2.1 p.2.2.1 p.2.2.2] w := Src.ofSlice w Tryz.underlying22 ad 1 c _ (by rw [hsz]; rfl) hn (by simp [Value.oneCell']);obtain ⟨hk, hkc, hrow⟩ := h;by_cases hroom : k < cap
 · obtain ⟨_, h⟩ | ⟨b, tl, rfl, ht, hr, hl⟩ := hrow
   · omega
   subst hk;have hex : ∀ j, j < cap * 2 -> (w.cell? ⟨b, j, none⟩).isSome = true := fun j hj => by rw [hr.cell, List.getElem?_eq_getElem (by omega)]; rfl
   refine ⟨_, _, _, run_append_room_src w 22 22 ty 37 i Tryz.underlying22 hi b 0 ps.length cap _ 1 _ hsrc (by omega) (fun j hj => hex _ ?_) (fun j _ => hr.free _), ?_, ?_, fun g hg => .inl hg⟩
   · rw [hsz]; simp at hj; omega
   · rw [hsz, Nat.zero_add];have h2 := hr.stA [.bool p.1, .slice p.2.1 p.2.2.1 p.2.2.2] (ps.length * 2);rw [rn_snoc hl hroom] at h2;refine ⟨by simp, by omega, .inr ⟨b, tl.drop 2, rfl, fun v hv => ht v (List.mem_of_mem_drop hv), h2, ?_⟩⟩;have hf := flat_length ps;rw [rn, List.length_append] at hl;rw [rn, List.length_append, flat_length]; simp; omega
   · rw [hsz, Nat.zero_add];exact (Chg.stA [.bool p.1, .slice p.2.1 p.2.2.1 p.2.2.2] (ps.length * 2) (Chg.refl (· = b) w)).mono (fun g _ e => by obtain rfl : g = b := e; exact ⟨0, rfl⟩)
 · obtain rfl : k = cap := by omega
   have hf := flat_length ps;have hold : (Builtin.firstCells i.size k (.slice ao k k)).run Tryz.prog w.drew = .ok (flat ps).toArray w.drew := by
    obtain ⟨rfl, h⟩ | ⟨b, tl, rfl, ht, hr, hl⟩ := hrow
    · obtain rfl : ps = [] := List.eq_nil_of_length_eq_zero (by omega);exact run_firstCells_none w.drew i.size k k k
    · refine run_firstCells_some w.drew i.size k _ k k (flat ps) (by rw [hsz]; omega) fun j v hj => ?_;have e : w.drew.cell? ((⟨b, 0, none⟩ : Addr).add j) = w.cell? ⟨b, j, none⟩ := by simp only [Addr.add]; by_cases hj0 : j = 0 <;> simp [hj0]
      rw [e, hr.cell, rn, List.getElem?_append_left (List.getElem?_eq_some_iff.1 hj).1]; exact hj
   refine ⟨_, _, _, run_append_grow_src w 22 22 ty 37 i (.agg #[.bool false, .slice none 0 0]) Tryz.underlying22 hi hz ao k k (flat ps) hold _ 1 _ hsrc (by omega) (by omega) (growslice_fits (by omega) (by rw [hby]; omega)), ⟨by simp [hk], grownCap_ge .., .inr ⟨_, (Builtin.zeroCells (Value.agg #[.bool false, .slice none 0 0]).cells (grownCap w (k + 1) k 37 - (k + 1))).toList, rfl, zero_nums _, ?_, ?_⟩⟩, Chg.alloc' _ w _, fun g ⟨o, e⟩ => by cases e; exact .inr (Nat.le_refl _)⟩
   · have hnew := RowAt.new w.drew ((flat ps ++ [Value.bool p.1, .slice p.2.1 p.2.2.1 p.2.2.2]).toArray ++ Builtin.zeroCells (Value.agg #[.bool false, .slice none 0 0]).cells (grownCap w (k + 1) k 37 - (k + 1))) 37;rw [rn, flat_append];simpa [flat] using hnew
   · have hge := grownCap_ge w (k + 1) k 37;have hz2 : (Builtin.zeroCells (Value.agg #[.bool false, .slice none 0 0]).cells (grownCap w (k + 1) k 37 - (k + 1))).toList.length = (grownCap w (k + 1) k 37 - (k + 1)) * 2 := by rw [Array.length_toList, size_zeroCells]; rfl
     rw [rn, List.length_append, flat_length, List.length_append, hz2]; simp; omega
section
variable {ops : Array Oper} {Q : Exit -> Act -> World -> Prop} {S0 : Nat -> Prop} {w0 : World} {E0 : List En} {hd : List (List Nat)} {n j s : Nat} {l : List Nat} {G E : List En} {ls : List (Nat × Value)} {op : Op} {ty : TypeId} {pos : String} {af : Array Edge}
theorem appN {i k cap g : Nat} {ao : Option Addr} {ps : List P4} {t : TypeId} {c : Nat} (p : P4) {sa xa : Operand} {E' : Option Addr × Nat -> List En} (hb : k <= 100000000)
 (hm : En.row g t [.bool p.1, .slice p.2.1 p.2.2.1 p.2.2.2] ∈ G ++ E)
 (k' : ∀ q, RWs ⟨Tryz.prog, ops, Q, S0, w0, E0, hd⟩ n l G (E' q) ((s, .slice q.1 (k + 1) q.2) :: ls))
 (ho : ops[j]? = some ⟨some s, .call { callee := Callee.builtin Builtin.append, args := #[sa, xa], argTypes := #[22, 22] }, ty, pos, af, none⟩ := by rfl) (hk : (chkO ls (.call { callee := Callee.builtin Builtin.append, args := #[sa, xa], argTypes := #[22, 22] }) && Nat.blt s n) = true := by kernel_rfl)
 (ha : evl ls sa = .slice ao k cap := by (simp only [evlN, Nat.reduceEqDiff, ↓reduceIte]) <;> rfl)
 (hv : evl ls xa = .slice (some ⟨g, 0, none⟩) 1 c := by (simp only [evlN, Nat.reduceEqDiff, ↓reduceIte, av]) <;> rfl)
 (hE : ∀ q, Up (.lst ao k cap ps) (.lst q.1 (k + 1) q.2 (ps ++ [p])) i E (E' q) := by intro q; repeat first | exact .z | apply Up.s)
 (hst : okSt ops hd j [i] = true := by kernel_rfl) : RWs ⟨Tryz.prog, ops, Q, S0, w0, E0, hd⟩ n (j :: l) G E ls := fun a hA => by
 simp only [Bool.and_eq_true] at hk;refine ⟨_, ho, .inr (.inr ⟨rfl, rfl, Option Addr × Nat, fun q => .slice q.1 (k + 1) q.2, fun _ => G, E', [i], ⟨(none, 0)⟩, fun X w hX hw => ?_, hst, fun q r hr => (hE q).other (by simpa using hr), fun q => k' q _ (hA.put (Nat.le_of_ble_eq_true hk.2) _)⟩)⟩;have hrow : RowAt w g t [.bool p.1, .slice p.2.1 p.2.2.1 p.2.2.2] := hw.all _ (List.mem_append_right _ hm);have hl : LstF ao k cap ps w := by
  obtain ⟨m, h1, h2⟩ := (hE (none, 0)).right' X G;exact (hw.perm h1).all _ (List.mem_cons_self ..)
 obtain ⟨ao', cap', w', hrun, h1', hc, hS⟩ := app_run (ty := ty) hl hb (ad := ⟨g, 0, none⟩) (c := c) (hrow.cell 0) (hrow.cell 1);obtain ⟨m, h1, h2⟩ := (hE (ao', cap')).right' X G;refine ifw rfl ?_;show wpR _ _ ((execOp a.eval _).run _ w);rw [hA.exec (o := ⟨some s, .call { callee := Callee.builtin Builtin.append, args := #[sa, xa], argTypes := #[22, 22] }, ty, pos, af, none⟩) hk.1];have e : (execOp (evl ls) ⟨some s, .call { callee := Callee.builtin Builtin.append, args := #[sa, xa], argTypes := #[22, 22] }, ty, pos, af, none⟩).run Tryz.prog w = .ok (.value (.slice ao' (k + 1) cap')) w' := by
  simp [execOp, resolve, invoke, builtin, ha, hv, hrun, Result.andThen]
 rw [e];refine ⟨(ao', cap'), rfl, Fr.perm ((hw.perm h1).upd (e := .lst ao k cap ps) (e' := .lst ao' (k + 1) cap' (ps ++ [p])) rfl hc (fun x hx _ => ?_) (fun _ h => h) h1' hS) h2.symm⟩;rintro b ⟨o, rfl⟩;obtain ⟨_, _, ⟨h, _⟩ | ⟨b', tl, h, ht, hr, _⟩⟩ := hl
 · cases h
 · cases h; exact ⟨_, _, hr, NoW.rn ht, by decide⟩
end
theorem OwnW.blk {w : World} {B : Nat} {ao : Option Addr} {len cap : Nat} {ws : List Nat} (h : OwnW w B ao len cap ws) {g o : Nat} (e : ao = some ⟨g, o, none⟩) : B <= g := by
 obtain ⟨_, _, _, ⟨h4, _⟩ | ⟨g', c, cur, hv, hb, _⟩⟩ := h
 · cases h4; cases e
 · cases hv; cases e; exact hb
section
variable {P : Program} {ops : Array Oper} {Q : Exit -> Act -> World -> Prop} {S0 : Nat -> Prop} {w0 : World} {E0 : List En} {hd : List (List Nat)} {n j s : Nat} {l : List Nat} {G E : List En} {ls : List (Nat × Value)} {op : Op} {ty : TypeId} {pos : String} {af : Array Edge} {f : FuncId} {args : Array Value}
theorem cW1 {m : Nat} (c : ∀ w, Fr S0 w0 w (G ++ E) -> Calls P f args w fun e w' => (∃ ao cap, e = .returned (.slice ao (wlen m) cap) /\ OwnW w' w.heap.size ao (wlen m) cap (dig m)) /\ Below w.heap.size w w')
 (k : ∀ ao cap, RWs ⟨P, ops, Q, S0, w0, E0, hd⟩ n l (.ow w0.heap.size ao m cap :: .wat ao (dig m) :: G) E ((s, .slice ao (wlen m) cap) :: ls))
 (ho : ops[j]? = some ⟨some s, op, ty, pos, af, none⟩ := by rfl) (hk : (!isDet op && !isNew op && chkO ls op && Nat.blt s n) = true := by kernel_rfl)
 (hr : ∀ w, (execOp (evl ls) ⟨some s, op, ty, pos, af, none⟩).run P w = .ok (.enter f args) w := by intro w; (try simp only [av]); go_simp <;> with_reducible rfl)
 (hst : okSt ops hd j [] = true := by kernel_rfl) : RWs ⟨P, ops, Q, S0, w0, E0, hd⟩ n (j :: l) G E ls := by
 refine cG (α := Option Addr × Nat) (mk := fun p => .slice p.1 (wlen m) p.2) (ens := fun p => [.ow w0.heap.size p.1 m p.2, .wat p.1 (dig m)]) (fun w hw => (c w hw).mono ?_) (fun p => k p.1 p.2) ho hk hr ⟨(none, 0)⟩ hst;rintro e w' ⟨⟨ao, cap, rfl, hv⟩, hb⟩;exact ⟨(ao, cap), rfl, hb, fun e he => by
  rcases List.mem_cons.1 he with rfl | he
  · exact ⟨hv.mono hw.size, fun _ h => h.elim⟩
  · rcases List.mem_singleton.1 he with rfl;exact ⟨hv.at_, fun b ⟨_, o, e⟩ => hv.blk e⟩, List.pairwise_pair.2 ⟨(fun h => nomatch h), (fun h => nomatch h)⟩⟩
end
section
variable {P : Program} {Q : Exit -> Act -> World -> Prop} {S0 : Nat -> Prop} {w0 : World} {n : Nat} {ls : List (Nat × Value)} {es : List En} {c : Code}
theorem posW {ao : Option Addr} {ws : List Nat} (hm : En.wat ao ws ∈ es) (hl : 0 < ws.length) (k : ∀ b o, ao = some ⟨b, o, none⟩ -> CW P n S0 w0 c Q ls es) : CW P n S0 w0 c Q ls es := fun a w ha hw => by
 have hA : WAt w ao ws := hw.all _ hm;obtain ⟨b, o, e, _⟩ := hA.2 hl;exact k b o e a w ha hw
theorem word00W {ws : List Nat} {b o : Nat} (hm : En.wat (some ⟨b, o, none⟩) ws ∈ es) (hi : 0 < ws.length) (k : CW P n S0 w0 c Q ls (.cell ⟨b, o, none⟩ (.int .u64 ((gw ws 0 : Nat) : Int)) :: es)) : CW P n S0 w0 c Q ls es :=
 wordW 0 hm hi k
end
section
variable {P : Program} {ops : Array Oper} {Q : Exit -> Act -> World -> Prop} {S0 : Nat -> Prop} {w0 : World} {E0 : List En} {hd : List (List Nat)} {n j s : Nat} {l : List Nat} {G E : List En} {ls : List (Nat × Value)} {op : Op} {ty : TypeId} {pos : String} {af : Array Edge} {f : FuncId} {args : Array Value}
theorem bW {t : TypeId} {cs : List Value} {m : Nat} (k : ∀ g, RWs ⟨P, ops, Q, S0, w0, E0, hd⟩ n l (.row g t cs :: G) E ((s, .slice (some ⟨g, 0, none⟩) m m) :: ls))
 (ho : ops[j]? = some ⟨some s, op, ty, pos, af, none⟩ := by rfl) (hk : (!isDet op && isNew op && chkO ls op && Nat.blt s n) = true := by kernel_rfl)
 (hr : ∀ w, (execOp (evl ls) ⟨some s, op, ty, pos, af, none⟩).run P w = .ok (.value (.slice (some ⟨w.heap.size, 0, none⟩) m m)) (w.alloc (.cells cs.toArray t (0, 0))) := by intro w; (try simp only [av]); go_simp <;> with_reducible rfl) : RWs ⟨P, ops, Q, S0, w0, E0, hd⟩ n (j :: l) G E ls := fun a ha => by
 simp only [Bool.and_eq_true, Bool.not_eq_true'] at hk;refine ⟨_, ho, .inr (.inl ⟨hk.1.1.1, hk.1.1.2, fun g => .slice (some ⟨g, 0, none⟩) m m, t, cs, ⟨rfl, fun w => ?_⟩, fun g => k g _ (ha.put (Nat.le_of_ble_eq_true hk.2) _)⟩)⟩;rw [ha.exec hk.1.2];exact hr w
theorem cW2 {m q : Nat} {z : Value} (c : ∀ w, Fr S0 w0 w (G ++ E) -> Calls P f args w fun e w' => (∃ ao ca bo cb, e = .returned (.tuple #[.slice ao (wlen m) ca, .slice bo (wlen q) cb, z]) /\ OwnW w' w.heap.size ao (wlen m) ca (dig m) /\ OwnW w' w.heap.size bo (wlen q) cb (dig q)) /\ Below w.heap.size w w')
 (k : ∀ ao ca bo cb, RWs ⟨P, ops, Q, S0, w0, E0, hd⟩ n l (.ow w0.heap.size ao m ca :: .wat ao (dig m) :: .ow w0.heap.size bo q cb :: .wat bo (dig q) :: G) E ((s, .tuple #[.slice ao (wlen m) ca, .slice bo (wlen q) cb, z]) :: ls))
 (ho : ops[j]? = some ⟨some s, op, ty, pos, af, none⟩ := by rfl) (hk : (!isDet op && !isNew op && chkO ls op && Nat.blt s n) = true := by kernel_rfl)
 (hr : ∀ w, (execOp (evl ls) ⟨some s, op, ty, pos, af, none⟩).run P w = .ok (.enter f args) w := by intro w; (try simp only [av]); go_simp <;> with_reducible rfl)
 (hst : okSt ops hd j [] = true := by kernel_rfl) : RWs ⟨P, ops, Q, S0, w0, E0, hd⟩ n (j :: l) G E ls := by
 refine cG (α := (Option Addr × Nat) × Option Addr × Nat) (mk := fun p => .tuple #[.slice p.1.1 (wlen m) p.1.2, .slice p.2.1 (wlen q) p.2.2, z]) (ens := fun p => [.ow w0.heap.size p.1.1 m p.1.2, .wat p.1.1 (dig m), .ow w0.heap.size p.2.1 q p.2.2, .wat p.2.1 (dig q)]) (fun w hw => (c w hw).mono ?_) (fun p => k p.1.1 p.1.2 p.2.1 p.2.2) ho hk hr ⟨((none, 0), (none, 0))⟩ hst;rintro e w' ⟨⟨ao, ca, bo, cb, rfl, hv, hv'⟩, hb⟩;refine ⟨((ao, ca), (bo, cb)), rfl, hb, fun e he => ?_, ?_⟩
 · simp only [List.mem_cons, List.not_mem_nil, or_false] at he;rcases he with rfl | rfl | rfl | rfl
   · exact ⟨hv.mono hw.size, fun _ h => h.elim⟩
   · exact ⟨hv.at_, fun b ⟨_, o, e⟩ => hv.blk e⟩
   · exact ⟨hv'.mono hw.size, fun _ h => h.elim⟩
   · exact ⟨hv'.at_, fun b ⟨_, o, e⟩ => hv'.blk e⟩
 · refine (List.pairwise_of_forall_mem_list (r := Ap) (l := [En.ow w0.heap.size ao m ca, .wat ao (dig m), .ow w0.heap.size bo q cb, .wat bo (dig q)]) fun a ha b hb => ?_);simp only [List.mem_cons, List.not_mem_nil, or_false] at ha hb;rcases ha with rfl | rfl | rfl | rfl <;> rcases hb with rfl | rfl | rfl | rfl <;> exact ⟨(fun h => nomatch h), (fun h => nomatch h)⟩
end
theorem wlen_nval_le {ws : List Nat} (h : Ok ws) : wlen (nval ws) <= ws.length := by rw [wlen_nval h]; exact tlen_le ws
theorem ow_own {B m cap : Nat} {ao : Option Addr} {w : World} (h : OwnW w B ao (wlen m) cap (dig m)) : OwnI w B (.agg #[.bool false, .slice ao (wlen m) cap]) (m : Int) := OwnI.mk false h
theorem LsAt.pos {w : World} {L : Nat} {ao : Option Addr} {xs : List Int} (h : LsAt w L ao xs) {i : Nat} (hi : i < xs.length) : ∃ b o, ao = some ⟨b, o, none⟩ := by
 obtain ⟨b, o, e, _⟩ := h (by omega);exact ⟨b, o, e⟩
theorem lst_lsN {w : World} {ao : Option Addr} {k cap : Nat} {ps : List P4} {xs : List Int} (h : LstF ao k cap ps w) (hn : NsAt w ps xs) : LsN w ao xs := fun hl => by
 obtain ⟨h1, _, ⟨_, h2⟩ | ⟨b, tl, rfl, ht, hr, _⟩⟩ := h
 · have := hn.1; omega
 · exact (RowN.mk' hr ht hn).lsN hl
theorem rvM {ls : List (Nat × Value)} {w : World} {t b : Nat} {x y z : Value} (h : RowAt w b 43 [x, y, z]) (h1 : inLs ls (.tmp t) = true := by kernel_rfl) (h2 : evl ls (.tmp t) = .pointer (some ⟨b, 0, none⟩) := by (simp only [evlN, Nat.reduceEqDiff, ↓reduceIte]) <;> rfl) : rvOk Tryz.prog ls w (.cell t 43) (.agg #[x, y, z]) :=
 ⟨h1, _, h2, run_loadVar_row w b 43 43 #[x, y, z] (0, 0) _ h Tryz.underlying43 rfl (by kernel_rfl)⟩
theorem INat_c (v u : Value) (x y : Nat) (w : World) (hA : IntAt w 17592186044415 v x) (hB : IntAt w 17592186044415 u y) (hy : y ≠ 0) :
 Calls Tryz.prog 41 #[v, u] w fun e w' => (∃ v' u', e = .returned (.tuple #[v', u', .int .i64 0]) /\ OwnI w' w.heap.size v' ((x / y : Nat) : Int) /\ OwnI w' w.heap.size u' ((x % y : Nat) : Int)) /\ Below w.heap.size w w' :=
 ITrunc_c v u x y w hA hB (by omega)
theorem zsign_neg {x : Int} (h : zsign x < 0) : x < 0 := by
 unfold zsign at h; split at h
 · assumption
 · split at h <;> omega
structure ExtX where
 r : Nat
 k : Nat
 m : Int
 l : Int
 p : P4
 q : P4
 s : P4
 t : P4
set_option maxRecDepth 100000 in
set_option maxHeartbeats 4000000 in
theorem IExt_c (v u : Value) (a b : Int) (w : World) (hA : IntAt w 4398046511103 v a) (hB : IntAt w 4398046511103 u b) :
 Calls Tryz.prog 107 #[v, u] w fun e w' => (∃ g x y vg vx vy, e = .returned (.tuple #[vg, vx, vy]) /\ ExtIs a b g x y /\ OwnI w' w.heap.size vg g /\ OwnI w' w.heap.size vx x /\ OwnI w' w.heap.size vy y) /\ Below w.heap.size w w' := by
 have hla := hA.wlen;have hlb := hB.wlen;obtain ⟨p, rfl⟩ := hA.parts;obtain ⟨q, rfl⟩ := hB.parts;have hA0 := hA;have hA := hA.mono (L' := 17592186044415) (by omega);have hB := hB.mono (L' := 17592186044415) (by omega);have hsa := zsign_cases a;refine funW (S0 := fun _ => False) Tryz.func107 (((Fr.nil _ w).i hA).i hB) ?_;refine goW ?_;refine rW [] ?_;refine aW fun g2 => ?_;refine aW fun g3 => ?_;refine aW fun g4 => ?_;refine aW fun g5 => ?_;refine aW fun g6 => ?_;refine eW ?_;refine goW ?_;refine rW [] ?_;refine dW ?_;refine cV (fun w H => ISign_c _ b w H.m5) ?_;refine dW ?_;refine eW ?_;refine goW ?_;refine condW (fun h => ?_) (fun h => ?_)
 · refine goW ?_;refine rW [[], [], [], [], [], [1, 2]] ?_;refine dH ?_;refine cN (fun w H => IAbs_c _ a w H.m6) fun p1 => ?_;refine dH ?_;refine cV (fun w H => ISign_c _ a w H.m7) ?_;refine cN (fun w H => IOf_c (zsign a) w (by omega) (by omega)) fun p2 => ?_;refine dH ?_;refine sW ?_;refine sW ?_;refine sW ?_;refine eW ?_;refine goW ?_;refine fin3 fun w H => ?_;obtain rfl : b = 0 := zsign_beq.1 (by simpa using h);exact ⟨_, _, _, rvI H.m4, rvI H.m3, rvI H.m2, ⟨_, _, _, _, _, _, rfl, extIs_zero a, H.m1, H.m0, OwnI.zero _ _⟩, H.below⟩
 refine goW ?_;refine rW [] ?_;refine dW ?_;refine cN (fun w H => IAbs_c _ a w H.m6) fun p1 => ?_;refine dW ?_;refine cN (fun w H => IAbs_c _ b w H.m6) fun p2 => ?_;refine dW ?_;refine aW fun g7 => ?_;refine sG ?_;refine eW ?_;refine goW ?_;refine rW [] ?_;refine cN (fun w H => IOf_c 1 w (by omega) (by omega)) fun p3 => ?_;refine cN (fun w H => IOf_c 0 w (by omega) (by omega)) fun p4 => ?_;refine dW ?_;refine aW fun g8 => ?_;refine sG ?_;refine eW ?_;refine goW ?_;have hb0 : b ≠ 0 := fun e => by rw [zsign_beq.2 e] at h; cases h
 refine loopW (X := ExtX) (fun x => EInv a.natAbs b x.r x.k x.m x.l /\ x.r <= max a.natAbs b.natAbs /\ x.k <= max a.natAbs b.natAbs) (·.k) (fun _ => [(8, .pointer (some ⟨g8, 0, none⟩)), (7, .pointer (some ⟨g7, 0, none⟩)), (6, .pointer (some ⟨g6, 0, none⟩)), (5, .pointer (some ⟨g5, 0, none⟩)), (4, .pointer (some ⟨g4, 0, none⟩)), (3, .pointer (some ⟨g3, 0, none⟩)), (2, .pointer (some ⟨g2, 0, none⟩))])
  (fun x => [.row g8 120 (cl x.s ++ cl x.t), .own w.heap.size (av x.t) x.l, .own w.heap.size (av x.s) x.m, .row g7 120 (cl x.p ++ cl x.q), .own w.heap.size (av x.q) x.k, .own w.heap.size (av x.p) x.r, .row g6 37 (cl p0), .row g5 37 (cl p0), .row g4 37 (cl p0), .row g3 37 (cl q), .row g2 37 (cl p), .at 17592186044415 (av q) b, .at 17592186044415 (av p) a])
  ⟨a.natAbs, b.natAbs, 1, 0, p1, p2, p3, p4⟩ ⟨EInv.start _ hb0, Nat.le_max_left .., Nat.le_max_right ..⟩ (fun x hx => ?_)
 · have hmx : wlen (max a.natAbs b.natAbs) <= 4398046511103 := by rcases Nat.le_total a.natAbs b.natAbs with h | h <;> simp [Nat.max_eq_left, Nat.max_eq_right, h, hla, hlb]
   obtain ⟨hE, hr, hk⟩ := hx;have br : wlen ((x.r : Nat) : Int).natAbs <= 4398046511103 := Nat.le_trans (wlen_mono hr) hmx;have bk : wlen ((x.k : Nat) : Int).natAbs <= 4398046511103 := Nat.le_trans (wlen_mono hk) hmx;have bm : wlen x.m.natAbs <= 4398046511103 := Nat.le_trans (wlen_mono hE.k0) hlb;have bl : wlen x.l.natAbs <= 4398046511103 := Nat.le_trans (wlen_mono hE.k1) hlb;refine goW ?_;refine rW [] ?_;refine dW ?_;refine dW ?_;refine cV (fun w H => ISign_c _ x.k w (OwnI.int H.m4 (by omega))) ?_;refine dW ?_;refine eW ?_;refine goW ?_;refine condW (fun h => ?_) (fun h => ?_)
   · have hk0 : x.k ≠ 0 := fun e => by rw [e] at h; cases h
     refine goW ?_;refine rW [] ?_;refine dW ?_;refine dW ?_;refine dW ?_;refine dW ?_;refine cN2 (fun w H => INat_c _ _ x.r x.k w (OwnI.int H.m5 (by omega)) (OwnI.int H.m4 (by omega)) (by omega)) fun p5 p6 => ?_;refine dW ?_;refine dW ?_;refine dW ?_;refine dW ?_;refine aW fun g9 => ?_;refine aW fun g10 => ?_;refine sG ?_;refine sG ?_;refine dW ?_;refine eW ?_;refine goW ?_;refine rW [] ?_;refine dW ?_;refine dW ?_;refine dW ?_;refine dW ?_;refine dW ?_;have hs := hE.step hk0;have bq : wlen ((x.r / x.k : Nat) : Int).natAbs <= 4398046511103 := Nat.le_trans (wlen_mono (Nat.le_trans (Nat.div_le_self ..) hr)) hmx;have bn := Nat.le_trans (wlen_mono hs.k1) hlb;refine cN (x := ((x.r / x.k : Nat) : Int) * x.l) (fun w H => IMul_c _ _ _ _ 4398046511103 4398046511103 w (OwnI.int H.m2 bq) (OwnI.int H.m5 bl) (by omega)) fun p7 => ?_;refine cN (fun w H => ISub_c _ _ _ _ w (OwnI.int H.m7 (by omega)) (OwnI.int H.m0 (Nat.le_trans (by rw [Int.natAbs_mul]; exact wlen_mul ..) (by omega : _ <= 17592186044415)))) fun p8 => ?_;refine aW fun g12 => ?_;refine sG ?_;refine eW ?_;refine goW ?_;refine rW [] ?_;refine dW ?_;refine dW ?_;refine dW ?_;refine dW ?_;refine sW ?_;refine eW ?_;refine goW ?_;refine rW [] ?_;refine dW ?_;refine dW ?_;refine dW ?_;refine dW ?_;refine sW ?_;refine eW ?_;refine goW ?_;refine backW ⟨x.k, x.r % x.k, x.l, x.m - ((x.r / x.k : Nat) : Int) * x.l, x.q, p6, x.t, p8⟩ ⟨⟨hs, hk, Nat.le_trans (Nat.le_of_lt (Nat.mod_lt _ (by omega))) hk⟩, Nat.mod_lt _ (by omega)⟩
   · have hk0 : x.k = 0 := by
      have := zsign_beq.1 (by simpa using h : zsign x.k = 0);omega
     rw [hk0] at hE;obtain ⟨hg, hd⟩ := hE.done hb0;have hmb := hE.k0;refine goW ?_;refine rW [[], [], [8], [8]] ?_;refine dH ?_;refine dH ?_;refine dH ?_;refine dH ?_;refine sW ?_;refine sW ?_;refine eW ?_;refine goW ?_;refine rW [] ?_;refine dW ?_;refine cV (fun w H => ISign_c _ a w H.m12) ?_;refine dW ?_;refine eW ?_;refine goW ?_;refine joinW (X := P4 × Int) (fun z => b ∣ (x.r : Int) - z.2 * a /\ wlen z.2.natAbs <= 4398046511103) (fun _ => [(6, .pointer (some ⟨g6, 0, none⟩)), (5, .pointer (some ⟨g5, 0, none⟩)), (4, .pointer (some ⟨g4, 0, none⟩)), (3, .pointer (some ⟨g3, 0, none⟩)), (2, .pointer (some ⟨g2, 0, none⟩))])
      (fun z => [.own w.heap.size (av z.1) z.2, .own w.heap.size (av x.p) x.r, .row g6 37 (cl p0), .row g5 37 (cl z.1), .row g4 37 (cl x.p), .row g3 37 (cl q), .row g2 37 (cl p), .at 17592186044415 (av q) b, .at 17592186044415 (av p) a]) ?_ (fun z hz => ?_)
     · refine condW (fun h => ?_) (fun h => ?_)
       · have ha := zsign_neg (by simpa using h);rw [if_pos ha] at hd;refine goW ?_;refine rW [] ?_;refine dW ?_;refine cN (fun w H => INeg_c _ x.m w (OwnI.int H.m2 (by omega))) fun p9 => ?_;refine sW ?_;refine eW ?_;refine goW ?_;exact joinE (p9, -x.m) ⟨hd, by simpa using bm⟩
       · have ha : ¬ a < 0 := fun e => by
          have : zsign a = -1 := by unfold zsign; rw [if_pos e]
          rw [this] at h; cases h
         rw [if_neg ha] at hd;refine goW ?_;exact joinE (x.s, x.m) ⟨hd, bm⟩
     · obtain ⟨pm, m⟩ := z;obtain ⟨h1, h2, h3, h4⟩ := ext_last hb0 hg hz.1;have bz : wlen m.natAbs <= 4398046511103 := hz.2;have hr0 : (x.r : Int) ≠ 0 := fun e => hb0 (Int.zero_dvd.1 (e ▸ h1));have bq : wlen (b / (x.r : Int)).natAbs <= 4398046511103 := Nat.le_trans (wlen_mono (Int.natAbs_ediv_le_natAbs _ _)) hlb;have bx : wlen (m % (b / (x.r : Int))).natAbs <= 4398046511103 := Nat.le_trans (wlen_mono (by have := Int.emod_nonneg m h2; have := Int.emod_lt m h2; omega)) bq;refine goW ?_;refine rW [] ?_;refine dW ?_;refine dW ?_;refine cN1 (fun w H => IExact_c _ _ b x.r w H.m7 (OwnI.int H.m1 (by omega)) hr0 h1) fun p9 => ?_;refine dW ?_;refine dW ?_;refine dW ?_;refine aW fun g13 => ?_;refine sG ?_;refine dW ?_;refine eW ?_;refine goW ?_;refine rW [[], [], [], [], [], [5]] ?_;refine dH ?_;refine dH ?_;refine cN1 (fun w H => IMod_c _ _ m _ w (OwnI.int H.m2 (by omega)) (OwnI.int H.m1 (by omega)) h2) fun p10 => ?_;refine dH ?_;refine dH ?_;refine dH ?_;refine sW ?_;refine eW ?_;refine goW ?_;refine rW [[], [], [], [], [], [], [], [], [], [5]] ?_;refine dH ?_;refine dH ?_;refine dH ?_;refine cN (fun w H => IMul_c _ _ a _ 4398046511103 4398046511103 w (IntAt.below hA0 H.below) (OwnI.int H.m0 bx) (by omega)) fun p11 => ?_;have bp : wlen (a * (m % (b / (x.r : Int)))).natAbs <= 8796093022206 := Nat.le_trans (by rw [Int.natAbs_mul]; exact wlen_mul ..) (by omega : _ <= 8796093022206);refine cN (fun w H => ISub_c _ _ _ _ w (OwnI.int H.m5 (by omega)) (OwnI.int H.m0 (by omega))) fun p12 => ?_;refine dH ?_;have bs : wlen ((x.r : Int) - a * (m % (b / (x.r : Int)))).natAbs <= 17592186044415 := by
        have h5 := wlen_mono (Int.natAbs_sub_le (x.r : Int) (a * (m % (b / (x.r : Int)))));have h6 := wlen_add (x.r : Int).natAbs (a * (m % (b / (x.r : Int)))).natAbs;have h7 : max (wlen (x.r : Int).natAbs) (wlen (a * (m % (b / (x.r : Int)))).natAbs) <= 8796093022206 := Nat.max_le.2 ⟨by omega, bp⟩;omega
       refine cN1 (fun w H => IExact_c _ _ _ b w (OwnI.int H.m0 bs) H.m12 hb0 h3) fun p13 => ?_;refine dH ?_;refine dH ?_;refine dH ?_;refine sW ?_;refine eW ?_;refine goW ?_;refine rW [[], [10], [10, 9]] ?_;refine dH ?_;refine dH ?_;refine dH ?_;refine sW ?_;refine sW ?_;refine sW ?_;refine eW ?_;refine goW ?_;refine fin3 fun w H => ?_;exact ⟨_, _, _, rvI H.m10, rvI H.m9, rvI H.m8, ⟨_, _, _, _, _, _, rfl, h4, H.m7, H.m3, H.m0⟩, H.below⟩
theorem remGW (a b : Nat) : Value.int .u64 ((a : Int).tmod (b : Int)) = .int .u64 ((a % b : Nat) : Int) := by
 rw [Int.tmod_eq_emod_of_nonneg (Int.natCast_nonneg a), Int.natCast_emod]
theorem digOne {n : Nat} (h0 : 0 < n) (h : n < W) : dig n = [n] := by
 have e := dig_nval (Ok.one h);have hv : nval [n] = n := by simp [nval]
 have hw : wlen n = 1 := by
  have e1 : wlen n ≠ 0 := fun e => by have := wlen_eq_zero.1 e; omega
  have e2 : wlen n <= 1 := wlen_le_of_lt (by simpa using h);omega
 have ht := wlen_nval (Ok.one h);rw [hv, hw] at ht;rw [hv, <- ht] at e;simpa using e
theorem wlenOne {n : Nat} (h0 : 0 < n) (h : n < W) : wlen n = 1 := by
 have e1 : wlen n ≠ 0 := fun e => by have := wlen_eq_zero.1 e; omega
 have e2 : wlen n <= 1 := wlen_le_of_lt (by simpa using h);omega
structure WdX where
 x : Nat
 y : Nat
structure WdI (g : Nat) (z : WdX) : Prop where
 hx : z.x < W
 hy : z.y < W
 h0 : 0 < g
 gcd : Nat.gcd z.x z.y = g
set_option maxRecDepth 100000 in
set_option maxHeartbeats 1000000 in
theorem DWords_c (x y : Nat) (w : World) (hx : x < W) (hy : y < W) (h0 : 0 < Nat.gcd x y) :
 Calls Tryz.prog 55 #[.int .u64 (x : Int), .int .u64 (y : Int)] w fun e w' => (∃ o c, e = .returned (.slice o (wlen (Nat.gcd x y)) c) /\ OwnW w' w.heap.size o (wlen (Nat.gcd x y)) c (dig (Nat.gcd x y))) /\ Below w.heap.size w w' := by
 obtain ⟨g, hg⟩ : ∃ g, Nat.gcd x y = g := ⟨_, rfl⟩;rw [hg] at h0 ⊢;refine funW (S0 := fun _ => False) Tryz.func55 (Fr.nil _ w) ?_;refine goW ?_;refine rW [] ?_;refine dW ?_;refine eW ?_;refine goW ?_;refine loopW (X := WdX) (WdI g) (fun z => z.y) (fun z => [(0, .int .u64 (z.x : Int)), (1, .int .u64 (z.y : Int))]) (fun _ => []) ⟨x, y⟩ ⟨hx, hy, h0, hg⟩ fun z hz => ?_;obtain ⟨x, y⟩ := z;obtain ⟨hx, hy, h0, hg⟩ := hz;have hx : x < W := hx;have hy : y < W := hy;have hg : Nat.gcd x y = g := hg;by_cases hy0 : y = 0
 · subst hy0;obtain rfl : x = g := by rw [<- hg, Nat.gcd_zero_right]
   refine goW ?_;refine rW [] ?_;refine dW ?_;refine dB false ?_;refine eW ?_;refine goW ?_;refine cfW ?_;refine goW ?_;refine rW [] ?_;refine dW ?_;refine bW (m := 1) fun g12 => ?_;refine dW ?_;refine eW ?_;refine goW ?_;refine fin1 fun w' H => ?_;rw [wlenOne h0 hx, digOne h0 hx];exact ⟨_, rvT, ⟨_, _, rfl, RowAt.own (ws := [x]) H.m0 (Ok.one hx) (H.own _ (List.mem_cons_self ..) rfl _ rfl |>.elim (fun h => h.elim) id) (by simp) rfl (by unfold maxLen; simp)⟩, H.below⟩
 · refine goW ?_;refine rW [] ?_;refine dW ?_;refine dB true ?_;refine eW ?_;refine goW ?_;refine ctW ?_;refine goW ?_;refine rW [] ?_;refine dW ?_;refine dW ?_;refine dW ?_;refine dE (remGW x y) ?_;refine dW ?_;refine dW ?_;refine eW ?_;refine goW ?_;exact backW (⟨y, x % y⟩ : WdX) ⟨⟨hy, Nat.lt_of_lt_of_le (Nat.mod_lt _ (by omega)) (Nat.le_of_lt hy), h0, by show Nat.gcd y (x % y) = g; rw [<- hg, Nat.gcd_comm x y, Nat.gcd_rec y x, Nat.gcd_comm]⟩, Nat.mod_lt _ (by omega)⟩
structure GcX where
 xo : Option Addr
 cx : Nat
 x : Nat
 yo : Option Addr
 cy : Nat
 y : Nat
structure GcI (g : Nat) (z : GcX) : Prop where
 hx : wlen z.x <= 17592186044415
 hy : wlen z.y <= 17592186044415
 gcd : Nat.gcd z.x z.y = g
set_option maxRecDepth 100000 in
set_option maxHeartbeats 4000000 in
theorem DGcd_c (ao bo : Option Addr) (la lb ca cb : Nat) (us vs : List Nat) (w : World) (hA : WAt w ao us) (hB : WAt w bo vs) (hla : la = us.length) (hlb : lb = vs.length) (hma : la <= 17592186044415) (hmb : lb <= 17592186044415) :
 Calls Tryz.prog 44 #[.slice ao la ca, .slice bo lb cb] w fun e w' => (∃ o c, e = .returned (.slice o (wlen (Nat.gcd (nval us) (nval vs))) c) /\ OwnW w' w.heap.size o (wlen (Nat.gcd (nval us) (nval vs))) c (dig (Nat.gcd (nval us) (nval vs)))) /\ Below w.heap.size w w' := by
 obtain ⟨g, hg⟩ : ∃ g, Nat.gcd (nval us) (nval vs) = g := ⟨_, rfl⟩;have wx : wlen (nval us) <= 17592186044415 := Nat.le_trans (wlen_nval_le hA.ok) (hla ▸ hma);have wy : wlen (nval vs) <= 17592186044415 := Nat.le_trans (wlen_nval_le hB.ok) (hlb ▸ hmb);rw [hg];refine funW (S0 := fun _ => False) Tryz.func44 (Fr.nil _ w) ?_;refine goW ?_;refine rW [] ?_;refine dW ?_;refine eW ?_;refine goW ?_;refine rW [] ?_;refine dW ?_;refine cW1 (fun w' H => Least_c ao la ca us w' (hA.below H.below) hla (by omega)) fun xo cx => ?_;refine dW ?_;refine cW1 (fun w' H => Least_c bo lb cb vs w' (hB.below H.below) hlb (by omega)) fun yo cy => ?_;refine dW ?_;refine dW ?_;refine eW ?_;refine goW ?_;refine loopW (X := GcX) (GcI g) (fun z => z.y) (fun z => [(6, .slice z.yo (wlen z.y) z.cy), (5, .slice z.xo (wlen z.x) z.cx)]) (fun z => [.ow w.heap.size z.xo z.x z.cx, .wat z.xo (dig z.x), .ow w.heap.size z.yo z.y z.cy, .wat z.yo (dig z.y)]) ⟨xo, cx, nval us, yo, cy, nval vs⟩ ⟨wx, wy, hg⟩ fun z hz => ?_;clear hg wx wy;obtain ⟨xo, cx, x, yo, cy, y⟩ := z;obtain ⟨hx, hy, hg⟩ := hz;have hx : wlen x <= 17592186044415 := hx;have hy : wlen y <= 17592186044415 := hy;have hg : Nat.gcd x y = g := hg;by_cases hy0 : y = 0
 · subst hy0;obtain rfl : x = g := by rw [<- hg, Nat.gcd_zero_right]
   clear hg;have hz := wlen_zero;refine goW ?_;refine rW [] ?_;refine dW ?_;refine dW ?_;refine dB false ?_;refine eW ?_;refine goW ?_;refine cfW ?_;refine goW ?_;refine rW [] ?_;refine dW ?_;refine dW ?_;refine eW ?_;refine goW ?_;refine fin1 fun w' H => ?_;exact ⟨_, rvT, ⟨_, _, rfl, H.m0⟩, H.below⟩
 · have hyl : 0 < wlen y := by
    rcases Nat.eq_zero_or_pos (wlen y) with h | h
    · exact absurd (wlen_eq_zero.1 h) hy0
    · exact h
   have HG := Lib.hid hg;clear hg;refine goW ?_;refine rW [] ?_;refine dW ?_;refine dW ?_;refine dB true ?_;refine eW ?_;refine goW ?_;refine ctW ?_;by_cases h1 : wlen x = 1 /\ wlen y = 1
   · obtain ⟨h1, h2⟩ := h1;have hxW : x < W := by have := lt_pow_wlen x; rw [h1] at this; simpa using this
     have hyW : y < W := by have := lt_pow_wlen y; rw [h2] at this; simpa using this
     have hx0 : 0 < x := by
      rcases Nat.eq_zero_or_pos x with h | h
      · subst h; rw [wlen_zero] at h1; omega
      · exact h
     have ex := digOne hx0 hxW;have ey := digOne (Nat.pos_of_ne_zero hy0) hyW;rw [ex, ey, h1, h2];refine goW ?_;refine rW [] ?_;refine dW ?_;refine dW ?_;refine dW ?_;refine dW ?_;refine dG ?_;refine dG ?_;refine dG ?_;refine dW ?_;refine eW ?_;refine goW ?_;refine ctW ?_;refine posW (ao := xo) (ws := [x]) (by simp) (by simp) fun bx ox e => ?_;subst e;refine posW (ao := yo) (ws := [y]) (by simp) (by simp) fun b_ oy e => ?_;subst e;refine word00W (ws := [x]) (b := bx) (o := ox) (by simp) (by simp) ?_;refine word00W (ws := [y]) (b := b_) (o := oy) (by simp) (by simp) ?_;rw [show gw [x] 0 = x by simp [gw], show gw [y] 0 = y by simp [gw]];refine goW ?_;refine rW [] ?_;refine dW ?_;refine dW ?_;refine dW ?_;refine dW ?_;refine dW ?_;refine dW ?_;refine cW1 (m := g) (fun w' H => by have := DWords_c x y w' hxW hyW (Nat.gcd_pos_of_pos_left _ hx0); rw [HG.out] at this; exact this) fun o c => ?_;refine dW ?_;refine eW ?_;refine goW ?_;refine fin1 fun w' H => ?_;exact ⟨_, rvT, ⟨_, _, rfl, H.m0⟩, H.below⟩
   · refine goW ?_;refine rW [] ?_;refine dW ?_;refine dW ?_;rcases (Decidable.em (wlen x = 1)) with h2 | h2
     case' inl =>
      have h3 : ¬ wlen y = 1 := fun h => h1 ⟨h2, h⟩;refine dB true ?_;refine dW ?_;refine dG ?_;refine dG ?_;refine dGB false ?_;refine dW ?_
     case' inr =>
      refine dB false ?_;refine dW ?_;refine uG ?_;refine uG ?_;refine uG ?_;refine dW ?_
     all_goals
      refine eW ?_;refine goW ?_;refine cfW ?_;refine goW ?_;refine rW [] ?_;refine dW ?_;refine dW ?_;refine cW2 (m := x / y) (q := x % y) (fun w' H => by
       have := DivMod_c xo yo (wlen x) (wlen y) cx cy (dig x) (dig y) w' H.m1 H.m3 (dig_length x).symm (dig_length y).symm hx hy (by rw [nval_dig]; exact hy0);simp only [nval_dig] at this;exact this) fun qo cq ro cr => ?_
      refine dW ?_;refine dW ?_;refine dW ?_;refine dW ?_;refine dW ?_;refine dW ?_;refine dW ?_;refine eW ?_;refine goW ?_;refine rW [] ?_;refine dW ?_;refine dW ?_;refine dW ?_;refine dW ?_;refine eW ?_;refine goW ?_;exact backW (⟨yo, cy, y, ro, cr, x % y⟩ : GcX) ⟨⟨hy, Nat.le_trans (wlen_mono (Nat.mod_le ..)) hx, by show Nat.gcd y (x % y) = g; rw [<- HG.out, Nat.gcd_comm x y, Nat.gcd_rec y x, Nat.gcd_comm]⟩, Nat.mod_lt _ (by omega)⟩
set_option maxRecDepth 100000 in
set_option maxHeartbeats 1000000 in
theorem BGcd_c (v u : Value) (x y : Int) (w : World) (hA : IntAt w 17592186044415 v x) (hB : IntAt w 17592186044415 u y) :
 Calls Tryz.prog 30 #[v, u] w fun e w' => (∃ v', e = .returned v' /\ OwnI w' w.heap.size v' (Int.gcd x y : Int)) /\ Below w.heap.size w w' := by
 obtain ⟨n, ao, len, cap, ws, rfl, hW, hl, hL1, hc, hx⟩ := hA;obtain ⟨n2, ao2, len2, cap2, ws2, rfl, hW2, hl2, hL2, hc2, hx2⟩ := hB;have hg : Int.gcd x y = Nat.gcd (nval ws) (nval ws2) := by rw [hx, hx2]; unfold Int.gcd; rw [zi_abs, zi_abs]
 rw [hg];refine funW (S0 := fun _ => False) Tryz.func30 (Fr.nil _ w) ?_;refine goW ?_;refine rW [] ?_;refine aW fun g2 => ?_;refine aW fun g3 => ?_;refine aW fun g4 => ?_;refine eW ?_;refine goW ?_;refine rW [] ?_;refine dW ?_;refine dW ?_;refine dW ?_;refine dW ?_;refine cW1 (fun w' H => DGcd_c ao ao2 len len2 cap cap2 ws ws2 w' (hW.below H.below) (hW2.below H.below) hl hl2 hL1 hL2) fun o c => ?_;refine dW ?_;refine sW ?_;refine eW ?_;refine goW ?_;refine fin1 fun w' H => ?_;exact ⟨_, rvI H.m2, ⟨_, rfl, ow_own H.m0⟩, H.below⟩
theorem zsign_zero {x : Int} : zsign x = 0 ↔ x = 0 := by
 unfold zsign;constructor
 · intro h; split at h <;> first | omega | (split at h <;> omega)
 · rintro rfl; rfl
theorem lcm_int (x y : Int) : ((x / (Int.gcd x y : Int) * y).natAbs : Int) = (Int.lcm x y : Int) := by
 congr 1;have hd : (Int.gcd x y : Int) ∣ x := Int.gcd_dvd_left ..;rw [Int.natAbs_mul, Int.natAbs_ediv_of_dvd hd, Int.natAbs_natCast];unfold Int.lcm Nat.lcm;have h2 : Int.gcd x y ∣ x.natAbs := Nat.gcd_dvd_left ..;show _ = x.natAbs * y.natAbs / Int.gcd x y;rw [Nat.mul_comm x.natAbs, Nat.mul_div_assoc _ h2, Nat.mul_comm]
set_option maxRecDepth 100000 in
set_option maxHeartbeats 1000000 in
theorem BLcm_c (v u : Value) (x y : Int) (L : Nat) (w : World) (hA : IntAt w L v x) (hB : IntAt w L u y) (hL : L <= 8796093022207) :
 Calls Tryz.prog 33 #[v, u] w fun e w' => (∃ v', e = .returned v' /\ OwnI w' w.heap.size v' (Int.lcm x y : Int)) /\ Below w.heap.size w w' := by
 have hlx := hA.wlen;obtain ⟨p, rfl⟩ := hA.parts;obtain ⟨q, rfl⟩ := hB.parts;have hd : (Int.gcd x y : Int) ∣ x := Int.gcd_dvd_left ..;have hlc := lcm_int x y;have h00 : (Int.gcd x y : Int) = 0 -> Int.lcm x y = 0 := fun h => by
  have : Int.gcd x y = 0 := by omega
  have h1 := (Int.gcd_eq_zero_iff.1 this).1;subst h1; simp
 have hgl : wlen (Int.gcd x y) <= 17592186044415 := by
  rcases Nat.eq_zero_or_pos x.natAbs with h | h
  · have : x = 0 := by omega
    subst this;rw [Int.gcd_zero_left]; have := hB.wlen; omega
  · exact Nat.le_trans (wlen_mono (Nat.gcd_le_left _ h)) (by omega)
 have hql : wlen (x / (Int.gcd x y : Int)).natAbs <= L := Nat.le_trans (wlen_mono (by rw [Int.natAbs_ediv_of_dvd hd]; exact Nat.div_le_self ..)) hlx;have hml : wlen (x / (Int.gcd x y : Int) * y).natAbs <= 17592186044415 := by
  rw [Int.natAbs_mul]; exact Nat.le_trans (wlen_mul ..) (by have := hB.wlen; omega)
 refine funW (S0 := fun _ => False) Tryz.func33 (((Fr.nil _ w).i hB).i hA) ?_;refine goW ?_;refine rW [] ?_;refine aW fun g2 => ?_;refine aW fun g3 => ?_;refine aW fun g4 => ?_;refine eW ?_;refine goW ?_;refine rW [] ?_;refine dW ?_;refine dW ?_;refine cN (fun w H => BGcd_c _ _ x y w (H.m3.mono (by omega)) (H.m4.mono (by omega))) fun p10 => ?_;refine aW fun g5 => ?_;refine sG ?_;refine eW ?_;refine goW ?_;refine rW [] ?_;refine dW ?_;refine cV (fun w H => ISign_c _ _ w (OwnI.int H.m1 hgl)) ?_;obtain ⟨g, hg⟩ : ∃ g : Int, (Int.gcd x y : Int) = g := ⟨_, rfl⟩;have hgl' : wlen g.natAbs <= 17592186044415 := by rw [<- hg]; exact hgl
 rw [hg] at hd hlc h00 hql hml ⊢;clear hg hgl;by_cases h0 : g = 0
 · have hz : zsign g = 0 := zsign_zero.2 h0;rw [h00 h0];refine dB true ?_;refine eW ?_;refine goW ?_;refine ctW ?_;refine goW ?_;refine rW [] ?_;refine dW ?_;refine sW ?_;refine eW ?_;refine goW ?_;refine fin1 fun w' H => ?_;exact ⟨_, rvI H.m2, ⟨_, rfl, OwnI.zero _ _⟩, H.below⟩
 · have hz : ¬ zsign g = 0 := fun h => h0 (zsign_zero.1 h);rw [<- hlc];refine dB false ?_;refine eW ?_;refine goW ?_;refine cfW ?_;refine goW ?_;refine rW [] ?_;refine dW ?_;refine dW ?_;refine cN1 (fun w H => IExact_c _ _ x g w (H.m5.mono (by omega)) (OwnI.int H.m1 hgl') h0 hd) fun p18 => ?_;refine dW ?_;refine dW ?_;refine dW ?_;refine aW fun g6 => ?_;refine sG ?_;refine dW ?_;refine eW ?_;refine goW ?_;refine rW [] ?_;refine dW ?_;refine dW ?_;refine cN (fun w H => IMul_c _ _ _ y L L w (OwnI.int H.m1 hql) H.m8 (by omega)) fun p23 => ?_;refine cN (fun w H => IAbs_c _ _ w (OwnI.int H.m0 hml)) fun p24 => ?_;refine sW ?_;refine eW ?_;refine goW ?_;refine fin1 fun w' H => ?_;exact ⟨_, rvI H.m6, ⟨_, rfl, H.m0⟩, H.below⟩
end Go.Proofs.YtghpbpclamfigaaGreat
namespace Go.Proofs.YtghpbpclamfigaaGreat
def chPass : Nat -> List Nat -> Nat × List Nat
 | g, [] => (g, [])
 | g, y :: l => ((chPass (Nat.gcd g y) l).1, Nat.lcm g y :: (chPass (Nat.gcd g y) l).2)
theorem chPass_length : ∀ (l : List Nat) (g : Nat), (chPass g l).2.length = l.length
 | [], _ => rfl
 | y :: l, g => by simp [chPass, chPass_length l]
def chProg : List Nat -> List Nat
 | [] => []
 | x :: l => (chPass x l).1 :: chProg (chPass x l).2
termination_by l => l.length
decreasing_by simp [chPass_length]
def chPut : Nat -> List Nat -> List Nat
 | x, [] => [x]
 | x, c :: cs => Nat.gcd c x :: chPut (Nat.lcm c x) cs
def chRef (l : List Nat) : List Nat := l.foldl (fun c x => chPut x c) []
theorem chPass_append : ∀ (l : List Nat) (g x : Nat), chPass g (l ++ [x]) = (Nat.gcd (chPass g l).1 x, (chPass g l).2 ++ [Nat.lcm (chPass g l).1 x])
 | [], g, x => by simp [chPass]
 | y :: l, g, x => by
  simp only [List.cons_append, chPass, chPass_append l (Nat.gcd g y) x]
theorem chProg_append : ∀ (n : Nat) (l : List Nat) (x : Nat), l.length = n -> chProg (l ++ [x]) = chPut x (chProg l) := by
 intro n;induction n with
 | zero =>
  intro l x h;obtain rfl := List.eq_nil_of_length_eq_zero h;simp [chProg, chPass, chPut]
 | succ n ih =>
  intro l x h;cases l with
  | nil => simp at h
  | cons y l =>
   rw [List.cons_append, chProg, chPass_append, chProg];simp only [chPut];rw [ih (chPass y l).2 _ (by rw [chPass_length]; simpa using h)]
theorem chProg_ref (l : List Nat) : chProg l = chRef l := by
 have key : ∀ n (l : List Nat), l.length = n -> chProg l = chRef l := by
  intro n;induction n with
  | zero => intro l h; obtain rfl := List.eq_nil_of_length_eq_zero h; simp [chProg, chRef]
  | succ n ih =>
   intro l h;have hne : l ≠ [] := by intro e; subst e; simp at h
   have e := List.dropLast_concat_getLast hne;have hl : l.dropLast.length = n := by simp [h]
   rw [<- e, chProg_append _ _ _ rfl, ih _ hl];simp [chRef, List.foldl_append]
 exact key _ l rfl
def chFin (pre : List Nat) (g : Nat) (mid suf : List Nat) : List Nat := pre ++ (chPass g suf).1 :: chProg (mid ++ (chPass g suf).2)
theorem chFin_start (pre : List Nat) (x : Nat) (l : List Nat) : chFin pre x [] l = pre ++ chProg (x :: l) := by rw [chFin, chProg]; rfl
theorem chFin_step (pre : List Nat) (g y : Nat) (mid suf : List Nat) : chFin pre (Nat.gcd g y) (mid ++ [Nat.lcm g y]) suf = chFin pre g mid (y :: suf) := by simp [chFin, chPass]
theorem chFin_end (pre : List Nat) (g : Nat) (mid : List Nat) : chFin pre g mid [] = (pre ++ [g]) ++ chProg mid := by simp [chFin, chPass]
def prodNZ : List Nat -> Nat
 | [] => 1
 | x :: l => (if x = 0 then 1 else x) * prodNZ l
def Dv (P x : Nat) : Prop := x = 0 ∨ x ∣ P
theorem prodNZ_pos : ∀ l : List Nat, 0 < prodNZ l
 | [] => Nat.one_pos
 | x :: l => Nat.mul_pos (by split <;> omega) (prodNZ_pos l)
theorem Dv.of_mem : ∀ {l : List Nat} {x : Nat}, x ∈ l -> Dv (prodNZ l) x
 | y :: l, x, h => by
  rcases List.mem_cons.1 h with rfl | h
  · by_cases h0 : x = 0
    · exact .inl h0
    · rw [prodNZ, if_neg h0]; exact .inr (Nat.dvd_mul_right ..)
  · rcases Dv.of_mem h with h0 | h0
    · exact .inl h0
    · exact .inr (Nat.dvd_trans h0 (Nat.dvd_mul_left ..))
theorem Dv.gcd {P x y : Nat} (h : Dv P x) (k : Dv P y) : Dv P (Nat.gcd x y) := by
 rcases h with rfl | h
 · rw [Nat.gcd_zero_left]; exact k
 · exact .inr (Nat.dvd_trans (Nat.gcd_dvd_left ..) h)
theorem Dv.lcm {P x y : Nat} (h : Dv P x) (k : Dv P y) : Dv P (Nat.lcm x y) := by
 rcases h with rfl | h
 · rw [Nat.lcm_zero_left]; exact .inl rfl
 · rcases k with rfl | k
   · rw [Nat.lcm_zero_right]; exact .inl rfl
   · exact .inr (Nat.lcm_dvd h k)
theorem Dv.le {P x : Nat} (hP : 0 < P) (h : Dv P x) : x <= P := by
 rcases h with rfl | h
 · omega
 · exact Nat.le_of_dvd hP h
theorem prodNZ_lt (L : Nat) : ∀ l : List Nat, (∀ x ∈ l, x < W ^ L) -> prodNZ l <= W ^ (L * l.length)
 | [], _ => by simp [prodNZ]
 | x :: l, h => by
  have h1 := prodNZ_lt L l fun y hy => h y (List.mem_cons_of_mem _ hy);have h2 := h x (List.mem_cons_self ..);rw [prodNZ, List.length_cons, Nat.mul_succ, Nat.pow_add, Nat.mul_comm (W ^ (L * l.length))];refine Nat.mul_le_mul ?_ h1;split <;> omega
theorem chRef_length : ∀ l : List Nat, (chRef l).length = l.length := fun l => by
 rw [<- chProg_ref];have key : ∀ n (l : List Nat), l.length = n -> (chProg l).length = n := by
  intro n;induction n with
  | zero => intro l h; obtain rfl := List.eq_nil_of_length_eq_zero h; simp [chProg]
  | succ n ih =>
   intro l h;cases l with
   | nil => simp at h
   | cons x l =>
    rw [chProg, List.length_cons, ih (chPass x l).2 (by rw [chPass_length]; simpa using h)]
 exact key _ l rfl
theorem chPass_dv {P : Nat} : ∀ (l : List Nat) (g : Nat), Dv P g -> (∀ y ∈ l, Dv P y) -> Dv P (chPass g l).1 /\ ∀ y ∈ (chPass g l).2, Dv P y
 | [], g, hg, _ => ⟨hg, fun y hy => by cases hy⟩
 | x :: l, g, hg, h => by
  have hx := h x (List.mem_cons_self ..);obtain ⟨h1, h2⟩ := chPass_dv l (Nat.gcd g x) (hg.gcd hx) fun y hy => h y (List.mem_cons_of_mem _ hy);refine ⟨h1, fun y hy => ?_⟩;rcases List.mem_cons.1 hy with rfl | hy
  · exact hg.lcm hx
  · exact h2 y hy
theorem chProg_dv {P : Nat} {l : List Nat} (h : ∀ y ∈ l, Dv P y) : ∀ y ∈ chProg l, Dv P y := by
 have key : ∀ n (l : List Nat), l.length = n -> (∀ y ∈ l, Dv P y) -> ∀ y ∈ chProg l, Dv P y := by
  intro n;induction n with
  | zero => intro l h; obtain rfl := List.eq_nil_of_length_eq_zero h; simp [chProg]
  | succ n ih =>
   intro l h hd;cases l with
   | nil => simp at h
   | cons x l =>
    obtain ⟨h1, h2⟩ := chPass_dv l x (hd x (List.mem_cons_self ..)) fun y hy => hd y (List.mem_cons_of_mem _ hy);intro y hy;rw [chProg] at hy;rcases List.mem_cons.1 hy with rfl | hy
    · exact h1
    · exact ih _ (by rw [chPass_length]; simpa using h) h2 y hy
 exact key _ l rfl h
end Go.Proofs.YtghpbpclamfigaaGreat
namespace Go.Proofs.YtghpbpclamfigaaGreat
open Go.RowKit
theorem incB {a : Nat} (h : a < 9223372036854775807) : Value.int .i64 (IntKind.i64.wrap ((a : Int) + 1)) = .int .i64 ((a + 1 : Nat) : Int) := by
 rw [wrap_small] <;> first | rfl | omega
theorem sumI {a b : Nat} (h : a + b < 9223372036854775807) : Value.int .i64 (IntKind.i64.wrap ((a : Int) + b)) = .int .i64 ((a + b : Nat) : Int) := by
 rw [wrap_small] <;> first | rfl | omega
theorem mulI {a b : Nat} (h : a * b < 9223372036854775808) : Value.int .i64 (IntKind.i64.wrap ((a : Int) * b)) = .int .i64 ((a * b : Nat) : Int) := by
 rw [<- Int.natCast_mul, wrap_small] <;> first | rfl | omega
theorem minI (a b : Nat) : Value.int .i64 (min (a : Int) b) = .int .i64 ((min a b : Nat) : Int) := by congr 1; omega
theorem u64I {n : Nat} (h : n < W) : Value.int .u64 (IntKind.u64.wrap (n : Int)) = .int .u64 (n : Int) := by
 congr 1;unfold W at h;simp only [IntKind.wrap, IntKind.signed, IntKind.bits];simp; omega
def nt (l : List Nat) : List Int := l.map fun n : Nat => (n : Int)
theorem nt_length (l : List Nat) : (nt l).length = l.length := by simp [nt]
theorem gi_nt (l : List Nat) (i : Nat) : gi (nt l) i = ((l.getD i 0 : Nat) : Int) := by
 unfold gi nt;rw [List.getD_eq_getElem?_getD, List.getElem?_map, List.getD_eq_getElem?_getD];cases l[i]? <;> rfl
theorem nt_set (l : List Nat) (i v : Nat) : (nt l).set i (v : Int) = nt (l.set i v) := by simp [nt, List.map_set]
theorem NsAt.nat {w : World} {ps : List P4} {l : List Nat} (h : NsAt w ps (nt l)) {i : Nat} (hi : i < l.length) : NumAt w (av (gp ps i)) ((l.getD i 0 : Nat) : Int) := by
 have := h.2 i (by rw [h.1, nt_length]; exact hi)
 rwa [gi_nt] at this
structure C1X where
 i : Nat
 ps : List P4
 zs : List Int
structure C1I (xs : List Int) (n : Nat) (z : C1X) : Prop where
 hi : z.i <= n
 hp : z.ps.length = n
 hz : z.zs.length = n
 ok : ∀ k, k < n -> gi z.zs k = if k < z.i then (((gi xs k).natAbs : Nat) : Int) else 0
structure C2X where
 i : Nat
 pre : List Nat
 suf : List Nat
 ps : List P4
structure C2I (R : List Nat) (P n : Nat) (z : C2X) : Prop where
 hi : z.pre.length = z.i
 hp : z.ps.length = n
 hl : (z.pre ++ z.suf).length = n
 fin : z.pre ++ chProg z.suf = R
 dv : ∀ y ∈ z.pre ++ z.suf, Dv P y
structure C3X where
 j : Nat
 g : Nat
 mid : List Nat
 suf : List Nat
 ps : List P4
structure C3I (R : List Nat) (P n i : Nat) (pre : List Nat) (z : C3X) : Prop where
 hj : i + 1 + z.mid.length = z.j
 hp : z.ps.length = n
 hl : (pre ++ z.g :: (z.mid ++ z.suf)).length = n
 fin : chFin pre z.g z.mid z.suf = R
 dv : ∀ y ∈ pre ++ z.g :: (z.mid ++ z.suf), Dv P y
theorem getD_at (a : List Nat) (x : Nat) (b : List Nat) : (a ++ x :: b).getD a.length 0 = x := by simp
theorem set_at (a : List Nat) (x y : Nat) (b : List Nat) : (a ++ x :: b).set a.length y = a ++ y :: b := by simp
set_option maxRecDepth 100000 in
set_option maxHeartbeats 4000000 in
theorem SChain_c (ao : Option Addr) (cap L : Nat) (xs : List Int) (w : World) (hA : LsAt w L ao xs) (hL : L <= 17592186044415) (hn : xs.length <= 8796093022208) (hP : wlen (prodNZ (xs.map Int.natAbs)) <= 8796093022207) :
 Calls Tryz.prog 21 #[.slice ao xs.length cap] w fun e w' => (∃ b, e = .returned (.slice (some ⟨b, 0, none⟩) xs.length xs.length) /\ w.heap.size <= b /\ RowN w' b (nt (chProg (xs.map Int.natAbs)))) /\ Below w.heap.size w w' := by
 obtain ⟨R, hR⟩ : ∃ R, chProg (xs.map Int.natAbs) = R := ⟨_, rfl⟩;have hdv0 : ∀ y ∈ xs.map Int.natAbs, Dv (prodNZ (xs.map Int.natAbs)) y := fun y hy => Dv.of_mem hy;have hP0 := prodNZ_pos (xs.map Int.natAbs);obtain ⟨P, hPP⟩ : ∃ P, prodNZ (xs.map Int.natAbs) = P := ⟨_, rfl⟩;obtain ⟨n, hnn⟩ : ∃ n, xs.length = n := ⟨_, rfl⟩;rw [hPP] at hdv0 hP hP0;rw [hR, hnn];rw [hnn] at hn;have hb : ∀ y, Dv P y -> wlen y <= 8796093022207 := fun y hy => Nat.le_trans (wlen_mono (hy.le hP0)) hP;have HB := Lib.hid hb;have HN := Lib.hid hnn;have HR := Lib.hid hR;have HD := Lib.hid hdv0;clear hb hnn hR hPP hP hP0 hdv0;refine funW (S0 := fun _ => False) Tryz.func21 ((Fr.nil _ w).l hA (by simp)) ?_;refine goW ?_;refine rW [] ?_;refine dW ?_;refine eW ?_;refine goW ?_;refine rW [] ?_;refine dW ?_;refine dW ?_;refine mN n n rfl rfl (Nat.le_refl _) hn fun b => ?_;refine dW ?_;refine eW ?_;refine addW (e := .ns (List.replicate n p0) (List.replicate n 0)) (fun w' _ => NsAt.zeros w' n) ?_;refine goW ?_;refine rW [] ?_;refine dW ?_;refine dW ?_;refine dW ?_;refine eW ?_;refine goW ?_;refine loopW (X := C1X) (C1I xs n) (fun z => n - z.i) (fun z => [(14, .int .i64 (z.i : Int)), (13, .int .i64 (n : Int)), (12, .slice ao n cap), (3, .slice (some ⟨b, 0, none⟩) n n)]) (fun z => [.ns z.ps z.zs, .row b 37 (rn z.ps []), .ls L ao xs]) ⟨0, List.replicate n p0, List.replicate n 0⟩ ⟨Nat.zero_le _, by simp, by simp, fun k hk => by rw [gi_eq (by simpa using hk)]; simp⟩ fun z hz => ?_;obtain ⟨i, ps, zs⟩ := z;obtain ⟨hi, hp, hz, hok⟩ := hz
 replace hi : i <= n := hi
 replace hp : ps.length = n := hp
 replace hz : zs.length = n := hz
 replace hok : ∀ k, k < n -> gi zs k = if k < i then (((gi xs k).natAbs : Nat) : Int) else 0 := hok
 have HZ := Lib.hid (And.intro hp hz);clear hp hz;by_cases h : i < n
 · obtain ⟨bx, ox, rfl⟩ := hA.pos (i := i) (by rw [HN.out]; exact h);have h01 : (i : Int) < (n : Int) := by omega
   refine goW ?_;refine rW [] ?_;refine dB true ?_;refine eW ?_;refine goW ?_;refine ctW ?_;refine numW (L := L) (xs := xs) (b := bx) (o := ox) i (by simp) (by rw [HN.out]; exact h) fun p => ?_;refine goW ?_;refine rW [] ?_;refine dW ?_;refine dW ?_;refine dW ?_;refine aW fun g5 => ?_;refine dW ?_;refine sG ?_;refine eW ?_;refine goW ?_;refine rW [] ?_;refine dW ?_;refine dW ?_;refine dW ?_;refine cN (fun w' H => IAbs_c (av p) _ w' (H.m3.mono hL)) fun q => ?_;refine dW ?_;refine moreW (e := .ns (ps.set i q) (zs.set i ((gi xs i).natAbs : Nat))) (fun w' H => NsAt.set H.m5 i H.m0.num) ?_;refine sN i q (by rw [HZ.out.1]; exact h) NoW.nil rfl ?_;refine eW ?_;refine goW ?_;refine rW [] ?_;refine dE (incB (a := i) (by omega)) ?_;refine dW ?_;refine eW ?_;refine goW ?_;refine backW (⟨i + 1, ps.set i q, zs.set i ((gi xs i).natAbs : Nat)⟩ : C1X) ⟨⟨h, by simpa using HZ.out.1, by simpa using HZ.out.2, fun k hk => ?_⟩, by show n - (i + 1) < n - i; omega⟩;show gi (zs.set i ((gi xs i).natAbs : Nat)) k = if k < i + 1 then (((gi xs k).natAbs : Nat) : Int) else 0;rw [gi_set (by rw [HZ.out.2]; exact h)];by_cases e : k = i
   · subst e; rw [if_pos rfl, if_pos (by omega)]
   · rw [if_neg e, hok k hk];by_cases e2 : k < i
     · rw [if_pos e2, if_pos (by omega)]
     · rw [if_neg e2, if_neg (by omega)]
 · obtain rfl : i = n := by omega
   have hzs : zs = nt (xs.map Int.natAbs) := by
    refine List.ext_getElem (by rw [HZ.out.2, nt_length, List.length_map, HN.out]) fun k h1 h2 => ?_;have hk : k < i := by rw [HZ.out.2] at h1; exact h1
    have := hok k hk;rw [if_pos hk, gi_eq h1, gi_eq (by rw [HN.out]; exact hk)] at this;rw [this]; simp [nt]
   subst hzs;clear hok hi;refine goW ?_;refine rW [] ?_;refine dB false ?_;refine eW ?_;refine goW ?_;refine cfW ?_;refine goW ?_;refine rW [] ?_;refine dW ?_;refine dW ?_;refine dW ?_;refine eW ?_;refine goW ?_;refine loopW (X := C2X) (C2I R P i) (fun z => i - z.i) (fun z => [(27, .int .i64 (z.i : Int)), (26, .int .i64 (i : Int)), (3, .slice (some ⟨b, 0, none⟩) i i)]) (fun z => [.row b 37 (rn z.ps []), .ns z.ps (nt (z.pre ++ z.suf))]) ⟨0, [], xs.map Int.natAbs, ps⟩ ⟨rfl, HZ.out.1, by simp [HN.out], HR.out, HD.out⟩ fun z hz => ?_;clear HZ HD HR;obtain ⟨I, pre, suf, ps⟩ := z;obtain ⟨hI, hp, hl, hfin, hdv⟩ := hz
   replace hI : pre.length = I := hI
   replace hp : ps.length = i := hp
   replace hl : (pre ++ suf).length = i := hl
   replace hfin : pre ++ chProg suf = R := hfin
   replace hdv : ∀ y ∈ pre ++ suf, Dv P y := hdv
   cases suf with
   | nil =>
    have e : I = i := by simpa [hI] using hl
    have hfin : pre = R := by simpa [chProg] using hfin
    subst e hfin;clear hl hI hp;refine goW ?_;refine rW [] ?_;refine dB false ?_;refine eW ?_;refine goW ?_;refine cfW ?_;refine goW ?_;refine rW [] ?_;refine dW ?_;refine dW ?_;refine eW ?_;refine goW ?_;refine fin1 fun w' H => ?_;exact ⟨_, rvT, ⟨b, rfl, (H.own _ (List.mem_cons_self ..) rfl _ rfl).elim (fun h => h.elim) id, RowN.mk' H.m0 NoW.nil (by have := H.m1; rw [List.append_nil] at this; exact this)⟩, H.below⟩
   | cons x suf =>
    have hIn : I < i := by simp at hl; omega
    have h01 : (I : Int) < (i : Int) := by omega
    have HL := Lib.hid (And.intro hI (And.intro hp hl));clear hI hp hl;refine goW ?_;refine rW [] ?_;refine dB true ?_;refine eW ?_;refine goW ?_;refine ctW ?_;refine goW ?_;refine rW [] ?_;refine dW ?_;refine dW ?_;refine eW ?_;refine goW ?_;refine rW [] ?_;refine dW ?_;refine dE (incB (a := I) (by omega)) ?_;refine dW ?_;refine eW ?_;refine goW ?_;refine loopW (X := C3X) (C3I R P i I pre) (fun z => z.suf.length) (fun z => [(7, .int .i64 (z.j : Int)), (6, .int .i64 (I : Int)), (27, .int .i64 (I : Int)), (26, .int .i64 (i : Int)), (3, .slice (some ⟨b, 0, none⟩) i i)]) (fun z => [.row b 37 (rn z.ps []), .ns z.ps (nt (pre ++ z.g :: (z.mid ++ z.suf)))]) ⟨I + 1, x, [], suf, ps⟩ ⟨rfl, HL.out.2.1, HL.out.2.2, by rw [chFin_start]; exact hfin, hdv⟩ fun z hz => ?_;have HI := Lib.hid HL.out.1;clear HL hfin hdv;obtain ⟨J, g, mid, suf', ps⟩ := z;obtain ⟨hJ, hp, hl, hfin, hdv⟩ := hz
    replace hJ : I + 1 + mid.length = J := hJ
    replace hp : ps.length = i := hp
    replace hl : (pre ++ g :: (mid ++ suf')).length = i := hl
    replace hfin : chFin pre g mid suf' = R := hfin
    replace hdv : ∀ y ∈ pre ++ g :: (mid ++ suf'), Dv P y := hdv
    cases suf' with
    | nil =>
     have e : J = i := by have := HI.out; simp at hl; omega
     subst e;refine goW ?_;refine rW [] ?_;refine dW ?_;refine dW ?_;refine dW ?_;refine dB false ?_;refine eW ?_;refine goW ?_;refine cfW ?_;refine goW ?_;refine rW [] ?_;refine dE (incB (a := I) (by omega)) ?_;refine dW ?_;refine eW ?_;refine goW ?_;refine backW (⟨I + 1, pre ++ [g], mid, ps⟩ : C2X) ⟨⟨by simp [HI.out], hp, by simpa using hl, by rw [<- hfin, chFin_end], by simpa using hdv⟩, by show J - (I + 1) < J - I; omega⟩ (he := fun w' H => by simpa using H)
    | cons y suf' =>
     obtain ⟨l, hle⟩ : ∃ l, pre ++ g :: (mid ++ y :: suf') = l := ⟨_, rfl⟩;have hll : l.length = i := by rw [<- hle]; exact hl
     have e1 : (pre ++ g :: mid).length = J := by have := HI.out; simp; omega
     have e2 : pre ++ g :: (mid ++ y :: suf') = (pre ++ g :: mid) ++ y :: suf' := by simp
     have eI : l.getD I 0 = g := by rw [<- hle, <- HI.out]; exact getD_at ..
     have eJ : l.getD J 0 = y := by rw [<- hle, e2, <- e1]; exact getD_at ..
     have eS : (l.set J (Nat.lcm g y)).set I (Nat.gcd g y) = pre ++ Nat.gcd g y :: ((mid ++ [Nat.lcm g y]) ++ suf') := by
      rw [<- hle, e2, <- e1, set_at, <- HI.out, List.append_assoc, List.cons_append, set_at]; simp
     have hJn : J < i := by simp at hl; have := HI.out; omega
     have hIJ : I < J := by omega
     have hg : wlen g <= 8796093022207 := HB.out g (hdv g (by simp));have hy : wlen y <= 8796093022207 := HB.out y (hdv y (by simp));have hdv' : ∀ z ∈ pre ++ Nat.gcd g y :: ((mid ++ [Nat.lcm g y]) ++ suf'), Dv P z := by
      have dg := hdv g (by simp);have dy := hdv y (by simp);intro z hz;simp only [List.mem_append, List.mem_cons, List.not_mem_nil, or_false] at hz;rcases hz with hz | rfl | (hz | rfl) | hz
      · exact hdv z (by simp [hz])
      · exact dg.gcd dy
      · exact hdv z (by simp [hz])
      · exact dg.lcm dy
      · exact hdv z (by simp [hz])
     have rI : ∀ w, NsAt w ps (nt l) -> IntAt w 8796093022207 (av (gp ps I)) (g : Int) := fun w h => by
      have := h.nat (i := I) (by rw [hll]; omega);rw [eI] at this; exact this.int hg
     have rJ : ∀ w, NsAt w ps (nt l) -> IntAt w 8796093022207 (av (gp ps J)) (y : Int) := fun w h => by
      have := h.nat (i := J) (by rw [hll]; omega);rw [eJ] at this; exact this.int hy
     have sIJ : ∀ w (p q : P4), NsAt w ps (nt l) -> NumAt w (av p) ((Nat.gcd g y : Nat) : Int) -> NumAt w (av q) ((Nat.lcm g y : Nat) : Int) -> NsAt w ((ps.set J q).set I p) (nt (pre ++ Nat.gcd g y :: ((mid ++ [Nat.lcm g y]) ++ suf'))) := fun w p q h hp hq => by
      have := (h.set J hq).set I hp;rw [nt_set, nt_set, eS] at this; exact this
     have k0 := rn0 [] (ps := ps) (i := I) (by omega);have k1 := rn1 [] (ps := ps) (i := I) (by omega);have k2 := rn0 [] (ps := ps) (i := J) (by omega);have k3 := rn1 [] (ps := ps) (i := J) (by omega);have hfin' := chFin_step pre g y mid suf';rw [hfin] at hfin';have h01 : (I : Int) < (i : Int) := by omega
     have h02 : (J : Int) < (i : Int) := by omega
     have HQ := Lib.hid (And.intro hp (And.intro hfin' (And.intro hdv' (And.intro hJ hl))));rw [show pre ++ (⟨J, g, mid, y :: suf', ps⟩ : C3X).g :: ((⟨J, g, mid, y :: suf', ps⟩ : C3X).mid ++ (⟨J, g, mid, y :: suf', ps⟩ : C3X).suf) = l from hle];clear hp hfin hfin' hdv hdv' hJ hl e1 e2 eI eJ eS hle hll;refine goW ?_;refine rW [] ?_;refine dW ?_;refine dW ?_;refine dW ?_;refine dB true ?_;refine eW ?_;refine goW ?_;refine ctW ?_;refine goW ?_;refine rW [] ?_;refine dW ?_;refine dW ?_;refine dW ?_;refine dW ?_;refine dW ?_;refine dW ?_;refine dW ?_;refine dW ?_;refine cN (x := ((Nat.gcd g y : Nat) : Int)) (fun w' H => BGcd_c (av (gp ps I)) (av (gp ps J)) g y w' ((rI w' H.m1).mono (by omega)) ((rJ w' H.m1).mono (by omega))) fun p46 => ?_;refine aW fun g8 => ?_;refine sG ?_;refine eW ?_;refine goW ?_;refine rW [] ?_;refine dW ?_;refine dW ?_;refine dW ?_;refine dW ?_;refine dW ?_;refine dW ?_;refine dW ?_;refine dW ?_;refine dW ?_;refine dW ?_;refine cN (x := ((Nat.lcm g y : Nat) : Int)) (fun w' H => BLcm_c (av (gp ps I)) (av (gp ps J)) g y 8796093022207 w' (rI w' H.m3) (rJ w' H.m3) (Nat.le_refl _)) fun p57 => ?_;refine dW ?_;refine sN J p57 (by rw [HQ.out.1]; omega) NoW.nil rfl ?_;refine eW ?_;refine goW ?_;refine rW [] ?_;refine dW ?_;refine dW ?_;refine dW ?_;refine dW ?_;refine moreW (e := .ns ((ps.set J p57).set I p46) (nt (pre ++ Nat.gcd g y :: ((mid ++ [Nat.lcm g y]) ++ suf')))) (fun w' H => sIJ w' p46 p57 H.m4 H.m2.num H.m0.num) ?_;refine sN (ps := ps.set J p57) I p46 (by rw [List.length_set, HQ.out.1]; omega) NoW.nil rfl ?_;refine eW ?_;refine goW ?_;refine rW [] ?_;refine dW ?_;refine dE (incB (a := J) (by omega)) ?_;refine dW ?_;refine eW ?_;refine goW ?_;refine backW (⟨J + 1, Nat.gcd g y, mid ++ [Nat.lcm g y], suf', (ps.set J p57).set I p46⟩ : C3X) ⟨⟨by have := HQ.out.2.2.2.1; simp; omega, by simpa using HQ.out.1, by have := HQ.out.2.2.2.2; simp at this ⊢; omega, HQ.out.2.1, HQ.out.2.2.1⟩, by simp⟩
end Go.Proofs.YtghpbpclamfigaaGreat
namespace Go.Proofs.YtghpbpclamfigaaGreat
theorem gcd_dist (a b c : Nat) : Nat.gcd a (Nat.lcm b c) = Nat.lcm (Nat.gcd a b) (Nat.gcd a c) := by
 refine Nat.dvd_antisymm ?_ ?_
 · have key : ∀ d, d ∣ Nat.lcm b c -> d ∣ Nat.lcm (Nat.gcd d b) (Nat.gcd d c) := by
    intro d hd;rcases Nat.eq_zero_or_pos d with h0 | h0
    · subst h0;have : Nat.lcm b c = 0 := Nat.eq_zero_of_zero_dvd hd;rw [Nat.gcd_zero_left, Nat.gcd_zero_left, this]; exact Nat.dvd_refl _
    · have hg : 0 < Nat.gcd (Nat.gcd d b) (Nat.gcd d c) := Nat.gcd_pos_of_pos_left _ (Nat.gcd_pos_of_pos_left _ h0);refine Nat.dvd_of_mul_dvd_mul_right hg ?_;rw [Nat.mul_comm (Nat.lcm _ _), Nat.gcd_mul_lcm];have h1 : d * Nat.gcd (Nat.gcd d b) (Nat.gcd d c) ∣ b * c := by
       rw [<- Nat.gcd_mul_lcm b c, Nat.mul_comm (Nat.gcd b c)];exact Nat.mul_dvd_mul hd (Nat.dvd_gcd (Nat.dvd_trans (Nat.gcd_dvd_left ..) (Nat.gcd_dvd_right ..)) (Nat.dvd_trans (Nat.gcd_dvd_right ..) (Nat.gcd_dvd_right ..)))
      have h2 : Nat.gcd d b * Nat.gcd d c = Nat.gcd (d * Nat.gcd d b) (c * Nat.gcd d b) := by
       rw [Nat.gcd_mul_right, Nat.mul_comm]
      rw [h2];refine Nat.dvd_gcd (Nat.mul_dvd_mul_left _ (Nat.gcd_dvd_left ..)) ?_;have h3 : c * Nat.gcd d b = Nat.gcd (c * d) (c * b) := (Nat.gcd_mul_left ..).symm;rw [h3];refine Nat.dvd_gcd ?_ (by rw [Nat.mul_comm c b]; exact h1);rw [Nat.mul_comm c d];exact Nat.mul_dvd_mul_left _ (Nat.dvd_trans (Nat.gcd_dvd_right ..) (Nat.gcd_dvd_right ..))
   have h := key (Nat.gcd a (Nat.lcm b c)) (Nat.gcd_dvd_right ..);refine Nat.dvd_trans h (Nat.lcm_dvd ?_ ?_)
   · exact Nat.dvd_trans (Nat.dvd_gcd (Nat.dvd_trans (Nat.gcd_dvd_left ..) (Nat.gcd_dvd_left ..)) (Nat.gcd_dvd_right ..)) (Nat.dvd_lcm_left ..)
   · exact Nat.dvd_trans (Nat.dvd_gcd (Nat.dvd_trans (Nat.gcd_dvd_left ..) (Nat.gcd_dvd_left ..)) (Nat.gcd_dvd_right ..)) (Nat.dvd_lcm_right ..)
 · refine Nat.lcm_dvd (Nat.dvd_gcd (Nat.gcd_dvd_left ..) ?_) (Nat.dvd_gcd (Nat.gcd_dvd_left ..) ?_)
   · exact Nat.dvd_trans (Nat.gcd_dvd_right ..) (Nat.dvd_lcm_left ..)
   · exact Nat.dvd_trans (Nat.gcd_dvd_right ..) (Nat.dvd_lcm_right ..)
theorem med (a p q : Nat) : Nat.gcd (Nat.lcm a p) (Nat.lcm (Nat.gcd a p) q) = Nat.lcm (Nat.gcd a p) (Nat.lcm (Nat.gcd a q) (Nat.gcd p q)) := by
 rw [gcd_dist];have e1 : Nat.gcd (Nat.lcm a p) (Nat.gcd a p) = Nat.gcd a p := Nat.gcd_eq_right (Nat.dvd_trans (Nat.gcd_dvd_left ..) (Nat.dvd_lcm_left ..));rw [e1, Nat.gcd_comm (Nat.lcm a p) q, gcd_dist, Nat.gcd_comm q a, Nat.gcd_comm q p]
theorem med2 (a p q : Nat) : Nat.gcd (Nat.lcm a (Nat.gcd p q)) (Nat.lcm (Nat.gcd a (Nat.gcd p q)) (Nat.lcm p q)) = Nat.lcm (Nat.gcd a p) (Nat.lcm (Nat.gcd a q) (Nat.gcd p q)) := by
 have e1 : Nat.lcm (Nat.gcd a (Nat.gcd p q)) (Nat.lcm p q) = Nat.lcm p q := Nat.lcm_eq_right (Nat.dvd_trans (Nat.gcd_dvd_right ..) (Nat.dvd_trans (Nat.gcd_dvd_left ..) (Nat.dvd_lcm_left ..)));rw [e1, Nat.gcd_comm, gcd_dist];have e2 : Nat.gcd (Nat.lcm p q) (Nat.gcd p q) = Nat.gcd p q := Nat.gcd_eq_right (Nat.dvd_trans (Nat.gcd_dvd_left ..) (Nat.dvd_lcm_left ..));rw [e2, Nat.gcd_comm (Nat.lcm p q) a, gcd_dist, Nat.lcm_assoc]
theorem chPut_two : ∀ (c : List Nat) (p q : Nat), chPut q (chPut p c) = chPut (Nat.lcm p q) (chPut (Nat.gcd p q) c)
 | [], p, q => by
  have e1 : Nat.gcd (Nat.gcd p q) (Nat.lcm p q) = Nat.gcd p q := Nat.gcd_eq_left (Nat.dvd_trans (Nat.gcd_dvd_left ..) (Nat.dvd_lcm_left ..));have e2 : Nat.lcm (Nat.gcd p q) (Nat.lcm p q) = Nat.lcm p q := Nat.lcm_eq_right (Nat.dvd_trans (Nat.gcd_dvd_left ..) (Nat.dvd_lcm_left ..));simp [chPut, e1, e2]
 | a :: t, p, q => by
  have e0 : Nat.gcd (Nat.gcd a (Nat.gcd p q)) (Nat.lcm p q) = Nat.gcd (Nat.gcd a p) q := by
   rw [Nat.gcd_assoc a p q];exact Nat.gcd_eq_left (Nat.dvd_trans (Nat.gcd_dvd_right ..) (Nat.dvd_trans (Nat.gcd_dvd_left ..) (Nat.dvd_lcm_left ..)))
  have e1 : Nat.lcm (Nat.lcm a p) (Nat.lcm (Nat.gcd a p) q) = Nat.lcm (Nat.lcm a (Nat.gcd p q)) (Nat.lcm (Nat.gcd a (Nat.gcd p q)) (Nat.lcm p q)) := by
   refine Nat.dvd_antisymm ?_ ?_
   · refine Nat.lcm_dvd (Nat.lcm_dvd ?_ ?_) (Nat.lcm_dvd ?_ ?_)
     · exact Nat.dvd_trans (Nat.dvd_lcm_left ..) (Nat.dvd_lcm_left ..)
     · exact Nat.dvd_trans (Nat.dvd_trans (Nat.dvd_lcm_left p q) (Nat.dvd_lcm_right ..)) (Nat.dvd_lcm_right ..)
     · exact Nat.dvd_trans (Nat.gcd_dvd_left ..) (Nat.dvd_trans (Nat.dvd_lcm_left ..) (Nat.dvd_lcm_left ..))
     · exact Nat.dvd_trans (Nat.dvd_trans (Nat.dvd_lcm_right p q) (Nat.dvd_lcm_right ..)) (Nat.dvd_lcm_right ..)
   · refine Nat.lcm_dvd (Nat.lcm_dvd ?_ ?_) (Nat.lcm_dvd ?_ (Nat.lcm_dvd ?_ ?_))
     · exact Nat.dvd_trans (Nat.dvd_lcm_left ..) (Nat.dvd_lcm_left ..)
     · exact Nat.dvd_trans (Nat.gcd_dvd_left ..) (Nat.dvd_trans (Nat.dvd_lcm_right a p) (Nat.dvd_lcm_left ..))
     · exact Nat.dvd_trans (Nat.gcd_dvd_left ..) (Nat.dvd_trans (Nat.dvd_lcm_left ..) (Nat.dvd_lcm_left ..))
     · exact Nat.dvd_trans (Nat.dvd_lcm_right a p) (Nat.dvd_lcm_left ..)
     · exact Nat.dvd_trans (Nat.dvd_lcm_right (Nat.gcd a p) q) (Nat.dvd_lcm_right ..)
  simp only [chPut];rw [chPut_two t (Nat.lcm a p), chPut_two t (Nat.lcm a (Nat.gcd p q)), med, med2, e0, e1]
theorem chPut_comm (c : List Nat) (p q : Nat) : chPut q (chPut p c) = chPut p (chPut q c) := by
 rw [chPut_two, chPut_two c q p, Nat.lcm_comm, Nat.gcd_comm]
theorem chFold_perm {l l' : List Nat} (h : l.Perm l') : ∀ c, l.foldl (fun c x => chPut x c) c = l'.foldl (fun c x => chPut x c) c := by
 induction h with
 | nil => intro c; rfl
 | cons x _ ih => intro c; exact ih _
 | swap x y l => intro c; simp only [List.foldl_cons]; rw [chPut_comm]
 | trans _ _ h1 h2 => intro c; rw [h1, h2]
theorem chProg_perm {l l' : List Nat} (h : l.Perm l') : chProg l = chProg l' := by
 rw [chProg_ref, chProg_ref]; exact chFold_perm h []
def Chn : List Nat -> Prop
 | [] => True
 | [_] => True
 | a :: b :: l => a ∣ b /\ Chn (b :: l)
theorem chPut_head : ∀ (c : List Nat) (x : Nat), ∃ y t, chPut x c = y :: t /\ y ∣ x
 | [], x => ⟨x, [], rfl, Nat.dvd_refl _⟩
 | a :: c, x => ⟨_, _, rfl, Nat.gcd_dvd_right ..⟩
theorem Chn.put : ∀ (c : List Nat), Chn c -> ∀ x, Chn (chPut x c)
 | [], _, _ => trivial
 | [a], _, x => ⟨Nat.dvd_trans (Nat.gcd_dvd_left ..) (Nat.dvd_lcm_left ..), trivial⟩
 | a :: b :: c, ⟨h1, h2⟩, x => by
  have ih := Chn.put (b :: c) h2 (Nat.lcm a x);simp only [chPut] at ih ⊢;exact ⟨Nat.dvd_gcd (Nat.dvd_trans (Nat.gcd_dvd_left ..) h1) (Nat.dvd_trans (Nat.gcd_dvd_left ..) (Nat.dvd_lcm_left ..)), ih⟩
theorem Chn.ref : ∀ (l : List Nat) (c : List Nat), Chn c -> Chn (l.foldl (fun c x => chPut x c) c)
 | [], _, h => h
 | x :: l, c, h => Chn.ref l _ (Chn.put c h x)
theorem chProg_chn (l : List Nat) : Chn (chProg l) := by rw [chProg_ref]; exact Chn.ref l [] trivial
theorem chPass_chn : ∀ (l : List Nat) (g : Nat), Chn (g :: l) -> chPass g l = (g, l)
 | [], _, _ => rfl
 | y :: l, g, ⟨h1, h2⟩ => by
  have hl : Chn (g :: l) := by
   cases l with
   | nil => trivial
   | cons z l => exact ⟨Nat.dvd_trans h1 h2.1, h2.2⟩
  rw [chPass, Nat.gcd_eq_left h1, Nat.lcm_eq_right h1, chPass_chn l g hl]
theorem Chn.tail {x : Nat} {l : List Nat} (h : Chn (x :: l)) : Chn l := by
 cases l with
 | nil => trivial
 | cons y l => exact h.2
theorem chProg_of_chn {l : List Nat} (h : Chn l) : chProg l = l := by
 have key : ∀ n (l : List Nat), l.length = n -> Chn l -> chProg l = l := by
  intro n;induction n with
  | zero => intro l h _; obtain rfl := List.eq_nil_of_length_eq_zero h; simp [chProg]
  | succ n ih =>
   intro l h hc;cases l with
   | nil => simp at h
   | cons x l =>
    rw [chProg, chPass_chn l x hc, ih l (by simpa using h) hc.tail]
 exact key _ l rfl h
def prodL (l : List Nat) : Nat := l.foldr (· * ·) 1
theorem chPass_prod : ∀ (l : List Nat) (g : Nat), (chPass g l).1 * prodL (chPass g l).2 = g * prodL l
 | [], g => by simp [chPass, prodL]
 | y :: l, g => by
  have ih := chPass_prod l (Nat.gcd g y);simp only [chPass, prodL, List.foldr_cons] at ih ⊢;rw [Nat.mul_left_comm, ih, <- Nat.mul_assoc, Nat.mul_comm (Nat.lcm g y), Nat.gcd_mul_lcm, Nat.mul_assoc]
theorem chProg_prod (l : List Nat) : prodL (chProg l) = prodL l := by
 have key : ∀ n (l : List Nat), l.length = n -> prodL (chProg l) = prodL l := by
  intro n;induction n with
  | zero => intro l h; obtain rfl := List.eq_nil_of_length_eq_zero h; simp [chProg]
  | succ n ih =>
   intro l h;cases l with
   | nil => simp at h
   | cons x l =>
    rw [chProg];have h1 := ih (chPass x l).2 (by rw [chPass_length]; simpa using h);have h2 := chPass_prod l x;simp only [prodL, List.foldr_cons] at h1 h2 ⊢;rw [h1, h2]
 exact key _ l rfl
def ab1 (l : List Nat) : List Nat := l.filter fun x => decide (1 < x)
def nf (l : List Nat) : List Nat := ab1 (chProg l)
def Posi (l : List Nat) : Prop := ∀ x ∈ l, 0 < x
theorem Posi.append {l m : List Nat} (h : Posi l) (k : Posi m) : Posi (l ++ m) := fun x hx => (List.mem_append.1 hx).elim (h x) (k x)
theorem Posi.prodNZ : ∀ {l : List Nat}, Posi l -> prodL l = prodNZ l
 | [], _ => rfl
 | x :: l, h => by
  have := Posi.prodNZ (l := l) fun y hy => h y (List.mem_cons_of_mem _ hy);have hx := h x (List.mem_cons_self ..);simp only [prodL, List.foldr_cons] at this ⊢;rw [Go.Proofs.YtghpbpclamfigaaGreat.prodNZ, if_neg (by omega), this]
theorem chPass_pos : ∀ (l : List Nat) (g : Nat), 0 < g -> Posi l -> 0 < (chPass g l).1 /\ Posi (chPass g l).2
 | [], g, hg, h => ⟨hg, h⟩
 | y :: l, g, hg, h => by
  have hy := h y (List.mem_cons_self ..);obtain ⟨h1, h2⟩ := chPass_pos l (Nat.gcd g y) (Nat.gcd_pos_of_pos_left _ hg) fun z hz => h z (List.mem_cons_of_mem _ hz);exact ⟨h1, fun z hz => (List.mem_cons.1 hz).elim (fun e => e ▸ Nat.lcm_pos hg hy) (h2 z)⟩
theorem chProg_pos {l : List Nat} (h : Posi l) : Posi (chProg l) := by
 have key : ∀ n (l : List Nat), l.length = n -> Posi l -> Posi (chProg l) := by
  intro n;induction n with
  | zero => intro l h _; obtain rfl := List.eq_nil_of_length_eq_zero h; rw [chProg]; exact fun x hx => by cases hx
  | succ n ih =>
   intro l h hp;cases l with
   | nil => simp at h
   | cons x l =>
    obtain ⟨h1, h2⟩ := chPass_pos l x (hp x (List.mem_cons_self ..)) fun y hy => hp y (List.mem_cons_of_mem _ hy);rw [chProg];exact fun z hz => (List.mem_cons.1 hz).elim (fun e => e ▸ h1) (ih _ (by rw [chPass_length]; simpa using h) h2 z)
 exact key _ l rfl h
theorem Chn.all : ∀ {l : List Nat} {x : Nat}, Chn (x :: l) -> ∀ y ∈ l, x ∣ y
 | [], _, _, _, h => by cases h
 | z :: l, x, ⟨h1, h2⟩, y, h => by
  rcases List.mem_cons.1 h with rfl | h
  · exact h1
  · exact Nat.dvd_trans h1 (Chn.all h2 y h)
theorem Chn.cons {x : Nat} {l : List Nat} (h : Chn l) (hx : ∀ y ∈ l, x ∣ y) : Chn (x :: l) := by
 cases l with
 | nil => trivial
 | cons y l => exact ⟨hx y (List.mem_cons_self ..), h⟩
theorem Chn.filter (p : Nat -> Bool) : ∀ {l : List Nat}, Chn l -> Chn (l.filter p)
 | [], _ => trivial
 | x :: l, h => by
  have ih := Chn.filter p h.tail;rw [List.filter_cons];split
  · exact ih.cons fun y hy => h.all y (List.mem_filter.1 hy).1
  · exact ih
theorem nf_chn (l : List Nat) : Chn (nf l) := (chProg_chn l).filter _
theorem nf_gt (l : List Nat) : ∀ x ∈ nf l, 1 < x := fun x hx => of_decide_eq_true (List.mem_filter.1 hx).2
theorem chPass_one : ∀ l : List Nat, chPass 1 l = (1, l)
 | [] => rfl
 | y :: l => by rw [chPass, Nat.gcd_one_left, Nat.lcm_one_left, chPass_one l]
theorem chProg_one (l : List Nat) : chProg (1 :: l) = 1 :: chProg l := by rw [chProg, chPass_one]
theorem nf_one (l : List Nat) : nf (1 :: l) = nf l := by rw [nf, chProg_one]; rfl
theorem nf_perm {l m : List Nat} (p : l.Perm m) : nf l = nf m := by rw [nf, nf, chProg_perm p]
theorem nf_ones : ∀ (k : Nat) (l : List Nat), nf (List.replicate k 1 ++ l) = nf l
 | 0, l => rfl
 | k + 1, l => by rw [List.replicate_succ, List.cons_append, nf_one, nf_ones k l]
theorem split1 {l : List Nat} (h : Posi l) : ∃ k, l.Perm (List.replicate k 1 ++ ab1 l) := by
 have p := (List.filter_append_perm (fun x => decide (1 < x)) l).symm;refine ⟨(l.filter fun x => !decide (1 < x)).length, p.trans (List.perm_append_comm.trans ?_)⟩;refine List.Perm.append_right _ (List.Perm.of_eq ?_);refine List.eq_replicate_iff.2 ⟨rfl, fun x hx => ?_⟩;have h1 := List.mem_filter.1 hx;have h2 := h x h1.1;have h3 : ¬ 1 < x := by simpa using h1.2
 omega
theorem nf_ab1 {l : List Nat} (h : Posi l) : nf (ab1 l) = nf l := by
 obtain ⟨k, p⟩ := split1 h;rw [nf_perm p, nf_ones]
theorem chRef_append (l m : List Nat) : chRef (l ++ m) = m.foldl (fun c x => chPut x c) (chRef l) := by rw [chRef, List.foldl_append]; rfl
theorem chProg_app (l m : List Nat) : chProg (chProg l ++ m) = chProg (l ++ m) := by
 rw [chProg_ref (l ++ m), chProg_ref, chRef_append, chRef_append, <- chProg_ref, <- chProg_ref, chProg_of_chn (chProg_chn l)]
theorem nf_app {l : List Nat} (h : Posi l) (m : List Nat) : nf (nf l ++ m) = nf (l ++ m) := by
 obtain ⟨k, p⟩ := split1 (chProg_pos h);have e : nf (l ++ m) = nf (chProg l ++ m) := by rw [nf, nf, chProg_app]
 rw [e, nf_perm (p.append_right m), List.append_assoc, nf_ones]; rfl
theorem map_put (y : Nat) : ∀ (c : List Nat) (x : Nat), (chPut x c).map (Nat.gcd y) = chPut (Nat.gcd y x) (c.map (Nat.gcd y))
 | [], x => rfl
 | a :: c, x => by
  rw [chPut, List.map_cons, List.map_cons, chPut, map_put y c, gcd_dist];congr 1;refine Nat.dvd_antisymm (Nat.dvd_gcd (Nat.dvd_gcd (Nat.gcd_dvd_left ..) (Nat.dvd_trans (Nat.gcd_dvd_right ..) (Nat.gcd_dvd_left ..))) (Nat.dvd_gcd (Nat.gcd_dvd_left ..) (Nat.dvd_trans (Nat.gcd_dvd_right ..) (Nat.gcd_dvd_right ..)))) ?_;exact Nat.dvd_gcd (Nat.dvd_trans (Nat.gcd_dvd_left ..) (Nat.gcd_dvd_left ..)) (Nat.dvd_gcd (Nat.dvd_trans (Nat.gcd_dvd_left ..) (Nat.gcd_dvd_right ..)) (Nat.dvd_trans (Nat.gcd_dvd_right ..) (Nat.gcd_dvd_right ..)))
theorem map_fold (y : Nat) : ∀ (l c : List Nat), (l.foldl (fun c x => chPut x c) c).map (Nat.gcd y) = (l.map (Nat.gcd y)).foldl (fun c x => chPut x c) (c.map (Nat.gcd y))
 | [], _ => rfl
 | x :: l, c => by rw [List.foldl_cons, map_fold y l, map_put, List.map_cons, List.foldl_cons]
theorem chProg_map (y : Nat) (l : List Nat) : chProg (l.map (Nat.gcd y)) = (chProg l).map (Nat.gcd y) := by
 rw [chProg_ref, chProg_ref, chRef, chRef, map_fold]; rfl
theorem Posi.map {l : List Nat} (h : Posi l) (y : Nat) : Posi (l.map (Nat.gcd y)) := fun z hz => by
 obtain ⟨x, hx, rfl⟩ := List.mem_map.1 hz;exact Nat.gcd_pos_of_pos_right _ (h x hx)
theorem nf_map {l : List Nat} (h : Posi l) (y : Nat) : nf ((nf l).map (Nat.gcd y)) = nf (l.map (Nat.gcd y)) := by
 have h1 : nf (l.map (Nat.gcd y)) = nf ((chProg l).map (Nat.gcd y)) := by
  rw [nf, nf, <- chProg_map, chProg_of_chn (l := chProg (l.map (Nat.gcd y))) (chProg_chn _)]
 rw [h1];obtain ⟨k, p⟩ := split1 (chProg_pos h);rw [nf_perm (p.map (Nat.gcd y)), List.map_append, List.map_replicate, Nat.gcd_one_right, nf_ones]; rfl
def crs (f g : List Nat) : List Nat := (f.map fun x => g.map (Nat.gcd x)).flatten
def cps (r : Nat) (g : List Nat) : List Nat := (List.replicate r g).flatten
theorem Posi.crs {f g : List Nat} (h : Posi f) : Posi (crs f g) := fun z hz => by
 unfold Go.Proofs.YtghpbpclamfigaaGreat.crs at hz;obtain ⟨l, hl, hz⟩ := List.mem_flatten.1 hz;obtain ⟨x, hx, rfl⟩ := List.mem_map.1 hl;obtain ⟨y, _, rfl⟩ := List.mem_map.1 hz;exact Nat.gcd_pos_of_pos_left _ (h x hx)
theorem Posi.cps {g : List Nat} (h : Posi g) (r : Nat) : Posi (cps r g) := fun z hz => by
 unfold Go.Proofs.YtghpbpclamfigaaGreat.cps at hz;obtain ⟨l, hl, hz⟩ := List.mem_flatten.1 hz;rw [(List.mem_replicate.1 hl).2] at hz;exact h z hz
theorem crs_cons (f : List Nat) (y : Nat) : ∀ g : List Nat, (crs f (y :: g)).Perm (f.map (Nat.gcd y) ++ crs f g) := by
 intro g;induction f with
 | nil => exact .refl _
 | cons x f ih =>
  have e1 : crs (x :: f) (y :: g) = Nat.gcd x y :: (g.map (Nat.gcd x) ++ crs f (y :: g)) := by simp [crs]
  have e2 : crs (x :: f) g = g.map (Nat.gcd x) ++ crs f g := by simp [crs]
  rw [e1, e2, List.map_cons, List.cons_append, Nat.gcd_comm x y];refine List.Perm.cons _ ((ih.append_left _).trans ?_);rw [<- List.append_assoc, <- List.append_assoc];exact List.perm_append_comm.append_right _
theorem crs_nil (f : List Nat) : crs f [] = [] := by
 induction f with
 | nil => rfl
 | cons x f ih => unfold crs at ih ⊢; simpa using ih
theorem crs_comm (f : List Nat) : ∀ g : List Nat, (crs f g).Perm (crs g f)
 | [] => by rw [crs_nil]; exact .refl _
 | y :: g => (crs_cons f y g).trans (by
  have e : crs (y :: g) f = f.map (Nat.gcd y) ++ crs g f := by simp [crs]
  rw [e]; exact (crs_comm f g).append_left _)
def ten (r : Nat) (f : List Nat) (s : Nat) (g : List Nat) : List Nat := nf (ab1 (crs f g ++ cps r g ++ cps s f))
def tor (f g : List Nat) : List Nat := nf (ab1 (crs f g))
theorem ten_pos {r s : Nat} {f g : List Nat} (hf : Posi f) (hg : Posi g) : Posi (crs f g ++ cps r g ++ cps s f) := (hf.crs.append (hg.cps r)).append (hf.cps s)
theorem ten_eq {r s : Nat} {f g : List Nat} (hf : Posi f) (hg : Posi g) : ten r f s g = nf (crs f g ++ cps r g ++ cps s f) := nf_ab1 (ten_pos hf hg)
theorem ten_comm {r s : Nat} {f g : List Nat} (hf : Posi f) (hg : Posi g) : ten r f s g = ten s g r f := by
 rw [ten_eq hf hg, ten_eq hg hf];refine nf_perm ?_;rw [List.append_assoc, List.append_assoc];exact ((crs_comm f g).append_right _).trans (List.perm_append_comm.append_left _)
theorem tor_eq {f g : List Nat} (hf : Posi f) : tor f g = nf (crs f g) := nf_ab1 hf.crs
theorem tor_comm {f g : List Nat} (hf : Posi f) (hg : Posi g) : tor f g = tor g f := by
 rw [tor_eq hf, tor_eq hg]; exact nf_perm (crs_comm f g)
theorem ten_zero (f g : List Nat) : ten 0 f 0 g = tor f g := by simp [ten, tor, cps]
theorem nf_pos (l : List Nat) : Posi (nf l) := fun x hx => by have := nf_gt l x hx; omega
theorem cps_succ (r : Nat) (g : List Nat) : cps (r + 1) g = g ++ cps r g := by simp [cps, List.replicate_succ]
theorem nf_mid {l : List Nat} (h : Posi l) (a b : List Nat) : nf (a ++ (nf l ++ b)) = nf (a ++ (l ++ b)) := by
 rw [nf_perm (m := nf l ++ (a ++ b)) (List.perm_append_comm_assoc ..), nf_app h, nf_perm (List.perm_append_comm_assoc l a b)]
theorem nf_cps {f : List Nat} (hf : Posi f) : ∀ (s : Nat) (a : List Nat), nf (a ++ cps s (nf f)) = nf (a ++ cps s f)
 | 0, a => rfl
 | s + 1, a => by
  rw [cps_succ, cps_succ, nf_mid hf, <- List.append_assoc, <- List.append_assoc, nf_cps hf s]
theorem nf_crs {f : List Nat} (hf : Posi f) : ∀ (g b : List Nat), nf (crs (nf f) g ++ b) = nf (crs f g ++ b)
 | [], b => by rw [crs_nil, crs_nil]
 | y :: g, b => by
  rw [nf_perm ((crs_cons (nf f) y g).append_right b), nf_perm ((crs_cons f y g).append_right b), List.append_assoc, List.append_assoc,
   <- nf_app (Posi.map (nf_pos f) y), nf_map hf, nf_app (hf.map y)]
  rw [nf_perm (List.perm_append_comm_assoc _ _ b), nf_crs hf g, nf_perm (List.perm_append_comm_assoc (crs f g) _ b)]
theorem ten_nf {r s : Nat} {f g : List Nat} (hf : Posi f) (hg : Posi g) : ten r (nf f) s g = ten r f s g := by
 rw [ten_eq (nf_pos f) hg, ten_eq hf hg, nf_cps hf, List.append_assoc, List.append_assoc, nf_crs hf]
theorem ten_int {r : Nat} {f : List Nat} (hf : Posi f) : ten 1 [] r f = nf f := by
 have e : crs [] f ++ cps 1 f ++ cps r [] = f := by simp [crs, cps]
 rw [ten, e, nf_ab1 hf]
theorem ab1_prod : ∀ {l : List Nat}, Posi l -> prodL (ab1 l) = prodL l
 | [], _ => rfl
 | x :: l, h => by
  have ih := ab1_prod (l := l) fun y hy => h y (List.mem_cons_of_mem _ hy);have hx := h x (List.mem_cons_self ..);unfold ab1 at ih ⊢;rw [List.filter_cons];split
  · simp only [prodL, List.foldr_cons] at ih ⊢; rw [ih]
  · rename_i h1;have e : x = 1 := by
     have : ¬ 1 < x := by simpa using h1
     omega
    subst e;rw [ih]; simp [prodL]
theorem nf_prod {l : List Nat} (h : Posi l) : prodL (nf l) = prodL l := by rw [nf, ab1_prod (chProg_pos h), chProg_prod]
def IsPr (p : Nat) : Prop := 1 < p /\ ∀ d, d ∣ p -> d = 1 ∨ d = p
theorem nf_rep {p : Nat} (hp : 1 < p) (k : Nat) : nf (List.replicate k p) = List.replicate k p := by
 have hc : Chn (List.replicate k p) := by
  induction k with
  | zero => trivial
  | succ k ih => exact ih.cons fun y hy => by rw [(List.mem_replicate.1 hy).2]; exact Nat.dvd_refl _
 rw [nf, chProg_of_chn hc, ab1];exact List.filter_eq_self.2 fun x hx => by rw [(List.mem_replicate.1 hx).2]; exact decide_eq_true hp
theorem ab1_gcd {p : Nat} (hp : IsPr p) : ∀ f : List Nat, ab1 (f.map fun x => Nat.gcd x p) = List.replicate (f.countP fun x => decide (p ∣ x)) p
 | [] => rfl
 | x :: f => by
  have ih := ab1_gcd hp f;unfold ab1 at ih ⊢;rw [List.map_cons, List.filter_cons, List.countP_cons, ih];rcases hp.2 _ (Nat.gcd_dvd_right x p) with h | h
  · have hn : ¬ p ∣ x := fun q => by rw [Nat.gcd_eq_right q] at h; have := hp.1; omega
    rw [h, if_neg (by simp), if_neg (by simpa using hn)]; rfl
  · have hn : p ∣ x := by rw [<- h]; exact Nat.gcd_dvd_left ..
    rw [h, if_pos (by simpa using hp.1), if_pos (by simpa using hn)]; rfl
theorem crs_single (f : List Nat) (p : Nat) : crs f [p] = f.map fun x => Nat.gcd x p := by
 induction f with
 | nil => rfl
 | cons x f ih => unfold crs at ih ⊢; simpa using ih
theorem tor_prime {p : Nat} (hp : IsPr p) (f : List Nat) : tor f [p] = List.replicate (f.countP fun x => decide (p ∣ x)) p := by
 rw [tor, crs_single, ab1_gcd hp, nf_rep hp.1]
theorem ten_prime {p : Nat} (hp : IsPr p) (r : Nat) (f : List Nat) : ten r f 0 [p] = List.replicate (r + f.countP fun x => decide (p ∣ x)) p := by
 have e : ab1 (crs f [p] ++ cps r [p] ++ cps 0 f) = List.replicate ((f.countP fun x => decide (p ∣ x)) + r) p := by
  have e1 : cps 0 f = [] := rfl;have e2 : cps r [p] = List.replicate r p := by
   induction r with
   | zero => rfl
   | succ r ih => rw [cps_succ, ih]; rfl
  rw [e1, e2, List.append_nil, crs_single];unfold ab1;rw [List.filter_append];have := ab1_gcd hp f;unfold ab1 at this;rw [this, List.filter_eq_self.2 fun x hx => by rw [(List.mem_replicate.1 hx).2]; exact decide_eq_true hp.1, List.replicate_append_replicate]
 rw [ten, e, nf_rep hp.1, Nat.add_comm]
theorem pr_small {n : Nat} (h1 : 2 <= n) (h2 : n < 4) : IsPr n := by
 refine ⟨by omega, fun d hd => ?_⟩;have hle := Nat.le_of_dvd (by omega) hd;have hn : n = 2 ∨ n = 3 := by omega
 rcases hn with rfl | rfl
 · have : d = 0 ∨ d = 1 ∨ d = 2 := by omega
   rcases this with rfl | h | h
   · have := Nat.eq_zero_of_zero_dvd hd; omega
   · exact .inl h
   · exact .inr h
 · have : d = 0 ∨ d = 1 ∨ d = 2 ∨ d = 3 := by omega
   rcases this with rfl | h | rfl | h
   · have := Nat.eq_zero_of_zero_dvd hd; omega
   · exact .inl h
   · omega
   · exact .inr h
theorem pr_start {n : Nat} (h2 : ¬ 2 ∣ n) (h3 : ¬ 3 ∣ n) : ∀ e, 2 <= e -> e < 5 -> ¬ e ∣ n := fun e h1 h5 he => by
 have : e = 2 ∨ e = 3 ∨ e = 4 := by omega
 rcases this with rfl | rfl | rfl
 · exact h2 he
 · exact h3 he
 · exact h2 (Nat.dvd_trans (by decide) he)
theorem pr_step {n d : Nat} (h2 : ¬ 2 ∣ n) (h3 : ¬ 3 ∣ n) (hd : d % 6 = 5) (h : ∀ e, 2 <= e -> e < d -> ¬ e ∣ n) (ha : ¬ d ∣ n) (hb : ¬ (d + 2) ∣ n) : ∀ e, 2 <= e -> e < d + 6 -> ¬ e ∣ n := fun e h1 h6 he => by
 by_cases hlt : e < d
 · exact h e h1 hlt he
 · have : e = d ∨ e = d + 1 ∨ e = d + 2 ∨ e = d + 3 ∨ e = d + 4 ∨ e = d + 5 := by omega
   rcases this with rfl | rfl | rfl | rfl | rfl | rfl
   · exact ha he
   · exact h2 (Nat.dvd_trans (by omega) he)
   · exact hb he
   · exact h2 (Nat.dvd_trans (by omega) he)
   · exact h3 (Nat.dvd_trans (by omega) he)
   · exact h2 (Nat.dvd_trans (by omega) he)
theorem pr_end {n d : Nat} (hn : 1 < n) (h : ∀ e, 2 <= e -> e < d -> ¬ e ∣ n) (hdn : n < d * d) : IsPr n := by
 refine ⟨hn, fun e he => ?_⟩;obtain ⟨f, rfl⟩ := he;by_cases h1 : e = 1
 · exact .inl h1
 by_cases h2 : f = 1
 · exact .inr (by rw [h2, Nat.mul_one])
 exfalso;have he0 : e ≠ 0 := fun q => by subst q; omega
 have hf0 : f ≠ 0 := fun q => by subst q; omega
 by_cases hed : e < d
 · exact h e (by omega) hed (Nat.dvd_mul_right ..)
 · by_cases hfd : f < d
   · exact h f (by omega) hfd (Nat.dvd_mul_left ..)
   · have := Nat.mul_le_mul (show d <= e by omega) (show d <= f by omega);omega
end Go.Proofs.YtghpbpclamfigaaGreat
namespace Go.Proofs.YtghpbpclamfigaaGreat
open Go.RowKit
def abz (xs : List Int) : List Int := xs.filter fun x => decide (1 < x)
theorem abz_take {xs : List Int} {i : Nat} (h : i < xs.length) : abz (xs.take (i + 1)) = abz (xs.take i) ++ if 1 < gi xs i then [gi xs i] else [] := by
 rw [List.take_succ_eq_append_getElem h, abz, abz, List.filter_append, gi_eq h];congr 1;by_cases e : 1 < xs[i] <;> simp [e]
theorem one_w {L : Nat} (h : 1 <= L := by omega) : wlen (1 : Int).natAbs <= L := Nat.le_trans (Nat.le_of_eq (wlenOne (by omega) (by unfold W; omega))) h
structure A1X where
 i : Nat
 k : Nat
 ao : Option Addr
 cap : Nat
 ps : List P4
structure A1I (xs : List Int) (n : Nat) (z : A1X) : Prop where
 hi : z.i <= n
 hk : (abz (xs.take z.i)).length = z.k
 hp : z.ps.length = z.k
set_option maxRecDepth 100000 in
set_option maxHeartbeats 1000000 in
theorem GAbove_c (la : Option Addr) (ca L : Nat) (xs : List Int) (w : World) (hA : LsAt w L la xs) (hL : L <= 17592186044415) (hn : xs.length <= 100000000) :
 Calls Tryz.prog 20 #[.slice la xs.length ca] w fun e w' => (∃ ao cap, e = .returned (.slice ao (abz xs).length cap) /\ LsN w' ao (abz xs) /\ (abz xs).length <= cap /\ ∀ b o, ao = some ⟨b, o, none⟩ -> w.heap.size <= b) /\ Below w.heap.size w w' := by
 obtain ⟨n, hnn⟩ : ∃ n, xs.length = n := ⟨_, rfl⟩;rw [hnn] at hn;rw [hnn];have HN := Lib.hid hnn;clear hnn;refine funW (S0 := fun _ => False) Tryz.func20 ((Fr.nil _ w).l hA (by simp)) ?_;refine goW ?_;refine rW [] ?_;refine dW ?_;refine eW ?_;refine goW ?_;refine rW [] ?_;refine dW ?_;refine eW ?_;refine addW (e := .lst none 0 0 []) (fun w' _ => ⟨rfl, Nat.le_refl _, .inl ⟨rfl, rfl⟩⟩) ?_ (hS := fun b ⟨o, q⟩ => nomatch q);refine addW (e := .ns [] (abz (xs.take 0))) (fun w' _ => NsAt.nil w') ?_;refine goW ?_;refine rW [] ?_;refine dW ?_;refine dW ?_;refine dW ?_;refine eW ?_;refine goW ?_;refine loopW (X := A1X) (A1I xs n) (fun z => n - z.i) (fun z => [(8, .int .i64 (z.i : Int)), (7, .int .i64 (n : Int)), (6, .slice la n ca), (3, .slice z.ao z.k z.cap)]) (fun z => [.lst z.ao z.k z.cap z.ps, .ns z.ps (abz (xs.take z.i)), .ls L la xs]) ⟨0, 0, none, 0, []⟩ ⟨Nat.zero_le _, rfl, rfl⟩ fun z hz => ?_;obtain ⟨i, k, ao, cap, ps⟩ := z;obtain ⟨hi, hk, hp⟩ := hz
 replace hi : i <= n := hi
 replace hk : (abz (xs.take i)).length = k := hk
 replace hp : ps.length = k := hp
 have hkn : k <= n := by
  rw [<- hk];exact Nat.le_trans (List.length_filter_le ..) (by rw [List.length_take, HN.out]; omega)
 have HK := Lib.hid (And.intro hk hp);clear hk hp;by_cases h : i < n
 · obtain ⟨bx, ox, rfl⟩ := hA.pos (i := i) (by rw [HN.out]; exact h);have h01 : (i : Int) < (n : Int) := by omega
   have HT := Lib.hid (abz_take (xs := xs) (i := i) (by rw [HN.out]; exact h));refine goW ?_;refine rW [] ?_;refine dB true ?_;refine eW ?_;refine goW ?_;refine ctW ?_;refine numW (L := L) (xs := xs) (b := bx) (o := ox) i (by simp) (by rw [HN.out]; exact h) fun p => ?_;refine goW ?_;refine rW [] ?_;refine dW ?_;refine dW ?_;refine aW fun g5 => ?_;refine sG ?_;refine eW ?_;refine goW ?_;refine rW [] ?_;refine dW ?_;refine cN (x := 1) (fun w' H => IOf_c 1 w' (by omega) (by omega)) fun p13 => ?_;refine cV (v := .int .i64 (zcmp (gi xs i) 1)) (fun w' H => ICmp_c _ _ (gi xs i) 1 w' (H.m4.mono hL) (OwnI.int H.m0 one_w)) ?_;by_cases h1 : 1 < gi xs i
   · have ez : zcmp (gi xs i) 1 = 1 := by unfold zcmp; rw [if_neg (by omega), if_neg (by omega)]
     rw [ez];refine dB true ?_;refine eW ?_;refine goW ?_;refine ctW ?_;refine goW ?_;refine rW [] ?_;refine dW ?_;refine dW ?_;refine cN (fun w' H => ILeast_c (av p) _ w' (H.m4.mono hL)) fun q => ?_;refine bW (m := 1) fun g19 => ?_;refine moreW (e := .ns (ps ++ [q]) (abz (xs.take (i + 1)))) (fun w' H => by rw [HT.out, if_pos h1]; exact NsAt.snoc H.m8 H.m1.num) ?_;refine appN (g := g19) (t := 37) (c := 1) (ao := ao) (k := k) (cap := cap) (ps := ps) q (by omega) (by simp) fun z => ?_;refine dW ?_;refine eW ?_;refine goW ?_;refine rW [] ?_;refine dE (incB (a := i) (by omega)) ?_;refine dW ?_;refine eW ?_;refine goW ?_;exact backW (⟨i + 1, k + 1, z.1, z.2, ps ++ [q]⟩ : A1X) ⟨⟨h, by rw [HT.out, if_pos h1, List.length_append, HK.out.1]; rfl, by rw [List.length_append, HK.out.2]; rfl⟩, by show n - (i + 1) < n - i; omega⟩
   · have ez : ¬ 0 < zcmp (gi xs i) 1 := by unfold zcmp; split <;> (try split) <;> omega
     refine dB false ?_;refine eW ?_;refine goW ?_;refine cfW ?_;have e : abz (xs.take (i + 1)) = abz (xs.take i) := by rw [HT.out, if_neg h1, List.append_nil]
     refine goW ?_;refine rW [] ?_;refine dE (incB (a := i) (by omega)) ?_;refine dW ?_;refine eW ?_;refine goW ?_;refine backW (⟨i + 1, k, ao, cap, ps⟩ : A1X) ⟨⟨h, by rw [e]; exact HK.out.1, HK.out.2⟩, by show n - (i + 1) < n - i; omega⟩ (he := by
      intro w h;show Fr _ _ w [.lst ao k cap ps, .ns ps (abz (xs.take (i + 1))), .ls L (some ⟨bx, ox, none⟩) xs];rw [e];first | exact h | exact h.pick (by repeat (first | exact Pk.n | refine Pk.c (by repeat (first | exact Rm.z | apply Rm.s)) ?_)))
 · obtain rfl : i = n := by omega
   have e : xs.take i = xs := List.take_of_length_le (by rw [HN.out]; exact Nat.le_refl _);refine goW ?_;refine rW [] ?_;refine dB false ?_;refine eW ?_;refine goW ?_;refine cfW ?_;refine goW ?_;refine rW [] ?_;refine dW ?_;refine dW ?_;refine eW ?_;refine goW ?_;refine fin1 fun w' H => ?_;have hl := HK.out.1;rw [e] at hl;rw [e] at H;subst hl;exact ⟨_, rvT, ⟨ao, cap, rfl, lst_lsN H.m0 H.m1, (show LstF ao _ cap ps w' from H.m0).2.1, fun b o e => (H.own (.lst ao (abz xs).length cap ps) (by simp) rfl b ⟨o, e⟩).elim (fun h => h.elim) id⟩, H.below⟩
def gcz (x : Int) (ys : List Int) : List Int := ys.map fun y => (Int.gcd x y : Int)
def crz (xs ys : List Int) : List Int := (xs.map fun x => gcz x ys).flatten
def crI (xs ys : List Int) (i j : Nat) : List Int := crz (xs.take i) ys ++ gcz (gi xs i) (ys.take j)
theorem gcz_succ {x : Int} {ys : List Int} {j : Nat} (h : j < ys.length) : gcz x (ys.take (j + 1)) = gcz x (ys.take j) ++ [(Int.gcd x (gi ys j) : Int)] := by
 rw [List.take_succ_eq_append_getElem h, gcz, gcz, List.map_append, gi_eq h]; rfl
theorem crI_succ {xs ys : List Int} {i j : Nat} (h : j < ys.length) : crI xs ys i (j + 1) = crI xs ys i j ++ [(Int.gcd (gi xs i) (gi ys j) : Int)] := by
 rw [crI, crI, gcz_succ h, List.append_assoc]
theorem crz_succ {xs ys : List Int} {i : Nat} (h : i < xs.length) : crz (xs.take (i + 1)) ys = crI xs ys i ys.length := by
 rw [crI, List.take_length, List.take_succ_eq_append_getElem h, crz, crz, List.map_append, List.flatten_append, gi_eq h]; simp
theorem crI_zero (xs ys : List Int) (i : Nat) : crI xs ys i 0 = crz (xs.take i) ys := by simp [crI, gcz]
theorem crz_length (xs ys : List Int) : (crz xs ys).length = xs.length * ys.length := by
 induction xs with
 | nil => simp [crz]
 | cons x xs ih =>
  have : (crz (x :: xs) ys).length = (gcz x ys).length + (crz xs ys).length := by simp [crz]
  rw [this, ih, List.length_cons, Nat.succ_mul, gcz, List.length_map, Nat.add_comm]
structure R1X where
 i : Nat
 K : Nat
 ao : Option Addr
 cap : Nat
 ps : List P4
structure R1I (n m : Nat) (z : R1X) : Prop where
 hi : z.i <= n
 hK : z.i * m = z.K
structure R2X where
 j : Nat
 K : Nat
 ao : Option Addr
 cap : Nat
 ps : List P4
structure R2I (m i : Nat) (z : R2X) : Prop where
 hj : z.j <= m
 hK : i * m + z.j = z.K
set_option maxRecDepth 100000 in
set_option maxHeartbeats 1000000 in
theorem GCrossed_c (la lb : Option Addr) (ca cb L : Nat) (xs ys : List Int) (w : World) (hA : LsAt w L la xs) (hB : LsAt w L lb ys) (hL : L <= 17592186044415) (hn : xs.length <= 64) (hm : ys.length <= 64) :
 Calls Tryz.prog 19 #[.slice la xs.length ca, .slice lb ys.length cb] w fun e w' => (∃ p : Option Addr × Nat × List P4, e = .returned (.slice p.1 (xs.length * ys.length) p.2.1) /\ LstF p.1 (xs.length * ys.length) p.2.1 p.2.2 w' /\ NsAt w' p.2.2 (crz xs ys) /\ ∀ b o, p.1 = some ⟨b, o, none⟩ -> w.heap.size <= b) /\ Below w.heap.size w w' := by
 obtain ⟨n, hnn⟩ : ∃ n, xs.length = n := ⟨_, rfl⟩;obtain ⟨m, hmm⟩ : ∃ m, ys.length = m := ⟨_, rfl⟩;rw [hnn] at hn;rw [hmm] at hm;rw [hnn, hmm];have HN := Lib.hid hnn;have HM := Lib.hid hmm;clear hnn hmm;refine funW (S0 := fun _ => False) Tryz.func19 (((Fr.nil _ w).l hB (by simp)).l hA (by simp [En.wr])) ?_;refine goW ?_;refine rW [] ?_;refine dW ?_;refine eW ?_;refine goW ?_;refine rW [] ?_;refine dW ?_;refine eW ?_;refine addW (e := .lst none 0 0 []) (fun w' _ => ⟨rfl, Nat.le_refl _, .inl ⟨rfl, rfl⟩⟩) ?_ (hS := fun b ⟨o, q⟩ => nomatch q);refine addW (e := .ns [] (crI xs ys 0 0)) (fun w' _ => NsAt.nil w') ?_;refine goW ?_;refine rW [] ?_;refine dW ?_;refine dW ?_;refine dW ?_;refine eW ?_;refine goW ?_;refine loopW (X := R1X) (R1I n m) (fun z => n - z.i) (fun z => [(12, .int .i64 (z.i : Int)), (11, .int .i64 (n : Int)), (10, .slice la n ca), (1, .slice lb m cb), (5, .slice z.ao z.K z.cap)]) (fun z => [.lst z.ao z.K z.cap z.ps, .ns z.ps (crI xs ys z.i 0), .ls L la xs, .ls L lb ys]) ⟨0, 0, none, 0, []⟩ ⟨Nat.zero_le _, Nat.zero_mul _⟩ fun z hz => ?_;obtain ⟨i, K, ao, cap, ps⟩ := z;obtain ⟨hi, hK⟩ := hz
 replace hi : i <= n := hi
 replace hK : i * m = K := hK
 by_cases h : i < n
 · obtain ⟨bx, ox, rfl⟩ := hA.pos (i := i) (by rw [HN.out]; exact h);have h01 : (i : Int) < (n : Int) := by omega
   have HK : Hid (i * m + 0 = K) := Lib.hid hK;have HE : Hid (crI xs ys i m = crI xs ys (i + 1) 0) := Lib.hid (by rw [crI_zero, crz_succ (by rw [HN.out]; exact h), HM.out]);clear hK;refine goW ?_;refine rW [] ?_;refine dB true ?_;refine eW ?_;refine goW ?_;refine ctW ?_;refine numW (L := L) (xs := xs) (b := bx) (o := ox) i (by simp) (by rw [HN.out]; exact h) fun p => ?_;refine goW ?_;refine rW [] ?_;refine dW ?_;refine dW ?_;refine aW fun g7 => ?_;refine sG ?_;refine eW ?_;refine goW ?_;refine rW [] ?_;refine dW ?_;refine dW ?_;refine dW ?_;refine eW ?_;refine goW ?_;refine loopW (X := R2X) (R2I m i) (fun z => m - z.j) (fun z => [(18, .int .i64 (z.j : Int)), (17, .int .i64 (m : Int)), (16, .slice lb m cb), (7, .pointer (some ⟨g7, 0, none⟩)), (12, .int .i64 (i : Int)), (11, .int .i64 (n : Int)), (10, .slice (some ⟨bx, ox, none⟩) n ca), (1, .slice lb m cb), (5, .slice z.ao z.K z.cap)])
    (fun z => [.row g7 37 [.bool p.1, .slice p.2.1 p.2.2.1 p.2.2.2], .lst z.ao z.K z.cap z.ps, .ns z.ps (crI xs ys i z.j), .at L (av p) (gi xs i), .ls L (some ⟨bx, ox, none⟩) xs, .ls L lb ys]) ⟨0, K, ao, cap, ps⟩ ⟨Nat.zero_le _, HK.out⟩ fun z hz => ?_
   clear HK;obtain ⟨j, K, ao, cap, ps⟩ := z;obtain ⟨hj, hK⟩ := hz
   replace hj : j <= m := hj
   replace hK : i * m + j = K := hK
   by_cases h' : j < m
   · obtain ⟨by_, oy, rfl⟩ := hB.pos (i := j) (by rw [HM.out]; exact h');have h02 : (j : Int) < (m : Int) := by omega
     have hKN : K <= 100000000 := by
      have := Nat.mul_le_mul (Nat.le_of_lt (Nat.lt_of_lt_of_le h hn)) hm;omega
     have HT := Lib.hid (And.intro (crI_succ (xs := xs) (ys := ys) (i := i) (j := j) (by rw [HM.out]; exact h')) hK);clear hK;refine goW ?_;refine rW [] ?_;refine dB true ?_;refine eW ?_;refine goW ?_;refine ctW ?_;refine numW (L := L) (xs := ys) (b := by_) (o := oy) j (by simp) (by rw [HM.out]; exact h') fun q => ?_;refine goW ?_;refine rW [] ?_;refine dW ?_;refine dW ?_;refine aW fun g9 => ?_;refine sG ?_;refine eW ?_;refine goW ?_;refine rW [] ?_;refine dW ?_;refine dW ?_;refine dW ?_;refine cN (fun w' H => BGcd_c (av p) (av q) (gi xs i) (gi ys j) w' (H.m7.mono hL) (H.m3.mono hL)) fun r => ?_;refine bW (m := 1) fun g26 => ?_;refine moreW (e := .ns (ps ++ [r]) (crI xs ys i (j + 1))) (fun w' H => by rw [HT.out.1]; exact NsAt.snoc H.m8 H.m1.num) ?_;refine appN (g := g26) (t := 37) (c := 1) (ao := ao) (k := K) (cap := cap) (ps := ps) r hKN (by simp) fun z => ?_;refine dW ?_;refine eW ?_;refine goW ?_;refine rW [] ?_;refine dE (incB (a := j) (by omega)) ?_;refine dW ?_;refine eW ?_;refine goW ?_;exact backW (⟨j + 1, K + 1, z.1, z.2, ps ++ [r]⟩ : R2X) ⟨⟨h', by show i * m + (j + 1) = K + 1; have := HT.out.2; omega⟩, by show m - (j + 1) < m - j; omega⟩
   · obtain rfl : j = m := by omega
     have HK : Hid ((i + 1) * j = K) := Lib.hid (by rw [Nat.succ_mul]; exact hK);clear hK;refine goW ?_;refine rW [] ?_;refine dB false ?_;refine eW ?_;refine goW ?_;refine cfW ?_;refine goW ?_;refine rW [] ?_;refine dE (incB (a := i) (by omega)) ?_;refine dW ?_;refine eW ?_;refine goW ?_;exact backW (⟨i + 1, K, ao, cap, ps⟩ : R1X) ⟨⟨h, HK.out⟩, by show n - (i + 1) < n - i; omega⟩ (he := by
      intro w h;show Fr _ _ w [.lst ao K cap ps, .ns ps (crI xs ys (i + 1) 0), .ls L (some ⟨bx, ox, none⟩) xs, .ls L lb ys];rw [<- HE.out];first | exact h | exact h.pick (by repeat (first | exact Pk.n | refine Pk.c (by repeat (first | exact Rm.z | apply Rm.s)) ?_)))
 · obtain rfl : i = n := by omega
   have e : crI xs ys i 0 = crz xs ys := by rw [crI_zero, List.take_of_length_le (by rw [HN.out]; exact Nat.le_refl _)]
   subst hK;refine goW ?_;refine rW [] ?_;refine dB false ?_;refine eW ?_;refine goW ?_;refine cfW ?_;refine goW ?_;refine rW [] ?_;refine dW ?_;refine dW ?_;refine eW ?_;refine goW ?_;refine fin1 fun w' H => ?_;rw [e] at H;exact ⟨_, rvT, ⟨(ao, cap, ps), rfl, H.m0, H.m1, fun b o e => (H.own (.lst ao (i * m) cap ps) (by simp) rfl b ⟨o, e⟩).elim (fun h => h.elim) id⟩, H.below⟩
section
variable {P : Program} {ops : Array Oper} {Q : Exit -> Act -> World -> Prop} {S0 : Nat -> Prop} {w0 : World} {E0 : List En} {hd : List (List Nat)} {n j s sg g : Nat} {l : List Nat} {G E : List En} {ls : List (Nat × Value)} {op : Op} {ty : TypeId} {pos : String} {af : Array Edge} {f : FuncId} {args : Array Value} {v : Value} {want : Bool}
theorem cGg {α : Type} {mk : α -> Value} {ens : α -> List En} (c : ∀ w, Fr S0 w0 w (G ++ E) -> Calls P f args w fun e w' => ∃ p, e = .returned (mk p) /\ Nw w w' (ens p))
 (k : ∀ p, RWs ⟨P, ops, Q, S0, w0, E0, hd⟩ n l (ens p ++ G) E ((s, mk p) :: ls))
 (ho : ops[j]? = some ⟨some s, op, ty, pos, af, some (g, want)⟩ := by rfl) (hk : (!isDet op && !isNew op && chkO ls op && Nat.blt s n) = true := by kernel_rfl)
 (hg : (ops[g]?).bind (·.dst) = some sg := by rfl) (hi : inLs ls (.tmp sg) = true := by kernel_rfl) (hb : evl ls (.tmp sg) = .bool want := by (simp only [evlN, Nat.reduceEqDiff, ↓reduceIte]) <;> first | rfl | simp [*])
 (hr : ∀ w, (execOp (evl ls) ⟨some s, op, ty, pos, af, some (g, want)⟩).run P w = .ok (.enter f args) w := by intro w; (try simp only [av]); go_simp <;> with_reducible rfl) (hne : Nonempty α := by infer_instance)
 (hst : okSt ops hd j [] = true := by kernel_rfl) : RWs ⟨P, ops, Q, S0, w0, E0, hd⟩ n (j :: l) G E ls := fun a ha => by
 simp only [Bool.and_eq_true, Bool.not_eq_true'] at hk;refine ⟨_, ho, .inr (.inr ⟨hk.1.1.1, hk.1.1.2, α, mk, fun p => ens p ++ G, fun _ => E, [], hne, fun X w hX hw => ?_, hst, fun _ _ _ => rfl, fun p => k p _ (ha.put (Nat.le_of_ble_eq_true hk.2) _)⟩)⟩;rw [if_pos (by rw [wanted_of ha hg hi hb]; simp)];show wpR P _ ((execOp a.eval _).run P w);rw [ha.exec hk.1.2, hr w];refine (c w (hw.sub (List.sublist_append_right ..))).mono ?_;rintro e w' ⟨p, rfl, hn⟩;refine ⟨_, rfl, p, rfl, (hn.fr hw).perm ?_⟩;rw [List.append_assoc];exact (List.perm_append_comm_assoc (ens p) X (G ++ E))
theorem cVg (c : ∀ w, Fr S0 w0 w (G ++ E) -> Calls P f args w fun e w' => e = .returned v /\ Below w.heap.size w w')
 (k : RWs ⟨P, ops, Q, S0, w0, E0, hd⟩ n l G E ((s, v) :: ls))
 (ho : ops[j]? = some ⟨some s, op, ty, pos, af, some (g, want)⟩ := by rfl) (hk : (!isDet op && !isNew op && chkO ls op && Nat.blt s n) = true := by kernel_rfl)
 (hg : (ops[g]?).bind (·.dst) = some sg := by rfl) (hi : inLs ls (.tmp sg) = true := by kernel_rfl) (hb : evl ls (.tmp sg) = .bool want := by (simp only [evlN, Nat.reduceEqDiff, ↓reduceIte]) <;> first | rfl | simp [*])
 (hr : ∀ w, (execOp (evl ls) ⟨some s, op, ty, pos, af, some (g, want)⟩).run P w = .ok (.enter f args) w := by intro w; (try simp only [av]); go_simp <;> with_reducible rfl)
 (hst : okSt ops hd j [] = true := by kernel_rfl) : RWs ⟨P, ops, Q, S0, w0, E0, hd⟩ n (j :: l) G E ls := by
 refine cGg (α := Unit) (mk := fun _ => v) (ens := fun _ => []) (fun w hw => (c w hw).mono ?_) (fun _ => k) ho hk hg hi hb hr ⟨()⟩ hst;rintro e w' ⟨rfl, hb⟩;exact ⟨(), rfl, hb, fun e he => (List.not_mem_nil he).elim, .nil⟩
theorem uC (k : RWs ⟨P, ops, Q, S0, w0, E0, hd⟩ n l G E ((s, undef) :: ls))
 (ho : ops[j]? = some ⟨some s, op, ty, pos, af, some (g, want)⟩ := by rfl) (hk : (!isDet op && !isNew op && Nat.blt s n) = true := by kernel_rfl)
 (hg : (ops[g]?).bind (·.dst) = some sg := by rfl) (hi : inLs ls (.tmp sg) = true := by kernel_rfl) (hb : evl ls (.tmp sg) = .bool (!want) := by (simp only [evlN, Nat.reduceEqDiff, ↓reduceIte]) <;> first | rfl | simp [*])
 (hst : okSt ops hd j [] = true := by kernel_rfl) : RWs ⟨P, ops, Q, S0, w0, E0, hd⟩ n (j :: l) G E ls := fun a ha => by
 simp only [Bool.and_eq_true, Bool.not_eq_true'] at hk;refine ⟨_, ho, .inr (.inr ⟨hk.1.1, hk.1.2, Unit, fun _ => undef, fun _ => G, fun _ => E, [], ⟨()⟩, fun X w hX hw => ?_, hst, fun _ _ _ => rfl, fun _ => k _ (ha.put (Nat.le_of_ble_eq_true hk.2) _)⟩)⟩;rw [if_neg (by rw [wanted_of ha hg hi hb]; simp)];exact ⟨(), rfl, hw⟩
theorem bWg {t : TypeId} {cs : List Value} {m : Nat} (k : ∀ g, RWs ⟨P, ops, Q, S0, w0, E0, hd⟩ n l (.row g t cs :: G) E ((s, .slice (some ⟨g, 0, none⟩) m m) :: ls))
 (ho : ops[j]? = some ⟨some s, op, ty, pos, af, some (g, want)⟩ := by rfl) (hk : (!isDet op && isNew op && chkO ls op && Nat.blt s n) = true := by kernel_rfl)
 (hg : (ops[g]?).bind (·.dst) = some sg := by rfl) (hi : inLs ls (.tmp sg) = true := by kernel_rfl) (hb : evl ls (.tmp sg) = .bool want := by (simp only [evlN, Nat.reduceEqDiff, ↓reduceIte]) <;> first | rfl | simp [*])
 (hr : ∀ w, (execOp (evl ls) ⟨some s, op, ty, pos, af, some (g, want)⟩).run P w = .ok (.value (.slice (some ⟨w.heap.size, 0, none⟩) m m)) (w.alloc (.cells cs.toArray t (0, 0))) := by intro w; (try simp only [av]); go_simp <;> with_reducible rfl) : RWs ⟨P, ops, Q, S0, w0, E0, hd⟩ n (j :: l) G E ls := fun a ha => by
 simp only [Bool.and_eq_true, Bool.not_eq_true'] at hk;refine ⟨_, ho, .inr (.inl ⟨hk.1.1.1, hk.1.1.2, fun g => .slice (some ⟨g, 0, none⟩) m m, t, cs, ⟨?_, fun w => ?_⟩, fun g => k g _ (ha.put (Nat.le_of_ble_eq_true hk.2) _)⟩)⟩
 · show Region.wanted _ (yielded ops a.tmps) = true;rw [wanted_of ha hg hi hb]; simp
 · rw [ha.exec hk.1.2];exact hr w
end
theorem cNo' {P : Program} {f : FuncId} {args : Array Value} {w : World} {B : Nat} {x : Int} (h : Calls P f args w fun e w' => (∃ v, e = .returned v /\ OwnI w' w.heap.size v x) /\ Below w.heap.size w w') (hB : B <= w.heap.size) : Calls P f args w fun e w' => ∃ p : P4, e = .returned (av p) /\ Nw w w' [.own B (av p) x] := h.mono fun e w' ⟨⟨v, he, hv⟩, hb⟩ => by
 subst he;obtain ⟨b, ao, l', k', rfl⟩ := OwnI.parts hv;exact ⟨(b, ao, l', k'), rfl, hb, fun e he => by
  rcases List.mem_singleton.1 he with rfl;exact ⟨OwnI.mono hv hB, fun _ h => h.elim⟩, List.pairwise_singleton ..⟩
section
variable {ops : Array Oper} {Q : Exit -> Act -> World -> Prop} {S0 : Nat -> Prop} {w0 : World} {E0 : List En} {hd : List (List Nat)} {n j s : Nat} {l : List Nat} {G E : List En} {ls : List (Nat × Value)} {ty : TypeId} {pos : String} {af : Array Edge}
end
set_option maxRecDepth 100000 in
set_option maxHeartbeats 2000000 in
theorem RSame_c (aoA aoB : Option Addr) (lA cA lB cB : Nat) (xs ys : List Nat) (w : World) (hA : WAt w aoA xs) (hB : WAt w aoB ys) (hlA : lA = xs.length) (hlB : lB = ys.length) (hmA : lA <= 17592186044415) (hmB : lB <= 17592186044415) :
 Calls Tryz.prog 35 #[.slice aoA lA cA, .slice aoB lB cB] w fun e w' => e = .returned (.bool (decide (xs = ys))) /\ Below w.heap.size w w' := by
 subst hlA hlB;have HA := Lib.hid hA; clear hA;have HB := Lib.hid hB; clear hB;go_enter Tryz.func35, Tryz.ntmps35;by_cases hs : xs.length = ys.length
 · have hb : (((xs.length : Nat) : Int) != ((ys.length : Nat) : Int)) = false := by rw [hs]; simp
   have Hs := Lib.hid hs; clear hs;go_wp2;go_loopw [5] (fun i wr => ∃ k : Nat, k <= xs.length /\ i = .int .i64 (k : Int) /\ Hid (∀ j, j < k -> gw xs j = gw ys j) /\ Below w.heap.size w wr) (fun i _ => xs.length - (intOf i).toNat)
   case atStart => exact ⟨0, Nat.zero_le _, rfl, Lib.hid (fun j hj => by omega), Below.refl _ _⟩
   case round =>
    obtain ⟨k, hk, rfl, hag, hbl⟩ := hrel;by_cases h0 : k < xs.length
    · have h01 : (k : Int) < (xs.length : Int) := by omega
      have h02 : (k : Int) < (ys.length : Int) := by have := Hs.out; omega
      obtain ⟨b1, o1, rfl, hb1, hc1⟩ := (HA.out.below hbl).pos (by omega);obtain ⟨b2, o2, rfl, hb2, hc2⟩ := (HB.out.below hbl).pos (by omega);have e1 := hc1 k h0;have e2 := hc2 k (by omega);clear hc1 hc2;by_cases hne : gw xs k = gw ys k
      · have t1 : (((gw xs k : Nat) : Int) != ((gw ys k : Nat) : Int)) = false := by rw [hne]; simp
        have HN := Lib.hid hne; clear hne;go_wp2
        go_quiet (fail)
        go_wp2;go_roundw
        case rel => exact ⟨k + 1, by omega, by go_num, Lib.hid (fun j hj => by
         by_cases e : j = k
         · subst e; exact HN.out
         · exact hag.out j (by omega)), below_drewN hbl _⟩
        case measure => simp [intOf]; omega
      · have t1 : (((gw xs k : Nat) : Int) != ((gw ys k : Nat) : Int)) = true := by rw [bne_iff_ne]; omega
        have hd : decide (xs = ys) = false := by
         rw [decide_eq_false_iff_not]; intro e; exact hne (by rw [e])
        have HD := Lib.hid hd; clear hd hne;go_wp2
        go_quiet (fail)
        go_wp2;go_ret;exact ⟨by rw [HD.out]; rfl, below_drewN hbl _⟩
    · obtain rfl : k = xs.length := by omega
      have hd : decide (xs = ys) = true := by
       rw [decide_eq_true_iff];refine List.ext_getElem Hs.out fun j h1 h2 => ?_;have := hag.out j h1;unfold gw at this;simpa [h1, h2] using this
      have HD := Lib.hid hd; clear hd;go_wp2;go_ret;exact ⟨by rw [HD.out]; rfl, hbl⟩
 · have hb : (((xs.length : Nat) : Int) != ((ys.length : Nat) : Int)) = true := by rw [bne_iff_ne]; omega
   have hd : decide (xs = ys) = false := by
    rw [decide_eq_false_iff_not]; intro e; exact hs (by rw [e])
   have HD := Lib.hid hd; clear hd hs;go_wp2;go_ret;exact ⟨by rw [HD.out]; rfl, Below.refl _ _⟩
theorem alike_bool (x y : Int) : (decide (dig x.natAbs = dig y.natAbs) && (decide (x < 0) == decide (y < 0))) = decide (x = y) := by
 have h1 : dig x.natAbs = dig y.natAbs ↔ x.natAbs = y.natAbs := ⟨fun h => by rw [<- nval_dig x.natAbs, h, nval_dig], fun h => by rw [h]⟩;rw [Bool.eq_iff_iff];simp only [Bool.and_eq_true, decide_eq_true_eq, beq_iff_eq, h1, decide_eq_decide];omega
theorem lsAt_of {w : World} {L b : Nat} {ps : List P4} {tl : List Value} {xs : List Int} (hr : RowAt w b 37 (rn ps tl)) (hl : ps.length = xs.length) (h : ∀ i, i < xs.length -> IntAt w L (av (gp ps i)) (gi xs i)) : LsAt w L (some ⟨b, 0, none⟩) xs := fun _ =>
 ⟨b, 0, rfl, hr.lt, fun i hi => ⟨gp ps i, by rw [Nat.zero_add]; exact (hr.cell _).trans (rn0 tl (by omega)), by rw [Nat.zero_add]; exact (hr.cell _).trans (rn1 tl (by omega)), by have := h i hi; rwa [gi_eq hi] at this⟩⟩
theorem Fr.ln {S0 : Nat -> Prop} {w0 w : World} {es : List En} (h : Fr S0 w0 w es) {ao : Option Addr} {xs : List Int} (hx : LsN w ao xs) (hS : ∀ e ∈ es, e.wr = false) : Fr S0 w0 w (.lsn ao xs :: es) :=
 h.cons hx (fun e he => ⟨(fun q => nomatch q), fun q => by rw [hS e he] at q; cases q⟩) (fun q => nomatch q)
theorem LsN.pos {w : World} {ao : Option Addr} {xs : List Int} (h : LsN w ao xs) {i : Nat} (hi : i < xs.length) : ∃ b o, ao = some ⟨b, o, none⟩ := by
 obtain ⟨b, o, e, _⟩ := h (by omega);exact ⟨b, o, e⟩
section
variable {P : Program} {Q : Exit -> Act -> World -> Prop} {S0 : Nat -> Prop} {w0 : World} {n : Nat} {ls : List (Nat × Value)} {es : List En} {c : Code}
theorem numNW {xs : List Int} {b o : Nat} (i : Nat) (hm : En.lsn (some ⟨b, o, none⟩) xs ∈ es) (hi : i < xs.length) (k : ∀ p : P4, CW P n S0 w0 c Q ls (.cell ⟨b, o + i * 2, none⟩ (.bool p.1) :: .cell ⟨b, o + i * 2 + 1, none⟩ (.slice p.2.1 p.2.2.1 p.2.2.2) :: .num (av p) (gi xs i) :: es)) : CW P n S0 w0 c Q ls es := fun a w ha hw => by
 have hA : LsN w (some ⟨b, o, none⟩) xs := hw.all _ hm;obtain ⟨b', o', e, hb, hc⟩ := hA (by omega);cases e;obtain ⟨p, h0, h1, hx⟩ := hc i hi;rw [<- gi_eq hi] at hx;have hS : (En.lsn (some ⟨b, o, none⟩) xs).S b := ⟨by omega, o, rfl⟩;exact k p a w ha (((hw.pure (e := .num (av p) (gi xs i)) hx (fun _ h => h)).cellOf (List.mem_cons_of_mem _ hm) rfl hS h1).cellOf (List.mem_cons_of_mem _ (List.mem_cons_of_mem _ hm)) rfl hS h0)
end
theorem idxL {r c i j : Nat} (hi : i < r) (hj : j < c) : i * c + j < r * c := by
 have h1 : (i + 1) * c <= r * c := Nat.mul_le_mul_right _ hi;have h2 : (i + 1) * c = i * c + c := Nat.succ_mul i c;omega
section
variable {P : Program} {ops : Array Oper} {Q : Exit -> Act -> World -> Prop} {S0 : Nat -> Prop} {w0 : World} {E0 : List En} {n j s sg g : Nat} {l : List Nat} {G E : List En} {ls : List (Nat × Value)} {op : Op} {ty : TypeId} {pos : String} {af : Array Edge} {v v' : Value} {want : Bool}
theorem dGE (hv : v' = v) (k : RWs ⟨P, ops, Q, S0, w0, E0, []⟩ n l G E ((s, v) :: ls))
 (ho : ops[j]? = some ⟨some s, op, ty, pos, af, some (g, want)⟩ := by rfl) (hk : (isDet op && chkO ls op && Nat.blt s n) = true := by kernel_rfl)
 (hg : (ops[g]?).bind (·.dst) = some sg := by rfl) (hi : inLs ls (.tmp sg) = true := by kernel_rfl) (hb : evl ls (.tmp sg) = .bool want := by (simp only [evlN, Nat.reduceEqDiff, ↓reduceIte]) <;> first | rfl | simp [*])
 (hr : ∀ w, (isLd op = true -> Fr S0 w0 w E0) -> (execOp (evl ls) ⟨some s, op, ty, pos, af, some (g, want)⟩).run P w = .ok (.value v') w := by intro w H; (first | (have c := (H rfl).c; try simp only [celN, cl, List.cons_append, List.nil_append] at c) | skip); clear H; go_simp <;> with_reducible rfl) : RWs ⟨P, ops, Q, S0, w0, E0, []⟩ n (j :: l) G E ls :=
 dG k ho hk hg hi hb (by rw [<- hv]; exact hr)
end
theorem Fr.cl {S0 : Nat -> Prop} {w0 w : World} {es : List En} (h : Fr S0 w0 w es) {a : Addr} {v : Value} (hc : w.cell? a = some v) (hS : ∀ e ∈ es, e.wr = false) : Fr S0 w0 w (.cell a v :: es) :=
 h.cons (e := .cell a v) hc (fun e he => ⟨(fun q => nomatch q), fun q => by rw [hS e he] at q; cases q⟩) (fun q => nomatch q)
def diagL (c k : Nat) (xs : List Int) : List Int := (List.range k).map fun i => gi xs (i * c + i)
theorem diagL_length (c k : Nat) (xs : List Int) : (diagL c k xs).length = k := by simp [diagL]
theorem gi_diagL {c k : Nat} {xs : List Int} {i : Nat} (h : i < k) : gi (diagL c k xs) i = gi xs (i * c + i) := by
 rw [gi_eq (by rw [diagL_length]; exact h)]; simp [diagL]
structure L1X where
 i : Nat
 ps : List P4
 zs : List Int
structure L1I (xs : List Int) (c k : Nat) (z : L1X) : Prop where
 hi : z.i <= k
 hp : z.ps.length = k
 hz : z.zs.length = k
 ok : ∀ q, q < z.i -> gi z.zs q = gi xs (q * c + q)
set_option maxRecDepth 100000 in
set_option maxHeartbeats 2000000 in
theorem SList_c (r c : Nat) (ao : Option Addr) (cap L : Nat) (xs : List Int) (w : World) (hr : r <= 64) (hc : c <= 64) (hA : LsAt w L ao xs) (hL : L <= 17592186044415) (hs : xs.length = r * c) :
 Calls Tryz.prog 39 #[.agg #[.int .i64 (r : Int), .int .i64 (c : Int), .slice ao xs.length cap]] w fun e w' => (∃ b, e = .returned (.slice (some ⟨b, 0, none⟩) (min r c) (min r c)) /\ w.heap.size <= b /\ RowN w' b (diagL c (min r c) xs)) /\ Below w.heap.size w w' := by
 have hkr : min r c <= r := Nat.min_le_left ..;have hkc : min r c <= c := Nat.min_le_right ..;have HS0 : Hid (xs.length = r * c) := Lib.hid hs;clear hs;refine funW (S0 := fun _ => False) Tryz.func39 ((Fr.nil _ w).l hA (by simp)) ?_;refine goW ?_;refine rW [] ?_;refine aW fun g1 => ?_;refine dW ?_;refine eW ?_;refine goW ?_;refine rW [] ?_;refine dW ?_;refine dW ?_;refine dW ?_;refine dW ?_;refine dE (minI r c) ?_;obtain ⟨k, hk⟩ : ∃ k, min r c = k := ⟨_, rfl⟩;rw [hk] at hkr hkc ⊢;refine mN k k rfl rfl (Nat.le_refl _) (by omega) fun b => ?_;refine dW ?_;refine eW ?_;refine addW (e := .ns (List.replicate k p0) (List.replicate k 0)) (fun w' _ => NsAt.zeros w' k) ?_;refine goW ?_;refine rW [] ?_;refine dW ?_;refine dW ?_;refine dW ?_;refine eW ?_;refine goW ?_;refine loopW (X := L1X) (L1I xs c k) (fun z => k - z.i) (fun z => [(13, .int .i64 (z.i : Int)), (12, .int .i64 (k : Int)), (1, .pointer (some ⟨g1, 0, none⟩)), (3, .slice (some ⟨b, 0, none⟩) k k)]) (fun z => [.row b 37 (rn z.ps []), .row g1 43 [.int .i64 (r : Int), .int .i64 (c : Int), .slice ao xs.length cap], .ns z.ps z.zs, .ls L ao xs]) ⟨0, List.replicate k p0, List.replicate k 0⟩ ⟨Nat.zero_le _, by simp, by simp, fun q h => absurd h (Nat.not_lt_zero q)⟩ fun z hz => ?_;obtain ⟨i, ps, zs⟩ := z;obtain ⟨hi, hp, hz, hok⟩ := hz
 replace hi : i <= k := hi
 replace hp : ps.length = k := hp
 replace hz : zs.length = k := hz
 replace hok : ∀ q, q < i -> gi zs q = gi xs (q * c + q) := hok
 have HZ : Hid (ps.length = k /\ zs.length = k /\ ∀ q, q < i -> gi zs q = gi xs (q * c + q)) := Lib.hid ⟨hp, hz, hok⟩;have HS : Hid (xs.length = r * c /\ min r c = k) := Lib.hid ⟨HS0.out, hk⟩;clear hp hz hok hk;by_cases h : i < k
 · have h01 : (i : Int) < (k : Int) := by omega
   have hlt := idxL (r := r) (c := c) (i := i) (j := i) (by omega) (by omega);have hrc : r * c <= 4096 := Nat.mul_le_mul hr hc;obtain ⟨bx, ox, rfl⟩ := hA.pos (i := i * c + i) (by rw [HS.out.1]; exact hlt);obtain ⟨A, hA'⟩ : ∃ A, i * c = A := ⟨_, rfl⟩;obtain ⟨B, hB⟩ : ∃ B, A + i = B := ⟨_, rfl⟩;have hBl : B < xs.length := by rw [HS.out.1, <- hB, <- hA']; exact hlt
   have hBl' : (B : Int) < (xs.length : Int) := by omega
   have hAs : i * c < 9223372036854775808 := by omega
   have hgl : A + i < 9223372036854775807 := by omega
   have HAB : Hid (i * c + i = B) := Lib.hid (by rw [hA', hB]);refine goW ?_;refine rW [] ?_;refine dB true ?_;refine eW ?_;refine goW ?_;refine ctW ?_;refine numW (L := L) (xs := xs) (b := bx) (o := ox) B (by simp) hBl fun p => ?_;clear hBl hlt hrc;refine goW ?_;refine rW [] ?_;refine dW ?_;refine dW ?_;refine eW ?_;refine goW ?_;refine rW [] ?_;refine dW ?_;refine dW ?_;refine dW ?_;refine dW ?_;refine dW ?_;refine dW ?_;refine dW ?_;refine dE ((mulI (a := i) (b := c) hAs).trans (by rw [hA'])) ?_;refine dW ?_;refine dE ((sumI (a := A) (b := i) hgl).trans (by rw [hB])) ?_;clear hA' hB hAs;refine dW ?_;refine dW ?_;refine cN (fun w' H => ILeast_c (av p) _ w' (H.m2.mono hL)) fun q => ?_;refine dW ?_;refine moreW (e := .ns (ps.set i q) (zs.set i (gi xs B))) (fun w' H => NsAt.set H.m6 i H.m0.num) ?_;refine sN (ps := ps) i q (by rw [HZ.out.1]; exact h) NoW.nil rfl ?_;refine eW ?_;refine goW ?_;refine rW [] ?_;refine dE (incB (a := i) (by omega)) ?_;refine dW ?_;refine eW ?_;refine goW ?_;refine backW (⟨i + 1, ps.set i q, zs.set i (gi xs B)⟩ : L1X) ⟨⟨h, by simpa using HZ.out.1, by simpa using HZ.out.2.1, fun q hq => ?_⟩, by show k - (i + 1) < k - i; omega⟩;show gi (zs.set i (gi xs B)) q = _;rw [gi_set (by rw [HZ.out.2.1]; exact h)];by_cases e : q = i
   · subst e; rw [if_pos rfl, HAB.out]
   · rw [if_neg e]; exact HZ.out.2.2 q (by have : q < i + 1 := hq; omega)
 · obtain rfl : i = k := by omega
   have hzs : zs = diagL c i xs := by
    refine List.ext_getElem (by rw [HZ.out.2.1, diagL_length]) fun q h1 h2 => ?_;have hq : q < i := by rw [HZ.out.2.1] at h1; exact h1
    have := HZ.out.2.2 q hq;rw [<- gi_diagL hq, gi_eq h1, gi_eq h2] at this; exact this
   subst hzs;refine goW ?_;refine rW [] ?_;refine dB false ?_;refine eW ?_;refine goW ?_;refine cfW ?_;refine goW ?_;refine rW [] ?_;refine dW ?_;refine dW ?_;refine eW ?_;refine goW ?_;refine fin1 fun w' H => ?_;exact ⟨_, rvT, ⟨b, rfl, (H.own _ (List.mem_cons_self ..) rfl _ rfl).elim (fun h => h.elim) id, RowN.mk' H.m0 NoW.nil H.m2⟩, H.below⟩
def IsDg (r c : Nat) (xs : List Int) : Prop := ∀ i j, i < r -> j < c -> i ≠ j -> gi xs (i * c + j) = 0
theorem IsDg.not {r c i j : Nat} {xs : List Int} (hi : i < r) (hj : j < c) (hne : i ≠ j) (h : gi xs (i * c + j) ≠ 0) : ¬ IsDg r c xs := fun q => h (q i j hi hj hne)
set_option maxRecDepth 100000 in
set_option maxHeartbeats 2000000 in
theorem SDiag_c (r c : Nat) (ao : Option Addr) (cap L : Nat) (xs : List Int) (w : World) (hr : r <= 64) (hc : c <= 64) (hA : LsAt w L ao xs) (hL : L <= 17592186044415) (hs : xs.length = r * c) :
 Calls Tryz.prog 49 #[.agg #[.int .i64 (r : Int), .int .i64 (c : Int), .slice ao xs.length cap]] w fun e w' => (∃ t, e = .returned (.bool t) /\ (t = true ↔ IsDg r c xs)) /\ Below w.heap.size w w' := by
 have HS : Hid (xs.length = r * c) := Lib.hid hs;clear hs;refine funW (S0 := fun _ => False) Tryz.func49 ((Fr.nil _ w).l hA (by simp)) ?_;refine goW ?_;refine rW [] ?_;refine aW fun g1 => ?_;refine dW ?_;refine eW ?_;refine goW ?_;refine rW [] ?_;refine dW ?_;refine dW ?_;refine dW ?_;refine eW ?_;refine goW ?_;refine loopW (X := Nat) (fun i => i <= r /\ Hid (∀ a b, a < i -> b < c -> a ≠ b -> gi xs (a * c + b) = 0)) (fun i => r - i) (fun i => [(7, .int .i64 (i : Int)), (6, .int .i64 (r : Int)), (1, .pointer (some ⟨g1, 0, none⟩))]) (fun _ => [.row g1 43 [.int .i64 (r : Int), .int .i64 (c : Int), .slice ao xs.length cap], .ls L ao xs]) 0 ⟨Nat.zero_le _, Lib.hid fun a b h => absurd h (Nat.not_lt_zero a)⟩ fun i hi => ?_;obtain ⟨hi, HI⟩ := hi;by_cases h : i < r
 · have h01 : (i : Int) < (r : Int) := by omega
   refine goW ?_;refine rW [] ?_;refine dB true ?_;refine eW ?_;refine goW ?_;refine ctW ?_;refine goW ?_;refine rW [] ?_;refine dW ?_;refine dW ?_;refine eW ?_;refine goW ?_;refine rW [] ?_;refine dW ?_;refine dW ?_;refine dW ?_;refine eW ?_;refine goW ?_;refine loopW (X := Nat) (fun j => j <= c /\ Hid (∀ b, b < j -> i ≠ b -> gi xs (i * c + b) = 0)) (fun j => c - j) (fun j => [(12, .int .i64 (j : Int)), (11, .int .i64 (c : Int)), (7, .int .i64 (i : Int)), (6, .int .i64 (r : Int)), (3, .int .i64 (i : Int)), (1, .pointer (some ⟨g1, 0, none⟩))]) (fun _ => [.row g1 43 [.int .i64 (r : Int), .int .i64 (c : Int), .slice ao xs.length cap], .ls L ao xs]) 0 ⟨Nat.zero_le _, Lib.hid fun b h => absurd h (Nat.not_lt_zero b)⟩ fun j hj => ?_;obtain ⟨hj, HJ⟩ := hj;by_cases h' : j < c
   · have h02 : (j : Int) < (c : Int) := by omega
     have hlt := idxL h h';have hrc : r * c <= 4096 := Nat.mul_le_mul hr hc;obtain ⟨bx, ox, rfl⟩ := hA.pos (i := i * c + j) (by rw [HS.out]; exact hlt);obtain ⟨A, hA'⟩ : ∃ A, i * c = A := ⟨_, rfl⟩;obtain ⟨B, hB⟩ : ∃ B, A + j = B := ⟨_, rfl⟩;have hBl : B < xs.length := by rw [HS.out, <- hB, <- hA']; exact hlt
     have hBl' : (B : Int) < (xs.length : Int) := by omega
     have hAs : i * c < 9223372036854775808 := by omega
     have HAB : Hid (i * c + j = B) := Lib.hid (by rw [hA', hB]);have hgl : A + j < 9223372036854775807 := by omega
     refine goW ?_;refine rW [] ?_;refine dB true ?_;refine eW ?_;refine goW ?_;refine ctW ?_;refine numW (L := L) (xs := xs) (b := bx) (o := ox) B (by simp) hBl fun p => ?_;clear hBl hlt hrc;refine goW ?_;refine rW [] ?_;refine dW ?_;refine dW ?_;refine eW ?_;refine goW ?_;refine rW [] ?_;refine dW ?_;refine dW ?_;by_cases hnz : i ≠ j /\ gi xs B ≠ 0
     · obtain ⟨e, hz⟩ := hnz;have hz' : ¬ zsign (gi xs B) = 0 := fun q => hz (zsign_zero.1 q);have hnd : ¬ IsDg r c xs := IsDg.not h h' e (by rw [HAB.out]; exact hz);refine dB true ?_;refine dW ?_;refine dG ?_;refine dG ?_;refine dG ?_;refine dG ?_;refine dG ?_;refine dGE ((mulI (a := i) (b := c) hAs).trans (by rw [hA'])) ?_;refine dG ?_;refine dGE ((sumI (a := A) (b := j) hgl).trans (by rw [hB])) ?_;refine dG ?_;refine dG ?_;refine cVg (fun w' H => ISign_c (av p) _ w' (H.m2.mono hL)) ?_;refine dGB true ?_;refine dW ?_;refine eW ?_;refine goW ?_;refine ctW ?_;refine goW ?_;refine rW [] ?_;refine dW ?_;refine eW ?_;refine goW ?_;refine fin1 fun w' H => ?_;exact ⟨_, rvT, ⟨false, rfl, (fun q => nomatch q), fun q => absurd q hnd⟩, H.below⟩
     · have hz : i ≠ j -> zsign (gi xs B) = 0 := fun e => zsign_zero.2 (Decidable.byContradiction fun q => hnz ⟨e, q⟩);have HJ' : Hid (∀ b, b < j + 1 -> i ≠ b -> gi xs (i * c + b) = 0) := Lib.hid fun b hb hne => by
        by_cases e : b = j
        · subst e; rw [HAB.out]; exact Decidable.byContradiction fun q => hnz ⟨hne, q⟩
        · exact HJ.out b (by omega) hne
       clear hnz;rcases Decidable.em (i = j) with e | e
       case' inl =>
        refine dB false ?_;refine dW ?_;refine uG ?_;refine uG ?_;refine uG ?_;refine uG ?_;refine uG ?_;refine uG ?_;refine uG ?_;refine uG ?_;refine uG ?_;refine uG ?_;refine uC ?_;refine uG ?_;refine dW ?_
       case' inr =>
        replace hz := hz e
        refine dB true ?_;refine dW ?_;refine dG ?_;refine dG ?_;refine dG ?_;refine dG ?_;refine dG ?_;refine dGE ((mulI (a := i) (b := c) hAs).trans (by rw [hA'])) ?_;refine dG ?_;refine dGE ((sumI (a := A) (b := j) hgl).trans (by rw [hB])) ?_;refine dG ?_;refine dG ?_;refine cVg (fun w' H => ISign_c (av p) _ w' (H.m2.mono hL)) ?_;refine dGB false ?_;refine dW ?_
       all_goals
        refine eW ?_;refine goW ?_;refine cfW ?_;refine goW ?_;refine rW [] ?_;refine dE (incB (a := j) (by omega)) ?_;refine dW ?_;refine eW ?_;refine goW ?_;exact backW (j + 1) ⟨⟨h', HJ'⟩, by show c - (j + 1) < c - j; omega⟩
   · obtain rfl : j = c := by omega
     have HI' : Hid (∀ a b, a < i + 1 -> b < j -> a ≠ b -> gi xs (a * j + b) = 0) := Lib.hid fun a b ha hb hne => by
      by_cases e : a = i
      · subst e; exact HJ.out b hb hne
      · exact HI.out a b (by omega) hb hne
     refine goW ?_;refine rW [] ?_;refine dB false ?_;refine eW ?_;refine goW ?_;refine cfW ?_;refine goW ?_;refine rW [] ?_;refine dE (incB (a := i) (by omega)) ?_;refine dW ?_;refine eW ?_;refine goW ?_;exact backW (i + 1) ⟨⟨h, HI'⟩, by show r - (i + 1) < r - i; omega⟩
 · obtain rfl : i = r := by omega
   refine goW ?_;refine rW [] ?_;refine dB false ?_;refine eW ?_;refine goW ?_;refine cfW ?_;refine goW ?_;refine rW [] ?_;refine dW ?_;refine eW ?_;refine goW ?_;refine fin1 fun w' H => ?_;exact ⟨_, rvT, ⟨true, rfl, fun _ => HI.out, fun _ => rfl⟩, H.below⟩
theorem SDiag_v {r c : Nat} {ao : Option Addr} {cap L : Nat} {xs : List Int} {w : World} (t : Bool) (hr : r <= 64) (hc : c <= 64) (hA : LsAt w L ao xs) (hL : L <= 17592186044415) (hs : xs.length = r * c) (ht : t = true ↔ IsDg r c xs) :
 Calls Tryz.prog 49 #[.agg #[.int .i64 (r : Int), .int .i64 (c : Int), .slice ao xs.length cap]] w fun e w' => e = .returned (.bool t) /\ Below w.heap.size w w' :=
 (SDiag_c r c ao cap L xs w hr hc hA hL hs).mono fun e w' ⟨⟨t', he, h⟩, hb⟩ => ⟨by rw [he]; congr 2; rw [Bool.eq_iff_iff, h, ht], hb⟩
end Go.Proofs.YtghpbpclamfigaaGreat
namespace Go.Proofs.YtghpbpclamfigaaGreat
def tabK (c : Nat) (f : Nat -> Nat -> Int) (k : Nat) : List Int := (List.range k).map fun q => f (q / c) (q % c)
theorem tabK_length (c : Nat) (f : Nat -> Nat -> Int) (k : Nat) : (tabK c f k).length = k := by simp [tabK]
theorem tabK_succ {c i j : Nat} (f : Nat -> Nat -> Int) (hj : j < c) : tabK c f (i * c + j + 1) = tabK c f (i * c + j) ++ [f i j] := by
 have h1 : (i * c + j) / c = i := by rw [Nat.mul_comm, Nat.mul_add_div (by omega), Nat.div_eq_of_lt hj]; rfl
 have h2 : (i * c + j) % c = j := by rw [Nat.mul_comm, Nat.mul_add_mod, Nat.mod_eq_of_lt hj]
 unfold tabK;rw [List.range_succ, List.map_append];simp [h1, h2]
theorem tabK_matE {r c i j : Nat} (f : Nat -> Nat -> Int) (hi : i < r) (hj : j < c) : (tabK c f (r * c)).getD (i * c + j) 0 = f i j := by
 have h1 : (i * c + j) / c = i := by rw [Nat.mul_comm, Nat.mul_add_div (by omega), Nat.div_eq_of_lt hj]; rfl
 have h2 : (i * c + j) % c = j := by rw [Nat.mul_comm, Nat.mul_add_mod, Nat.mod_eq_of_lt hj]
 have h3 : (i + 1) * c <= r * c := Nat.mul_le_mul_right _ hi;have h4 : (i + 1) * c = i * c + c := Nat.succ_mul i c;unfold tabK;rw [List.getD_eq_getElem?_getD, List.getElem?_map, List.getElem?_range (by omega)];simp [h1, h2]
end Go.Proofs.YtghpbpclamfigaaGreat
namespace Go.Proofs.YtghpbpclamfigaaGreat
open Go.RowKit
def diagF (xs : List Int) (i j : Nat) : Int := if i = j /\ i < xs.length then gi xs i else 0
set_option maxRecDepth 100000 in
set_option maxHeartbeats 1000000 in
theorem Diag1_c (i j g : Nat) (la : Option Addr) (cap L : Nat) (xs : List Int) (w : World) (hg : w.cell? ⟨g, 0, none⟩ = some (.slice la xs.length cap)) (hA : LsAt w L la xs) (hL : L <= 17592186044415) :
 Calls Tryz.prog 68 #[.int .i64 (i : Int), .int .i64 (j : Int), .pointer (some ⟨g, 0, none⟩)] w fun e w' => (∃ v, e = .returned v /\ OwnI w' w.heap.size v (diagF xs i j)) /\ Below w.heap.size w w' := by
 refine funW (S0 := fun _ => False) Tryz.func68 (((Fr.nil _ w).l hA (by simp)).cl hg (by simp [En.wr])) ?_;refine goW ?_;refine rW [] ?_;refine aW fun g5 => ?_;refine eW ?_;by_cases h : i = j /\ i < xs.length
 · obtain ⟨rfl, h2⟩ := h;have e0 : diagF xs i i = gi xs i := by rw [diagF, if_pos ⟨rfl, h2⟩]
   rw [e0];obtain ⟨bx, ox, rfl⟩ := hA.pos h2;refine goW ?_;refine rW [] ?_;refine dW ?_;refine dW ?_;refine dB true ?_;refine dW ?_;refine dG ?_;refine dG ?_;refine dG ?_;refine dGB true ?_;refine dW ?_;refine eW ?_;refine goW ?_;refine ctW ?_;refine numW (L := L) (xs := xs) (b := bx) (o := ox) i (by simp) h2 fun p => ?_;refine goW ?_;refine rW [] ?_;refine dW ?_;refine dW ?_;refine dW ?_;refine dW ?_;refine cN (fun w' H => ILeast_c (av p) _ w' (H.m2.mono hL)) fun q => ?_;refine sW ?_;refine eW ?_;refine goW ?_;refine fin1 fun w' H => ?_;exact ⟨_, rvI H.m4, ⟨_, rfl, H.m0⟩, H.below⟩
 · have e0 : diagF xs i j = 0 := by rw [diagF, if_neg h]
   rw [e0];refine goW ?_;refine rW [] ?_;refine dW ?_;refine dW ?_;rcases Decidable.em (i = j) with e | e
   case' inl =>
    have hlt : ¬ i < xs.length := fun q => h ⟨e, q⟩;subst e;clear h;refine dB true ?_;refine dW ?_;refine dG ?_;refine dG ?_;refine dG ?_;refine dGB false ?_
   case' inr =>
    clear h;refine dB false ?_;refine dW ?_;refine uG ?_;refine uG ?_;refine uG ?_;refine uG ?_
   all_goals
    refine dW ?_;refine eW ?_;refine goW ?_;refine cfW ?_;refine goW ?_;refine rW [] ?_;refine dW ?_;refine sW ?_;refine eW ?_;refine goW ?_;refine fin1 fun w' H => ?_;exact ⟨_, rvI H.m0, ⟨_, rfl, OwnI.zero _ _⟩, H.below⟩
theorem mkLst {P : Program} {Q : Exit -> Act -> World -> Prop} {S0 : Nat -> Prop} {w0 : World} {n b N : Nat} {ls : List (Nat × Value)} {es : List En} {c : Code} (k : CW P n S0 w0 c Q ls (.lst (some ⟨b, 0, none⟩) 0 N [] :: es)) : CW P n S0 w0 c Q ls (.row b 37 (rn (List.replicate N p0) []) :: es) := fun a w ha hw =>
 k a w ha (hw.conv (fun hr => ⟨rfl, Nat.zero_le _, .inr ⟨b, rn (List.replicate N p0) [], rfl, NoW.rn NoW.nil, hr, by show (rn (List.replicate N p0) []).length = _; rw [rn, List.append_nil, flat_length]; simp; omega⟩⟩) (fun g ⟨o, e⟩ => by cases e; rfl) (fun _ => rfl))
structure B1X where
 i : Nat
 K : Nat
 ao : Option Addr
 cap : Nat
 ps : List P4
structure B1I (r c : Nat) (z : B1X) : Prop where
 hi : z.i <= r
 hK : z.i * c = z.K
structure B2X where
 j : Nat
 K : Nat
 ao : Option Addr
 cap : Nat
 ps : List P4
structure B2I (c i : Nat) (z : B2X) : Prop where
 hj : z.j <= c
 hK : i * c + z.j = z.K
set_option maxRecDepth 100000 in
set_option maxHeartbeats 4000000 in
theorem Build1_c (F : FuncId) (hF : ∀ (args : Array Value) (w : World), (callFunc F args).run Tryz.prog w = .ok (.enter F args) w) (r c g : Nat) (f : Nat -> Nat -> Int) (w : World) (hr : r <= 64) (hc : c <= 64)
 (hf : ∀ (i j : Nat) (w' : World), i < r -> j < c -> Below w.heap.size w w' -> Calls Tryz.prog F #[.int .i64 (i : Int), .int .i64 (j : Int), .pointer (some ⟨g, 0, none⟩)] w' fun e w'' => (∃ v, e = .returned v /\ OwnI w'' w'.heap.size v (f i j)) /\ Below w'.heap.size w' w'') :
 Calls Tryz.prog 67 #[.int .i64 (r : Int), .int .i64 (c : Int), .func (.func F) #[] #[.pointer (some ⟨g, 0, none⟩)]] w fun e w' => (∃ ao cap, e = .returned (.agg #[.int .i64 (r : Int), .int .i64 (c : Int), .slice ao (r * c) cap]) /\ LsN w' ao (tabK c f (r * c)) /\ r * c <= cap /\ ∀ b o, ao = some ⟨b, o, none⟩ -> w.heap.size <= b) /\ Below w.heap.size w w' := by
 have hnc : r * c <= 4096 := Nat.mul_le_mul hr hc;have hms : r * c < 9223372036854775808 := by omega
 refine funW (S0 := fun _ => False) Tryz.func67 (Fr.nil _ w) ?_;refine goW ?_;refine rW [] ?_;refine aW fun g6 => ?_;refine eW ?_;refine goW ?_;refine rW [] ?_;refine dW ?_;refine dW ?_;refine dW ?_;refine dW ?_;refine dE (mulI (a := r) (b := c) hms) ?_;obtain ⟨N, hN⟩ : ∃ N, r * c = N := ⟨_, rfl⟩;rw [hN] at hnc ⊢;have HN : Hid (r * c = N) := Lib.hid hN;clear hms hN;refine mN 0 N rfl rfl (Nat.zero_le _) (by omega) fun b => ?_;refine dW ?_;refine aW fun g7 => ?_;refine sG ?_;refine eW ?_;refine pickW (es' := [.row b 37 (rn (List.replicate N p0) []), .row g7 43 [.int .i64 (r : Int), .int .i64 (c : Int), .slice (some ⟨b, 0, none⟩) 0 N], .row g6 43 [.int .i64 0, .int .i64 0, .slice none 0 0]]) ?_;refine mkLst ?_;refine addW (e := .ns [] (tabK c f 0)) (fun w' _ => NsAt.nil w') ?_;refine pickW (es' := [.row g7 43 [.int .i64 (r : Int), .int .i64 (c : Int), .slice (some ⟨b, 0, none⟩) 0 N], .row g6 43 [.int .i64 0, .int .i64 0, .slice none 0 0], .lst (some ⟨b, 0, none⟩) 0 N [], .ns [] (tabK c f 0)]) ?_;refine goW ?_;refine rW [] ?_;refine dW ?_;refine dW ?_;refine eW ?_;refine goW ?_;refine loopW (X := B1X) (B1I r c) (fun z => r - z.i) (fun z => [(18, .int .i64 (z.i : Int)), (17, .int .i64 (r : Int)), (1, .int .i64 (c : Int)), (2, .func (.func F) #[] #[.pointer (some ⟨g, 0, none⟩)]), (7, .pointer (some ⟨g7, 0, none⟩)), (6, .pointer (some ⟨g6, 0, none⟩))])
  (fun z => [.row g7 43 [.int .i64 (r : Int), .int .i64 (c : Int), .slice z.ao z.K z.cap], .row g6 43 [.int .i64 0, .int .i64 0, .slice none 0 0], .lst z.ao z.K z.cap z.ps, .ns z.ps (tabK c f z.K)]) ⟨0, 0, some ⟨b, 0, none⟩, N, []⟩ ⟨Nat.zero_le _, Nat.zero_mul _⟩ fun z hz => ?_
 obtain ⟨i, K, ao, cap, ps⟩ := z;obtain ⟨hi, hK⟩ := hz
 replace hi : i <= r := hi
 replace hK : i * c = K := hK
 by_cases h : i < r
 · have h01 : (i : Int) < (r : Int) := by omega
   have HK : Hid (i * c + 0 = K) := Lib.hid hK;clear hK;refine goW ?_;refine rW [] ?_;refine dB true ?_;refine eW ?_;refine goW ?_;refine ctW ?_;refine goW ?_;refine rW [] ?_;refine dW ?_;refine dW ?_;refine eW ?_;refine goW ?_;refine rW [] ?_;refine dW ?_;refine dW ?_;refine eW ?_;refine goW ?_;refine loopW (X := B2X) (B2I c i) (fun z => c - z.j) (fun z => [(22, .int .i64 (z.j : Int)), (21, .int .i64 (c : Int)), (8, .int .i64 (i : Int)), (18, .int .i64 (i : Int)), (17, .int .i64 (r : Int)), (1, .int .i64 (c : Int)), (2, .func (.func F) #[] #[.pointer (some ⟨g, 0, none⟩)]), (7, .pointer (some ⟨g7, 0, none⟩)), (6, .pointer (some ⟨g6, 0, none⟩))])
    (fun z => [.row g7 43 [.int .i64 (r : Int), .int .i64 (c : Int), .slice z.ao z.K z.cap], .row g6 43 [.int .i64 0, .int .i64 0, .slice none 0 0], .lst z.ao z.K z.cap z.ps, .ns z.ps (tabK c f z.K)]) ⟨0, K, ao, cap, ps⟩ ⟨Nat.zero_le _, HK.out⟩ fun z hz => ?_
   clear HK;obtain ⟨j, K, ao, cap, ps⟩ := z;obtain ⟨hj, hK⟩ := hz
   replace hj : j <= c := hj
   replace hK : i * c + j = K := hK
   by_cases h' : j < c
   · have h02 : (j : Int) < (c : Int) := by omega
     have hlt := idxL h h';have ht := tabK_succ (i := i) f h';have hKN : K <= 100000000 := by have := HN.out; omega
     rw [hK] at ht;have HT : Hid (tabK c f (K + 1) = tabK c f K ++ [f i j] /\ i * c + j = K) := Lib.hid ⟨ht, hK⟩;clear ht hK hlt;refine goW ?_;refine rW [] ?_;refine dB true ?_;refine eW ?_;refine goW ?_;refine ctW ?_;refine goW ?_;refine rW [] ?_;refine dW ?_;refine dW ?_;refine eW ?_;refine goW ?_;refine rW [] ?_;refine dW ?_;refine dW ?_;refine dW ?_;refine dW ?_;refine dW ?_;refine cN (fun w' H => hf i j w' h h' H.below) fun q => ?_;refine bW (m := 1) fun g31 => ?_;refine moreW (e := .ns (ps ++ [q]) (tabK c f (K + 1))) (fun w' H => by rw [HT.out.1]; exact NsAt.snoc H.m5 H.m1.num) ?_;refine appN (g := g31) (t := 37) (c := 1) (ao := ao) (k := K) (cap := cap) (ps := ps) q hKN (by simp) fun z => ?_;refine dW ?_;refine sW ?_;refine eW ?_;refine goW ?_;refine rW [] ?_;refine dE (incB (a := j) (by omega)) ?_;refine dW ?_;refine eW ?_;refine goW ?_;exact backW (⟨j + 1, K + 1, z.1, z.2, ps ++ [q]⟩ : B2X) ⟨⟨h', by show i * c + (j + 1) = K + 1; have := HT.out.2; omega⟩, by show c - (j + 1) < c - j; omega⟩
   · obtain rfl : j = c := by omega
     have HK : Hid ((i + 1) * j = K) := Lib.hid (by rw [Nat.succ_mul]; exact hK);clear hK;refine goW ?_;refine rW [] ?_;refine dB false ?_;refine eW ?_;refine goW ?_;refine cfW ?_;refine goW ?_;refine rW [] ?_;refine dE (incB (a := i) (by omega)) ?_;refine dW ?_;refine eW ?_;refine goW ?_;exact backW (⟨i + 1, K, ao, cap, ps⟩ : B1X) ⟨⟨h, HK.out⟩, by show r - (i + 1) < r - i; omega⟩
 · obtain rfl : i = r := by omega
   obtain rfl : K = N := by rw [<- hK]; exact HN.out
   clear hK;refine goW ?_;refine rW [] ?_;refine dB false ?_;refine eW ?_;refine goW ?_;refine cfW ?_;refine goW ?_;refine rW [] ?_;refine dW ?_;refine sW ?_;refine eW ?_;refine goW ?_;refine fin1 fun w' H => ?_;exact ⟨_, rvM H.m1, ⟨ao, cap, rfl, lst_lsN H.m2 H.m3, (show LstF ao K cap ps w' from H.m2).2.1, fun b o e => (H.own (.lst ao K cap ps) (by simp) rfl b ⟨o, e⟩).elim (fun h => h.elim) id⟩, H.below⟩
theorem prW {A : Prop} {P : Program} {Q : Exit -> Act -> World -> Prop} {S0 : Nat -> Prop} {w0 : World} {n : Nat} {ls : List (Nat × Value)} {es : List En} {c : Code} (hm : En.pr A ∈ es) (k : A -> CW P n S0 w0 c Q ls es) : CW P n S0 w0 c Q ls es := fun a w ha hw => k (hw.all _ hm) a w ha hw
section
variable {P : Program} {ops : Array Oper} {Q : Exit -> Act -> World -> Prop} {S0 : Nat -> Prop} {w0 : World} {E0 : List En} {hd : List (List Nat)} {n j s : Nat} {l : List Nat} {G E : List En} {ls : List (Nat × Value)} {op : Op} {ty : TypeId} {pos : String} {af : Array Edge} {v : Value} {f : FuncId} {args : Array Value}
theorem fW (k : RWs ⟨P, ops, Q, S0, w0, E0, hd⟩ n l G E ((s, v) :: ls))
 (ho : ops[j]? = some ⟨some s, op, ty, pos, af, none⟩ := by rfl) (hk : (!isDet op && !isNew op && chkO ls op && Nat.blt s n) = true := by kernel_rfl)
 (hr : ∀ w, (execOp (evl ls) ⟨some s, op, ty, pos, af, none⟩).run P w = .ok (.value v) w := by intro w; (try simp only [av]); go_simp <;> with_reducible rfl)
 (hst : okSt ops hd j [] = true := by kernel_rfl) : RWs ⟨P, ops, Q, S0, w0, E0, hd⟩ n (j :: l) G E ls := fun a ha => by
 simp only [Bool.and_eq_true, Bool.not_eq_true'] at hk;refine ⟨_, ho, .inr (.inr ⟨hk.1.1.1, hk.1.1.2, Unit, fun _ => v, fun _ => G, fun _ => E, [], ⟨()⟩, fun X w hX hw => ?_, hst, fun _ _ _ => rfl, fun _ => k _ (ha.put (Nat.le_of_ble_eq_true hk.2) _)⟩)⟩;refine ifw rfl ?_;show wpR P _ ((execOp a.eval _).run P w);rw [ha.exec hk.1.2, hr w];exact ⟨(), rfl, hw⟩
theorem cLn {α : Type} {mk : α -> Value} {ao : α -> Option Addr} {xs : α -> List Int} {A : α -> Prop} (c : ∀ w, Fr S0 w0 w (G ++ E) -> Calls P f args w fun e w' => (∃ p, e = .returned (mk p) /\ LsN w' (ao p) (xs p) /\ A p /\ ∀ b o, ao p = some ⟨b, o, none⟩ -> w.heap.size <= b) /\ Below w.heap.size w w')
 (k : ∀ p, RWs ⟨P, ops, Q, S0, w0, E0, hd⟩ n l (.lsn (ao p) (xs p) :: .pr (A p /\ ∀ b o, ao p = some ⟨b, o, none⟩ -> w0.heap.size <= b) :: G) E ((s, mk p) :: ls))
 (ho : ops[j]? = some ⟨some s, op, ty, pos, af, none⟩ := by rfl) (hk : (!isDet op && !isNew op && chkO ls op && Nat.blt s n) = true := by kernel_rfl)
 (hr : ∀ w, (execOp (evl ls) ⟨some s, op, ty, pos, af, none⟩).run P w = .ok (.enter f args) w := by intro w; (try simp only [av]); go_simp <;> with_reducible rfl) (hne : Nonempty α := by infer_instance)
 (hst : okSt ops hd j [] = true := by kernel_rfl) : RWs ⟨P, ops, Q, S0, w0, E0, hd⟩ n (j :: l) G E ls := by
 refine cG (mk := mk) (ens := fun p => [.lsn (ao p) (xs p), .pr (A p /\ ∀ b o, ao p = some ⟨b, o, none⟩ -> w0.heap.size <= b)]) (fun w hw => (c w hw).mono ?_) k ho hk hr hne hst;rintro e w' ⟨⟨p, rfl, hl, hA, hS⟩, hb⟩;exact ⟨p, rfl, hb, fun e he => by
  rcases List.mem_cons.1 he with rfl | he
  · exact ⟨hl, fun b ⟨_, o, e⟩ => hS b o e⟩
  · rcases List.mem_singleton.1 he with rfl;exact ⟨⟨hA, fun b o e => Nat.le_trans hw.size (hS b o e)⟩, fun _ h => h.elim⟩, List.pairwise_pair.2 ⟨(fun h => nomatch h), (fun h => nomatch h)⟩⟩
end
set_option maxRecDepth 100000 in
set_option maxHeartbeats 2000000 in
theorem MDiag_c (r c : Nat) (la : Option Addr) (cap L : Nat) (xs : List Int) (w : World) (hr : r <= 64) (hc : c <= 64) (hx : xs.length <= min r c) (hA : LsAt w L la xs) (hL : L <= 17592186044415) :
 Calls Tryz.prog 51 #[.int .i64 (r : Int), .int .i64 (c : Int), .slice la xs.length cap] w fun e w' => (∃ p : Option Addr × Nat, e = .returned (.tuple #[.agg #[.int .i64 (r : Int), .int .i64 (c : Int), .slice p.1 (r * c) p.2], .int .i64 0]) /\ LsN w' p.1 (tabK c (diagF xs) (r * c)) /\ True /\ ∀ b o, p.1 = some ⟨b, o, none⟩ -> w.heap.size <= b) /\ Below w.heap.size w w' := by
 have s1 : sideOk (r : Int) = true := by unfold sideOk; simp; omega
 have s2 : sideOk (c : Int) = true := by unfold sideOk; simp; omega
 have hS1 : ∀ w', Calls Tryz.prog 66 #[.int .i64 (r : Int)] w' fun e w'' => e = .returned (.bool true) /\ Below w'.heap.size w' w'' := fun w' => (side_c r w').mono fun e w'' ⟨h1, h2⟩ => ⟨by rw [h1, s1], h2 ▸ Below.refl _ _⟩;have hS2 : ∀ w', Calls Tryz.prog 66 #[.int .i64 (c : Int)] w' fun e w'' => e = .returned (.bool true) /\ Below w'.heap.size w' w'' := fun w' => (side_c c w').mono fun e w'' ⟨h1, h2⟩ => ⟨by rw [h1, s2], h2 ▸ Below.refl _ _⟩;clear s1 s2;refine funW (S0 := fun _ => False) Tryz.func51 ((Fr.nil _ w).l hA (by simp)) ?_;refine goW ?_;refine rW [] ?_;refine aW fun g5 => ?_;refine aW fun g6 => ?_;refine dW ?_;refine eW ?_;refine goW ?_;refine rW [] ?_;refine dW ?_;refine cV (fun w' H => hS1 w') ?_;refine dW ?_;refine dW ?_;refine dG ?_;refine cVg (fun w' H => hS2 w') ?_;refine dG ?_;refine dW ?_;refine eW ?_;refine goW ?_;refine cfW ?_;refine goW ?_;refine rW [] ?_;refine dW ?_;refine dW ?_;refine dW ?_;refine dW ?_;refine dE (minI r c) ?_;obtain ⟨k, hk⟩ : ∃ k, min r c = k := ⟨_, rfl⟩;rw [hk] at hx ⊢;clear hk;refine dB false ?_;refine eW ?_;refine goW ?_;refine cfW ?_;refine goW ?_;refine rW [] ?_;refine dW ?_;refine dW ?_;refine fW ?_;refine cLn (α := Option Addr × Nat) (mk := fun p => .agg #[.int .i64 (r : Int), .int .i64 (c : Int), .slice p.1 (r * c) p.2]) (ao := fun p => p.1) (xs := fun _ => tabK c (diagF xs) (r * c)) (A := fun _ => True)
  (fun w' H => (Build1_c 68 (fun _ _ => by go_simp) r c g5 (diagF xs) w' hr hc (fun i j w2 hi hj hb => by
   have h1 : RowAt w' g5 22 [.slice la xs.length cap] := H.m1;have h2 : LsAt w' L la xs := H.m2;exact Diag1_c i j g5 la cap L xs w2 ((h1.below hb h1.lt).cell 0) (h2.below hb) hL)).mono (by
    rintro e w3 ⟨⟨ao, cap', rfl, hl, _, hS⟩, hb⟩;exact ⟨⟨(ao, cap'), rfl, hl, trivial, hS⟩, hb⟩)) fun q => ?_
 refine sW ?_;refine dW ?_;refine eW ?_;refine goW ?_;refine fin2 fun w' H => ?_;exact ⟨_, _, rvM H.m2, rvT, ⟨q, rfl, H.m0, trivial, (show True /\ ∀ b o, q.1 = some ⟨b, o, none⟩ -> w.heap.size <= b from H.m1).2⟩, H.below⟩
theorem setCells_stA (b : Nat) : ∀ (us : List Value) (k : Nat) (w : World), w.setCells b k us = stA w b k us
 | [], _, _ => rfl
 | _ :: us, k, _ => setCells_stA b us (k + 1) _
theorem setL_app : ∀ (us vs : List Value) (k : Nat) (cs : List Value), setL cs k (us ++ vs) = setL (setL cs k us) (k + us.length) vs
 | [], vs, k, cs => rfl
 | u :: us, vs, k, cs => by
  rw [List.cons_append, setL, setL, setL_app us vs (k + 1), List.length_cons, Nat.add_assoc, Nat.add_comm 1]
theorem setL_length : ∀ (us : List Value) (k : Nat) (cs : List Value), (setL cs k us).length = cs.length
 | [], _, _ => rfl
 | u :: us, k, cs => by rw [setL, setL_length us, List.length_set]
theorem rn_apps {cap : Nat} : ∀ (qs ps : List P4) (tl : List Value), (rn ps tl).length = cap * 2 -> ps.length + qs.length <= cap -> setL (rn ps tl) (ps.length * 2) (flat qs) = rn (ps ++ qs) (tl.drop (2 * qs.length))
 | [], ps, tl, _, _ => by simp [flat, setL]
 | q :: qs, ps, tl, hl, hc => by
  have h1 := rn_snoc hl (by simp at hc; omega) q;have e : flat (q :: qs) = [.bool q.1, .slice q.2.1 q.2.2.1 q.2.2.2] ++ flat qs := rfl;have h2 := rn_apps (cap := cap) qs (ps ++ [q]) (tl.drop 2) (by rw [<- h1, setL_length]; exact hl) (by simp at hc ⊢; omega);rw [e, setL_app, h1];have e2 : ps.length * 2 + [Value.bool q.1, .slice q.2.1 q.2.2.1 q.2.2.2].length = (ps ++ [q]).length * 2 := by simp; omega
  rw [e2, h2, List.append_assoc, List.drop_drop];congr 2;simp; omega
theorem LsAt.cells {w : World} {L b o : Nat} {xs : List Int} (h : LsAt w L (some ⟨b, o, none⟩) xs) : ∃ qs : List P4, qs.length = xs.length /\ (∀ i, i < xs.length -> w.cell? ⟨b, o + i * 2, none⟩ = some (.bool (gp qs i).1) /\ w.cell? ⟨b, o + i * 2 + 1, none⟩ = some (.slice (gp qs i).2.1 (gp qs i).2.2.1 (gp qs i).2.2.2) /\ IntAt w L (av (gp qs i)) (gi xs i)) := by
 have hx : ∀ i, i < xs.length -> ∃ p : P4, w.cell? ⟨b, o + i * 2, none⟩ = some (.bool p.1) /\ w.cell? ⟨b, o + i * 2 + 1, none⟩ = some (.slice p.2.1 p.2.2.1 p.2.2.2) /\ IntAt w L (av p) (gi xs i) := fun i hi => by
  obtain ⟨b', o', e, _, hc⟩ := h (by omega);cases e;obtain ⟨p, h1, h2, h3⟩ := hc i hi;exact ⟨p, h1, h2, by rw [gi_eq hi]; exact h3⟩
 have key : ∀ n, n <= xs.length -> ∃ qs : List P4, qs.length = n /\ ∀ i, i < n -> w.cell? ⟨b, o + i * 2, none⟩ = some (.bool (gp qs i).1) /\ w.cell? ⟨b, o + i * 2 + 1, none⟩ = some (.slice (gp qs i).2.1 (gp qs i).2.2.1 (gp qs i).2.2.2) /\ IntAt w L (av (gp qs i)) (gi xs i) := by
  intro n;induction n with
  | zero => exact fun _ => ⟨[], rfl, fun i hi => absurd hi (Nat.not_lt_zero i)⟩
  | succ n ih =>
   intro hn;obtain ⟨qs, hl, hq⟩ := ih (by omega);obtain ⟨p, hp⟩ := hx n (by omega);refine ⟨qs ++ [p], by simp [hl], fun i hi => ?_⟩;by_cases e : i = n
   · subst e;have : gp (qs ++ [p]) i = p := by subst hl; simp [gp]
     rw [this]; exact hp
   · have hi' : i < qs.length := by omega
     have : gp (qs ++ [p]) i = gp qs i := by rw [gp_eq (by simp; omega), gp_eq hi', List.getElem_append_left hi']
     rw [this]; exact hq i (by omega)
 exact key xs.length (Nat.le_refl _)
theorem app_runL {w : World} {ty : TypeId} {ao go : Option Addr} {k cap cg L : Nat} {ps : List P4} {ys : List Int} (h : LstF ao k cap ps w) (hb : k + ys.length <= 100000000) (hg : LsAt w L go ys) :
 ∃ (ao' : Option Addr) (cap' : Nat) (qs : List P4) (w' : World), (Builtin.append_ #[22, 22] ty #[.slice ao k cap, .slice go ys.length cg]).run Tryz.prog w = .ok (.slice ao' (k + ys.length) cap') w' /\ LstF ao' (k + ys.length) cap' (ps ++ qs) w' /\ qs.length = ys.length /\ (∀ i, i < ys.length -> IntAt w' L (av (gp qs i)) (gi ys i)) /\ Chg (fun g => ∃ o, ao = some ⟨g, o, none⟩) w w' /\ ∀ g, (∃ o, ao' = some ⟨g, o, none⟩) -> (∃ o, ao = some ⟨g, o, none⟩) ∨ w.heap.size <= g := by
 obtain ⟨i, hi, hz, hsz, hby⟩ := info_parts info_Int;by_cases h0 : ys.length = 0
 · have hy : ys = [] := List.eq_nil_of_length_eq_zero h0;subst hy;have hs : Src Tryz.prog i.size 22 (.slice go 0 cg) 0 [] w := by
    cases go with
    | none => exact Src.ofNil w Tryz.underlying22 cg
    | some a => exact Src.ofSlice w Tryz.underlying22 a 0 cg [] (by simp) (fun j u hj => by simp at hj) (fun u hu => by cases hu)
   exact ⟨ao, cap, [], w, run_append_nothing w 22 22 ty 37 i Tryz.underlying22 hi ao k cap h.2.1 _ hs, by simpa using h, rfl, fun j hj => absurd hj (by simp), Chg.refl _ _, fun g hg => .inl hg⟩
 · obtain ⟨b, o, rfl, _⟩ := hg (by omega);obtain ⟨qs, hql, hq⟩ := hg.cells;have hfl := flat_length qs;have hcell : ∀ j u, (flat qs)[j]? = some u -> w.cell? ((⟨b, o, none⟩ : Addr).add j) = some u := fun j u hj => by
    have e : (⟨b, o, none⟩ : Addr).add j = ⟨b, o + j, none⟩ := by simp only [Addr.add]; by_cases hj0 : j = 0 <;> simp [hj0]
    have hjl : j < 2 * qs.length := by have := (List.getElem?_eq_some_iff.1 hj).1; omega
    rw [e, <- hj];rcases Nat.mod_two_eq_zero_or_one j with h | h
    · obtain ⟨i, rfl⟩ : ∃ i, j = i * 2 := ⟨j / 2, by omega⟩;rw [(hq i (by omega)).1, gp_eq (by omega), flat_get0 qs i (by omega)]
    · obtain ⟨i, rfl⟩ : ∃ i, j = i * 2 + 1 := ⟨j / 2, by omega⟩;rw [<- Nat.add_assoc, (hq i (by omega)).2.1, gp_eq (by omega), flat_get1 qs i (by omega)]
   have hone : ∀ u ∈ flat qs, u.oneCell' = true := fun u hu => by
    have : ∀ qs : List P4, u ∈ flat qs -> u.oneCell' = true := by
     intro qs;induction qs with
     | nil => intro h; cases h
     | cons q qs ih =>
      intro h;simp only [flat, List.mem_cons] at h;rcases h with rfl | rfl | h
      · rfl
      · rfl
      · exact ih h
    exact this qs hu
   have hsrc : Src Tryz.prog i.size 22 (.slice (some ⟨b, o, none⟩) ys.length cg) ys.length (flat qs) w := Src.ofSlice w Tryz.underlying22 _ _ cg _ (by rw [hsz]; omega) hcell hone;obtain ⟨hk, hkc, hrow⟩ := h;by_cases hroom : k + ys.length <= cap
   · obtain ⟨_, h⟩ | ⟨b1, tl, rfl, ht, hr, hl⟩ := hrow
     · omega
     subst hk;have hex : ∀ j, j < cap * 2 -> (w.cell? ⟨b1, j, none⟩).isSome = true := fun j hj => by rw [hr.cell, List.getElem?_eq_getElem (by omega)]; rfl
     have hchg := (Chg.stA (flat qs) (ps.length * 2) (Chg.refl (· = b1) w));have hwl : Wordless (· = b1) w := fun g e => by obtain rfl : g = b1 := e; exact ⟨_, _, hr, NoW.rn ht⟩
     have hsc : w.setCells b1 (0 + ps.length * i.size) (flat qs) = stA w b1 (ps.length * 2) (flat qs) := by rw [hsz, Nat.zero_add, setCells_stA]
     refine ⟨_, _, qs, _, run_append_room_src w 22 22 ty 37 i Tryz.underlying22 hi b1 0 ps.length cap _ ys.length _ hsrc hroom (fun j hj => hex _ ?_) (fun j _ => hr.free _), ?_, hql, fun j hj => ?_, ?_, fun g hg => .inl hg⟩
     · rw [hsz]; omega
     · rw [hsc];have h2 := hr.stA (flat qs) (ps.length * 2);rw [rn_apps qs ps tl hl (by omega)] at h2;refine ⟨by simp [hql], hroom, .inr ⟨b1, tl.drop (2 * qs.length), rfl, fun v hv => ht v (List.mem_of_mem_drop hv), h2, ?_⟩⟩;rw [<- rn_apps qs ps tl hl (by omega), setL_length]; exact hl
     · rw [hsc]; exact hchg.int hwl (hq j hj).2.2
     · rw [hsc]; exact hchg.mono (fun g _ e => by obtain rfl : g = b1 := e; exact ⟨0, rfl⟩)
   · have hf := flat_length ps;have hold : (Builtin.firstCells i.size k (.slice ao k cap)).run Tryz.prog w.drew = .ok (flat ps).toArray w.drew := by
      obtain ⟨rfl, h⟩ | ⟨b1, tl, rfl, ht, hr, hl⟩ := hrow
      · obtain rfl : ps = [] := List.eq_nil_of_length_eq_zero (by omega);exact run_firstCells_none w.drew i.size k k cap
      · refine run_firstCells_some w.drew i.size k _ k cap (flat ps) (by rw [hsz]; omega) fun j v hj => ?_;have e : w.drew.cell? ((⟨b1, 0, none⟩ : Addr).add j) = w.cell? ⟨b1, j, none⟩ := by simp only [Addr.add]; by_cases hj0 : j = 0 <;> simp [hj0]
        rw [e, hr.cell, rn, List.getElem?_append_left (List.getElem?_eq_some_iff.1 hj).1]; exact hj
     have hbl : Below w.heap.size w (w.drew.alloc (.cells ((flat ps ++ flat qs).toArray ++ Builtin.zeroCells (Value.agg #[.bool false, .slice none 0 0]).cells (grownCap w (k + ys.length) cap 37 - (k + ys.length))) 37)) := ⟨rfl, rfl, rfl, by simp, fun q hq => heap_alloc_old w.drew _ hq⟩;refine ⟨_, _, qs, _, run_append_grow_src w 22 22 ty 37 i (.agg #[.bool false, .slice none 0 0]) Tryz.underlying22 hi hz ao k cap (flat ps) hold _ ys.length _ hsrc (by omega) (by omega) (growslice_fits (by omega) (by rw [hby]; omega)), ⟨by simp [hk, hql], grownCap_ge .., .inr ⟨_, (Builtin.zeroCells (Value.agg #[.bool false, .slice none 0 0]).cells (grownCap w (k + ys.length) cap 37 - (k + ys.length))).toList, rfl, zero_nums _, ?_, ?_⟩⟩, hql, fun j hj => (hq j hj).2.2.below hbl, Chg.alloc' _ w _, fun g ⟨o, e⟩ => by cases e; exact .inr (Nat.le_refl _)⟩
     · have hnew := RowAt.new w.drew ((flat ps ++ flat qs).toArray ++ Builtin.zeroCells (Value.agg #[.bool false, .slice none 0 0]).cells (grownCap w (k + ys.length) cap 37 - (k + ys.length))) 37;rw [rn, flat_append];simpa using hnew
     · have hge := grownCap_ge w (k + ys.length) cap 37;have hz2 : (Builtin.zeroCells (Value.agg #[.bool false, .slice none 0 0]).cells (grownCap w (k + ys.length) cap 37 - (k + ys.length))).toList.length = (grownCap w (k + ys.length) cap 37 - (k + ys.length)) * 2 := by rw [Array.length_toList, size_zeroCells]; rfl
       rw [rn, List.length_append, flat_length, List.length_append, hz2]; omega
theorem ia_app {w : World} {L k n : Nat} {ps qs : List P4} {xs ys : List Int} (hp : ps.length = k) (hx : xs.length = k) (h : ∀ i, i < k -> IntAt w L (av (gp ps i)) (gi xs i)) (g : ∀ i, i < n -> IntAt w L (av (gp qs i)) (gi ys i)) (hn : qs.length = n) (hy : ys.length = n) : ∀ i, i < k + n -> IntAt w L (av (gp (ps ++ qs) i)) (gi (xs ++ ys) i) := fun i hi => by
 by_cases e : i < k
 · have := h i e;rw [gp_eq (by omega), gi_eq (by omega)] at this;rw [gp_eq (by simp; omega), gi_eq (by simp; omega), List.getElem_append_left (by omega), List.getElem_append_left (by omega)]; exact this
 · have := g (i - k) (by omega);rw [gp_eq (by omega), gi_eq (by omega)] at this;rw [gp_eq (by simp; omega), gi_eq (by simp; omega), List.getElem_append_right (by omega), List.getElem_append_right (by omega)];simp only [hp, hx]; exact this
section
variable {ops : Array Oper} {Q : Exit -> Act -> World -> Prop} {S0 : Nat -> Prop} {w0 : World} {E0 : List En} {hd : List (List Nat)} {n j s : Nat} {l : List Nat} {G E : List En} {ls : List (Nat × Value)} {ty : TypeId} {pos : String} {af : Array Edge}
theorem appL {i k cap cg L : Nat} {ao go : Option Addr} {ps : List P4} {ys : List Int} {sa xa : Operand} {E' : Option Addr × Nat × List P4 -> List En} (hb : k + ys.length <= 100000000)
 (hg : ∀ w, Fr S0 w0 w (G ++ E) -> LsAt w L go ys)
 (k' : ∀ q, RWs ⟨Tryz.prog, ops, Q, S0, w0, E0, hd⟩ n l (.pr (q.2.2.length = ys.length) :: .ia L ys.length q.2.2 ys :: G) (E' q) ((s, .slice q.1 (k + ys.length) q.2.1) :: ls))
 (ho : ops[j]? = some ⟨some s, .call { callee := Callee.builtin Builtin.append, args := #[sa, xa], argTypes := #[22, 22] }, ty, pos, af, none⟩ := by rfl) (hk : (chkO ls (.call { callee := Callee.builtin Builtin.append, args := #[sa, xa], argTypes := #[22, 22] }) && Nat.blt s n) = true := by kernel_rfl)
 (ha : evl ls sa = .slice ao k cap := by (simp only [evlN, Nat.reduceEqDiff, ↓reduceIte]) <;> rfl)
 (hv : evl ls xa = .slice go ys.length cg := by (simp only [evlN, Nat.reduceEqDiff, ↓reduceIte, av]) <;> rfl)
 (hE : ∀ q, Up (.lst ao k cap ps) (.lst q.1 (k + ys.length) q.2.1 (ps ++ q.2.2)) i E (E' q) := by intro q; repeat first | exact .z | apply Up.s)
 (hst : okSt ops hd j [i] = true := by kernel_rfl) : RWs ⟨Tryz.prog, ops, Q, S0, w0, E0, hd⟩ n (j :: l) G E ls := fun a hA => by
 simp only [Bool.and_eq_true] at hk;refine ⟨_, ho, .inr (.inr ⟨rfl, rfl, Option Addr × Nat × List P4, fun q => .slice q.1 (k + ys.length) q.2.1, fun q => .pr (q.2.2.length = ys.length) :: .ia L ys.length q.2.2 ys :: G, E', [i], ⟨(none, 0, [])⟩, fun X w hX hw => ?_, hst, fun q r hr => (hE q).other (by simpa using hr), fun q => k' q _ (hA.put (Nat.le_of_ble_eq_true hk.2) _)⟩)⟩;have hl : LstF ao k cap ps w := by
  obtain ⟨m, h1, h2⟩ := (hE (none, 0, [])).right' X G;exact (hw.perm h1).all _ (List.mem_cons_self ..)
 obtain ⟨ao', cap', qs, w', hrun, h1', hql, hI, hc, hS⟩ := app_runL (ty := ty) (cg := cg) hl hb (hg w (hw.sub (List.sublist_append_right ..)));obtain ⟨m, h1, h2⟩ := (hE (ao', cap', qs)).right' X G;refine ifw rfl ?_;show wpR _ _ ((execOp a.eval _).run _ w);rw [hA.exec (o := ⟨some s, .call { callee := Callee.builtin Builtin.append, args := #[sa, xa], argTypes := #[22, 22] }, ty, pos, af, none⟩) hk.1];have e : (execOp (evl ls) ⟨some s, .call { callee := Callee.builtin Builtin.append, args := #[sa, xa], argTypes := #[22, 22] }, ty, pos, af, none⟩).run Tryz.prog w = .ok (.value (.slice ao' (k + ys.length) cap')) w' := by
  simp [execOp, resolve, invoke, builtin, ha, hv, hrun, Result.andThen]
 rw [e];have hf := (hw.perm h1).upd (e := .lst ao k cap ps) (e' := .lst ao' (k + ys.length) cap' (ps ++ qs)) rfl hc (fun x hx _ => by
  rintro b ⟨o, rfl⟩;obtain ⟨_, _, ⟨h, _⟩ | ⟨b', tl, h, ht, hr, _⟩⟩ := hl
  · cases h
  · cases h; exact ⟨_, _, hr, NoW.rn ht, by decide⟩) (fun _ h => h) h1' hS
 have hf2 := ((hf.perm h2.symm).pure (e := .ia L ys.length qs ys) hI (fun _ h => h)).pure (e := .pr (qs.length = ys.length)) hql (fun _ h => h);refine ⟨(ao', cap', qs), rfl, hf2.perm ?_⟩;show (En.pr (qs.length = ys.length) :: .ia L ys.length qs ys :: (X ++ (G ++ E' (ao', cap', qs)))).Perm (X ++ (En.pr (qs.length = ys.length) :: .ia L ys.length qs ys :: (G ++ E' (ao', cap', qs))));exact (List.Perm.cons _ (List.perm_middle (l₁ := X) (l₂ := G ++ E' (ao', cap', qs))).symm).trans (List.perm_middle (l₁ := X)).symm
end
def fitB (r : Int) (xs : List Int) : Bool := decide (0 <= r /\ r <= 64 /\ xs.length <= 64) && xs.all fun x => decide (0 < x)
theorem all_take {p : Int -> Bool} {xs : List Int} {i : Nat} (h : i < xs.length) : (xs.take (i + 1)).all p = ((xs.take i).all p && p (gi xs i)) := by
 rw [List.take_succ_eq_append_getElem h, List.all_append, gi_eq h]; simp
theorem LsAt.up {w : World} {L L' : Nat} {ao : Option Addr} {xs : List Int} (h : LsAt w L ao xs) (hL : L <= L') : LsAt w L' ao xs := fun hl => by
 obtain ⟨b, o, e, hlt, hc⟩ := h hl;exact ⟨b, o, e, hlt, fun i hi => by obtain ⟨p, h0, h1, hn⟩ := hc i hi; exact ⟨p, h0, h1, hn.mono hL⟩⟩
structure FtX where
 i : Nat
 b : Bool
structure FtI (n : Nat) (b0 : Bool) (xs : List Int) (z : FtX) : Prop where
 hi : z.i <= n
 hb : z.b = (b0 && (xs.take z.i).all fun x => decide (0 < x))
set_option maxRecDepth 100000 in
set_option maxHeartbeats 1000000 in
theorem GFit_c (r : Int) (la : Option Addr) (ca L : Nat) (xs : List Int) (w : World) (hA : LsAt w L la xs) (hL : L <= 17592186044415) (hn : xs.length <= 8796093022208) :
 Calls Tryz.prog 18 #[.int .i64 r, .slice la xs.length ca] w fun e w' => e = .returned (.bool (fitB r xs)) /\ Below w.heap.size w w' := by
 obtain ⟨R, hR⟩ : ∃ R, fitB r xs = R := ⟨_, rfl⟩;rw [hR];unfold fitB at hR;obtain ⟨n, hnn⟩ : ∃ n, xs.length = n := ⟨_, rfl⟩;rw [hnn] at hn hR ⊢;have HR := Lib.hid hR;have HN := Lib.hid hnn;clear hnn hR;refine funW (S0 := fun _ => False) Tryz.func18 ((Fr.nil _ w).l hA (by simp)) ?_;refine goW ?_;refine rW [] ?_;refine dW ?_;refine eW ?_;refine nextW (seqW (joinW (X := Bool) (fun b => b = decide (0 <= r /\ r <= 64 /\ n <= 64)) (fun b => [(5, .bool b), (1, .slice la n ca)]) (fun _ => [.ls L la xs]) ?_ fun z hz => ?_))
 · by_cases h0 : 0 <= r
   · refine goW ?_;refine rW [] ?_;refine dW ?_;refine dB true ?_;by_cases h1 : r <= 64
     · refine dW ?_;refine dG ?_;refine dGB true ?_;by_cases h2 : n <= 64
       · have h2' : (n : Int) <= 64 := by omega
         refine dW ?_;refine dW ?_;refine dG ?_;refine dG ?_;refine dGB true ?_;refine dW ?_;refine dW ?_;refine eW ?_;refine goW ?_;exact joinE true (decide_eq_true ⟨h0, h1, h2⟩).symm
       · have h2' : ¬ (n : Int) <= 64 := by omega
         refine dW ?_;refine dW ?_;refine dG ?_;refine dG ?_;refine dGB false ?_;refine dW ?_;refine dW ?_;refine eW ?_;refine goW ?_;exact joinE false (decide_eq_false fun q => h2 q.2.2).symm
     · refine dW ?_;refine dG ?_;refine dGB false ?_;refine dW ?_;refine dW ?_;refine uG ?_;refine uG ?_;refine uG ?_;refine dW ?_;refine dW ?_;refine eW ?_;refine goW ?_;exact joinE false (decide_eq_false fun q => h1 q.2.1).symm
   · refine goW ?_;refine rW [] ?_;refine dW ?_;refine dB false ?_;refine dW ?_;refine uG ?_;refine uG ?_;refine dW ?_;refine dW ?_;refine uG ?_;refine uG ?_;refine uG ?_;refine dW ?_;refine dW ?_;refine eW ?_;refine goW ?_;exact joinE false (decide_eq_false fun q => h0 q.1).symm
 · have HZ := Lib.hid hz;clear hz;refine goW ?_;refine rW [] ?_;refine dW ?_;refine dW ?_;refine dW ?_;refine eW ?_;refine goW ?_;refine loopW (X := FtX) (FtI n z xs) (fun x => n - x.i) (fun x => [(21, .int .i64 (x.i : Int)), (20, .int .i64 (n : Int)), (19, .slice la n ca), (5, .bool x.b)]) (fun _ => [.ls L la xs]) ⟨0, z⟩ ⟨Nat.zero_le _, by simp⟩ fun x hx => ?_;obtain ⟨i, b⟩ := x;obtain ⟨hi, hb⟩ := hx
   replace hi : i <= n := hi
   replace hb : b = (z && (xs.take i).all fun x => decide (0 < x)) := hb
   have HB := Lib.hid hb;clear hb;by_cases h : i < n
   · obtain ⟨bx, ox, rfl⟩ := hA.pos (i := i) (by rw [HN.out]; exact h);have h01 : (i : Int) < (n : Int) := by omega
     have HT := Lib.hid (all_take (p := fun x => decide (0 < x)) (xs := xs) (i := i) (by rw [HN.out]; exact h));refine goW ?_;refine rW [] ?_;refine dB true ?_;refine eW ?_;refine goW ?_;refine numW (L := L) (xs := xs) (b := bx) (o := ox) i (by simp) (by rw [HN.out]; exact h) fun p => ?_;refine ctW ?_;by_cases hb : b = true
     · subst hb;refine goW ?_;refine rW [] ?_;refine dW ?_;refine dW ?_;refine aW fun g7 => ?_;refine sG ?_;refine eW ?_;refine goW ?_;refine rW [] ?_;refine dW ?_;refine dW ?_;refine dG ?_;refine cVg (v := .int .i64 (zsign (gi xs i))) (fun w' H => ISign_c _ _ w' (H.m3.mono hL)) ?_;by_cases hp : 0 < gi xs i
       · have hs : 0 < zsign (gi xs i) := by unfold zsign; rw [if_neg (by omega), if_neg (by omega)]; decide
         refine dGB true ?_;refine dW ?_;refine dW ?_;refine eW ?_;refine goW ?_;refine rW [] ?_;refine dE (incB (a := i) (by omega)) ?_;refine dW ?_;refine eW ?_;refine goW ?_;exact backW (⟨i + 1, true⟩ : FtX) ⟨⟨h, by rw [HT.out, <- Bool.and_assoc, <- HB.out, decide_eq_true hp]; rfl⟩, by show n - (i + 1) < n - i; omega⟩
       · have hs : ¬ 0 < zsign (gi xs i) := fun q => hp (by unfold zsign at q; split at q; omega; split at q <;> omega);refine dGB false ?_;refine dW ?_;refine dW ?_;refine eW ?_;refine goW ?_;refine rW [] ?_;refine dE (incB (a := i) (by omega)) ?_;refine dW ?_;refine eW ?_;refine goW ?_;exact backW (⟨i + 1, false⟩ : FtX) ⟨⟨h, by rw [HT.out, <- Bool.and_assoc, <- HB.out, decide_eq_false hp]; rfl⟩, by show n - (i + 1) < n - i; omega⟩
     · obtain rfl : b = false := by simpa using hb
       refine goW ?_;refine rW [] ?_;refine dW ?_;refine dW ?_;refine aW fun g7 => ?_;refine sG ?_;refine eW ?_;refine goW ?_;refine rW [] ?_;refine dW ?_;refine dW ?_;refine uG ?_;refine uC ?_;refine uG ?_;refine dW ?_;refine dW ?_;refine eW ?_;refine goW ?_;refine rW [] ?_;refine dE (incB (a := i) (by omega)) ?_;refine dW ?_;refine eW ?_;refine goW ?_;exact backW (⟨i + 1, false⟩ : FtX) ⟨⟨h, by rw [HT.out, <- Bool.and_assoc, <- HB.out]; rfl⟩, by show n - (i + 1) < n - i; omega⟩
   · obtain rfl : i = n := by omega
     refine goW ?_;refine rW [] ?_;refine dB false ?_;refine eW ?_;refine goW ?_;refine cfW ?_;refine goW ?_;refine rW [] ?_;refine dW ?_;refine dW ?_;refine eW ?_;refine goW ?_;refine fin1 fun w' H => ?_;exact ⟨_, rvT, by rw [HB.out, List.take_of_length_le (by rw [HN.out]; exact Nat.le_refl _), HZ.out, HR.out], H.below⟩
def lead : List Int -> Nat
 | [] => 0
 | x :: xs => if x = 0 then lead xs + 1 else 0
theorem lead_le : ∀ xs : List Int, lead xs <= xs.length
 | [] => Nat.le_refl _
 | x :: xs => by
  unfold lead; split
  · have := lead_le xs; simp; omega
  · simp
theorem lead_of : ∀ (xs : List Int) (k : Nat) (h : k < xs.length), (∀ i (h' : i < k), xs[i]'(by omega) = 0) -> xs[k] ≠ 0 -> lead xs = k
 | x :: xs, 0, _, _, hn => by unfold lead; rw [if_neg]; simpa using hn
 | x :: xs, k + 1, h, hz, hn => by
  have h0 : x = 0 := hz 0 (by omega);unfold lead; rw [if_pos h0, lead_of xs k (by simpa using h) (fun i hi => by have := hz (i + 1) (by omega); simpa using this) (by simpa using hn)]
theorem lead_all : ∀ (xs : List Int), (∀ i (h : i < xs.length), xs[i] = 0) -> lead xs = xs.length
 | [], _ => rfl
 | x :: xs, hz => by
  have h0 : x = 0 := hz 0 (by simp);unfold lead; rw [if_pos h0, lead_all xs (fun i hi => by have := hz (i + 1) (by simpa using hi); simpa using this)]; rfl
set_option maxRecDepth 100000 in
set_option maxHeartbeats 4000000 in
theorem Lead_c (b cap : Nat) (xs : List Int) (w : World) (hR : RowN w b xs) (hL : ∀ x ∈ xs, wlen x.natAbs <= 17592186044415) (hlen : xs.length <= 9223372036854775807) :
 Calls Tryz.prog 100 #[.slice (some ⟨b, 0, none⟩) xs.length cap] w fun e w' => e = .returned (.int .i64 (lead xs : Nat)) /\ Below w.heap.size w w' := by
 have HL := Lib.hid hL; clear hL;have HR := Lib.hid hR; clear hR;go_enter Tryz.func100, Tryz.ntmps100;go_wp2;go_loopw [7] (fun i wr => ∃ k : Nat, k <= xs.length /\ i = .int .i64 (k : Int) /\ Hid (∀ j (h : j < k) (h' : j < xs.length), xs[j] = 0) /\ Below w.heap.size w wr) (fun i _ => xs.length - (intOf i).toNat)
 case atStart => exact ⟨0, Nat.zero_le _, rfl, fun j h => by omega, Below.refl _ _⟩
 case round =>
  obtain ⟨k, hk, rfl, hz, hb⟩ := hrel;by_cases hkl : k < xs.length
  · have hR2 := HR.out.below hb;obtain ⟨p, hc0, hc1, hn⟩ := hR2.get hkl;have hkl' : (k : Int) < (xs.length : Int) := by omega
    have HN := Lib.hid hn;clear hn;go_wp2_with fail
    have hb1 : Below wr.heap.size wr (wr.alloc (.cells #[.bool p.fst, .slice p.snd.fst p.snd.snd.fst p.snd.snd.snd] 37)) := (Below.refl _ _).alloc (Nat.le_refl _) _;refine (ISign_c (av p) xs[k] _ ((HN.out.int (HL.out _ (List.getElem_mem hkl))).below hb1)).mono ?_;rintro e w2 ⟨rfl, hb2⟩;have hb3 : Below w.heap.size w w2 := hb.trans ((hb1.trans (hb2.mono hb1.size)).mono hb.size);have HB3 := Lib.hid hb3;clear hb1 hb2 hb3 hc0 hc1;by_cases h0 : xs[k] = 0
    · have hz0 : zsign xs[k] = 0 := zsign_beq.2 h0;rw [hz0];have H0 := Lib.hid h0;clear h0 hz0;go_wp2;go_roundw
      case rel => exact ⟨k + 1, by omega, by go_num, Lib.hid (fun j hj hj' => (Nat.lt_succ_iff_lt_or_eq.1 hj).elim (fun h => hz.out j h hj') (fun h => by subst h; exact H0.out)), HB3.out⟩
      case measure => simp [intOf]; omega
    · have hn0 : ¬ zsign xs[k] = 0 := fun h => h0 (zsign_beq.1 h);have hle := lead_of xs k hkl (fun i h' => hz.out i h' (by omega)) h0;have HLE := Lib.hid hle;obtain ⟨s, hs⟩ : ∃ s, zsign xs[k] = s := ⟨_, rfl⟩;rw [hs] at hn0 ⊢;have hb0 : (s != 0) = true := by simpa using hn0
      clear h0 hle hs;go_wp2;go_ret;rw [HLE.out];exact ⟨rfl, HB3.out⟩
  · obtain rfl : k = xs.length := by omega
    have hle := lead_all xs (fun i h => hz.out i h h);have HLE := Lib.hid hle;clear hle;go_wp2;go_ret;rw [HLE.out];exact ⟨rfl, hb⟩
theorem Chg.rowN {S : Nat -> Prop} {w w' : World} (h : Chg S w w') (hS : Wordless S w) {b : Nat} {xs : List Int} (hx : RowN w b xs) (hb : ¬ S b) : RowN w' b xs := by
 obtain ⟨ps, tl, nt, hr, hl, hn⟩ := hx;exact ⟨ps, tl, nt, h.row hr hb, hl, fun i h1 h2 => h.num hS (hn i h1 h2)⟩
theorem RowN.wordless {w : World} {b : Nat} {xs : List Int} (h : RowN w b xs) : Wordless (· = b) w := by
 rintro g rfl;obtain ⟨ps, tl, nt, hr, _⟩ := h;exact ⟨_, _, hr, flat_app nt⟩
def addRow (k : Int) (xs ys : List Int) : List Int := List.zipWith (fun x y => k * y + x) xs ys
def AddTo (k : Int) (xs ys cu : List Int) (m : Nat) : Prop := cu.length = xs.length /\ (∀ j (h : j < cu.length) (h1 : j < xs.length) (h2 : j < ys.length), j < m -> cu[j] = k * ys[j] + xs[j]) /\ (∀ j (h : j < cu.length) (h1 : j < xs.length), m <= j -> cu[j] = xs[j])
theorem AddTo.start (k : Int) (xs ys : List Int) : AddTo k xs ys xs 0 := ⟨rfl, fun _ _ _ _ h => by omega, fun _ _ _ _ => rfl⟩
theorem AddTo.next {k : Int} {xs ys cu : List Int} {m : Nat} (h : AddTo k xs ys cu m) (hm : m < xs.length) (hl : xs.length = ys.length) : AddTo k xs ys (cu.set m (k * ys[m] + xs[m])) (m + 1) := by
 obtain ⟨h1, h2, h3⟩ := h;refine ⟨by simpa using h1, fun j hj hx hy hjm => ?_, fun j hj hx hjm => ?_⟩
 · rw [List.getElem_set];split
   · rename_i e; subst e; rfl
   · exact h2 j (by simpa using hj) hx hy (by omega)
 · rw [List.getElem_set, if_neg (by omega)];exact h3 j (by simpa using hj) hx (by omega)
theorem AddTo.skip {k : Int} {xs ys cu : List Int} {m : Nat} (h : AddTo k xs ys cu m) (hm : m < xs.length) (hl : xs.length = ys.length) (h0 : ys[m] = 0) : AddTo k xs ys cu (m + 1) := by
 obtain ⟨h1, h2, h3⟩ := h;refine ⟨h1, fun j hj hx hy hjm => ?_, fun j hj hx hjm => h3 j hj hx (by omega)⟩;by_cases e : j = m
 · subst e; rw [h3 j hj hx (Nat.le_refl _), h0]; simp
 · exact h2 j hj hx hy (by omega)
theorem AddTo.all {k : Int} {xs ys cu : List Int} (h : AddTo k xs ys cu xs.length) (hl : xs.length = ys.length) : cu = addRow k xs ys := by
 obtain ⟨h1, h2, h3⟩ := h;refine List.ext_getElem (by simp [addRow, h1, <- hl]) fun j hj hj' => ?_;rw [h2 j hj (by omega) (by omega) (by omega)];simp [addRow]
set_option maxRecDepth 100000 in
set_option maxHeartbeats 4000000 in
theorem LAdd_c (bx by_ cx cy LA LB : Nat) (xs ys : List Int) (kv : Value) (k : Int) (w : World) (hX : RowN w bx xs) (hY : RowN w by_ ys) (hK : IntAt w LA kv k) (hne : bx ≠ by_) (hl : xs.length = ys.length)
 (hxL : ∀ x ∈ xs, wlen x.natAbs <= 17592186044415) (hyL : ∀ y ∈ ys, wlen y.natAbs <= LB) (hLab : LA + LB <= 17592186044415) (hlen : xs.length <= 4611686018427387903) :
 Calls Tryz.prog 97 #[.slice (some ⟨bx, 0, none⟩) xs.length cx, .slice (some ⟨by_, 0, none⟩) ys.length cy, kv] w fun e w' => e = .returned (.tuple #[]) /\ RowN w' bx (addRow k xs ys) /\ Chg (· = bx) w w' := by
 obtain ⟨kp, rfl⟩ := hK.parts;have HX := Lib.hid hX; clear hX;have HY := Lib.hid hY; clear hY;have HK := Lib.hid hK; clear hK;have HXL := Lib.hid hxL; clear hxL;have HYL := Lib.hid hyL; clear hyL;have Hl := Lib.hid hl; clear hl;go_enter Tryz.func97, Tryz.ntmps97;unfold av at *;go_wp2;have hb1 : Below w.heap.size w (w.alloc (.cells #[.bool kp.1, .slice kp.2.1 kp.2.2.1 kp.2.2.2] 37)) := (Below.refl _ _).alloc (Nat.le_refl _) _;have hr1 := RowAt.new w #[.bool kp.1, .slice kp.2.1 kp.2.2.1 kp.2.2.2] 37;generalize w.alloc (.cells #[.bool kp.1, .slice kp.2.1 kp.2.2.1 kp.2.2.2] 37) = w1 at *;have HB1 := Lib.hid (Chg.of_below (S := (· = bx)) hb1);have HX1 := Lib.hid (HX.out.below hb1);have HY1 := Lib.hid (HY.out.below hb1);have HK1 := Lib.hid (HK.out.below hb1);have HR1 := Lib.hid hr1;have hs1 : w.heap.size < w1.heap.size := hr1.lt;have hbx := HX.out.lt;have hby := HY.out.lt;clear hr1 hb1;go_loopw [9] (fun i wr => ∃ (m : Nat) (cu : List Int), m <= xs.length /\ i = .int .i64 (m : Int) /\ Hid (AddTo k xs ys cu m) /\ Hid (RowN wr bx cu) /\ Hid (RowN wr by_ ys) /\ Hid (RowAt wr w.heap.size 37 [.bool kp.1, .slice kp.2.1 kp.2.2.1 kp.2.2.2]) /\ Hid (IntAt wr LA (av kp) k) /\ Hid (Chg (· = bx) w wr)) (fun i _ => xs.length - (intOf i).toNat)
 case atStart => exact ⟨0, xs, Nat.zero_le _, rfl, AddTo.start .., HX1, HY1, HR1, HK1, HB1⟩
 case round =>
  obtain ⟨m, cu, hm, rfl, HA, hX, hY, hR, hK, hC⟩ := hrel;by_cases hml : m < xs.length
  · have hmy : m < ys.length := by have := Hl.out; omega
    have hmx : m < cu.length := by rw [HA.out.1]; exact hml
    have hm1 : (m : Int) < (ys.length : Int) := by omega
    have hm2 : (m : Int) < (xs.length : Int) := by omega
    obtain ⟨py, cy0, cy1, hny⟩ := hY.out.get hmy;have Hny := Lib.hid hny; clear hny;go_wp2_with fail
    refine (ISign_c (av py) ys[m] _ (Hny.out.int (by have := HYL.out _ (List.getElem_mem hmy); omega))).mono ?_;rintro e w2 ⟨rfl, hb2⟩;clear cy0 cy1;have X2 := Lib.hid (hX.out.below hb2);have Y2 := Lib.hid (hY.out.below hb2);have R2 := Lib.hid (hR.out.below hb2 hR.out.lt);have K2 := Lib.hid (hK.out.below hb2);have C2 := Lib.hid (hC.out.below hb2);have N2 := Lib.hid (Hny.out.below hb2);have hsw := hC.out.size;have hsw2 := hb2.size;have hswr := hR.out.lt;clear hX hY hR hK hC Hny hb2;by_cases h0 : ys[m] = 0
    · have hz0 : zsign ys[m] = 0 := zsign_beq.2 h0;rw [hz0];have H0 := Lib.hid h0;clear h0 hz0;go_wp2;go_roundw
      case rel => exact ⟨m + 1, cu, by omega, by go_num, HA.out.skip hml Hl.out H0.out, X2, Y2, R2, K2, C2⟩
      case measure => simp [intOf]; omega
    · have hn0 : ¬ zsign ys[m] = 0 := fun h => h0 (zsign_beq.1 h);obtain ⟨s, hs⟩ : ∃ s, zsign ys[m] = s := ⟨_, rfl⟩;rw [hs] at hn0 ⊢;have hb0 : (s != 0) = true := by simpa using hn0
      clear h0 hs;go_wp2;clear hb0 hn0;obtain ⟨px, cx0, cx1, hnx⟩ := X2.out.get hmx;obtain ⟨py, cy0, cy1, hny⟩ := Y2.out.get hmy;have ck0 : w2.cell? ⟨w.heap.size, 0, none⟩ = some (.bool kp.1) := R2.out.cell 0;have ck1 : w2.cell? ⟨w.heap.size, 1, none⟩ = some (.slice kp.2.1 kp.2.2.1 kp.2.2.2) := R2.out.cell 1;have hbx2 := X2.out.lt;have hby2 := Y2.out.lt;have hsk2 := R2.out.lt;have hxe : cu[m] = xs[m] := HA.out.2.2 m hmx hml (Nat.le_refl _);have hxw : wlen (cu[m]).natAbs <= 17592186044415 := by rw [hxe]; exact HXL.out _ (List.getElem_mem hml)
      have hyw : wlen (ys[m]).natAbs <= LB := HYL.out _ (List.getElem_mem hmy);have HXE := Lib.hid hxe; clear hxe;have Hnx := Lib.hid (hnx.int hxw); clear hnx;have Hny := Lib.hid (hny.int hyw); clear hny;clear N2;refine wp_region_K ⟨13, fun q_ => [18, 19, 20, 21, 22, 23, 24, 25, 26, 27, 28, 29, 30].getD q_ 0,
       fun q_ => [.val (.slice (some ⟨bx, 0, none⟩) xs.length cx), .val (.int .i64 (m : Int)), .val (.agg #[.bool kp.1, .slice kp.2.1 kp.2.2.1 kp.2.2.2]), .val (.slice (some ⟨by_, 0, none⟩) ys.length cy), .val (.int .i64 (m : Int)), .val (.pointer (some ⟨by_, m * 2, none⟩)), .val (.agg #[.bool py.1, .slice py.2.1 py.2.2.1 py.2.2.2]), .val (.slice (some ⟨bx, 0, none⟩) xs.length cx), .val (.int .i64 (m : Int)), .val (.pointer (some ⟨bx, m * 2, none⟩)), .val (.agg #[.bool px.1, .slice px.2.1 px.2.2.1 px.2.2.2]), .int 0 (k * ys[m] + cu[m]), .val (.pointer (some ⟨bx, m * 2, none⟩))].getD q_ .any,
       [],
       [(.agg #[.bool kp.1, .slice kp.2.1 kp.2.2.1 kp.2.2.2], .at_ LA k), (.agg #[.bool py.1, .slice py.2.1 py.2.2.1 py.2.2.2], .at_ LB ys[m]), (.agg #[.bool px.1, .slice px.2.1 px.2.2.1 px.2.2.2], .at_ 17592186044415 cu[m])],
       [],
       [], [(⟨w.heap.size, 0, none⟩, .bool kp.1), (⟨w.heap.size, 1, none⟩, .slice kp.2.1 kp.2.2.1 kp.2.2.2), (⟨by_, m * 2, none⟩, .bool py.1), (⟨by_, m * 2 + 1, none⟩, .slice py.2.1 py.2.2.1 py.2.2.2), (⟨bx, m * 2, none⟩, .bool px.1), (⟨bx, m * 2 + 1, none⟩, .slice px.2.1 px.2.2.1 px.2.2.2)], []⟩ [18, 19, 20, 21, 22, 23, 24, 25, 26, 27, 28, 29, 30] (w2.heap.size) (by kernel_rfl) (by kernel_rfl) (by kernel_rfl) (by kernel_rfl) (by kernel_rfl) ?_ ?_ ?_ ?_ ?_ ?_
      · exact allq (K2.out) (allq (Hny.out) (allq (Hnx.out) allz))
      · exact allz
      · exact allq (⟨ck0, by dsimp only; omega, allz⟩) (allq (⟨ck1, by dsimp only; omega, allz⟩) (allq (⟨cy0, by dsimp only; omega, allz⟩) (allq (⟨cy1, by dsimp only; omega, allz⟩) (allq (⟨cx0, by dsimp only; omega, allz⟩) (allq (⟨cx1, by dsimp only; omega, allz⟩) allz)))))
      · exact allz
      · refine allc ?_ (allc ?_ (allc ?_ (allc ?_ (allc ?_ (allc ?_ (allc ?_ (allc ?_ (allc ?_ (allc ?_ (allc ?_ (allc ?_ (allc ?_ alln))))))))))));any_goals (first | (intro L fx w' hJ hL hp hcl; have _ := hp0 hp (by decide +kernel); refine wps rfl fun K hK => ?_; go_simp; exact hJ.q hK (by kernel_rfl) rfl) | fail)
        · intro L fx w' hJ hL hp hcl;refine wps rfl fun K hK => ?_;have cl0 := (hJ.cells _ mm0).1;have cl1 := (hJ.cells _ mm1).1;try dsimp only at cl0 cl1
          go_simp;exact hJ.q hK (by kernel_rfl) rfl
        · intro L fx w' hJ hL hp hcl;have e3 := hJ.pt 3 21 (.slice (some ⟨by_, 0, none⟩) ys.length cy) rfl rfl rfl (hp 3 (by decide));rw [e3] at hJ ⊢; clear e3;have e4 := hJ.pt 4 22 (.int .i64 (m : Int)) rfl rfl rfl (hp 4 (by decide));rw [e4] at hJ ⊢; clear e4;refine wps rfl fun K hK => ?_;go_simp;exact hJ.q hK (by kernel_rfl) rfl
        · intro L fx w' hJ hL hp hcl;have e5 := hJ.pt 5 23 (.pointer (some ⟨by_, m * 2, none⟩)) rfl rfl rfl (hp 5 (by decide));rw [e5] at hJ ⊢; clear e5;refine wps rfl fun K hK => ?_;have cl0 := (hJ.cells _ mm2).1;have cl1 := (hJ.cells _ mm3).1;try dsimp only at cl0 cl1
          go_simp;exact hJ.q hK (by kernel_rfl) rfl
        · intro L fx w' hJ hL hp hcl;have e7 := hJ.pt 7 25 (.slice (some ⟨bx, 0, none⟩) xs.length cx) rfl rfl rfl (hp 7 (by decide));rw [e7] at hJ ⊢; clear e7;have e8 := hJ.pt 8 26 (.int .i64 (m : Int)) rfl rfl rfl (hp 8 (by decide));rw [e8] at hJ ⊢; clear e8;refine wps rfl fun K hK => ?_;go_simp;exact hJ.q hK (by kernel_rfl) rfl
        · intro L fx w' hJ hL hp hcl;have e9 := hJ.pt 9 27 (.pointer (some ⟨bx, m * 2, none⟩)) rfl rfl rfl (hp 9 (by decide));rw [e9] at hJ ⊢; clear e9;refine wps rfl fun K hK => ?_;have cl0 := (hJ.cells _ mm4).1;have cl1 := (hJ.cells _ mm5).1;try dsimp only at cl0 cl1
          go_simp;exact hJ.q hK (by kernel_rfl) rfl
        · intro L fx w' hJ hL hp hcl;have e2 := hJ.pt 2 20 (.agg #[.bool kp.1, .slice kp.2.1 kp.2.2.1 kp.2.2.2]) rfl rfl rfl (hp 2 (by decide));rw [e2] at hJ ⊢; clear e2;have e6 := hJ.pt 6 24 (.agg #[.bool py.1, .slice py.2.1 py.2.2.1 py.2.2.2]) rfl rfl rfl (hp 6 (by decide));rw [e6] at hJ ⊢; clear e6;have e10 := hJ.pt 10 28 (.agg #[.bool px.1, .slice px.2.1 px.2.2.1 px.2.2.2]) rfl rfl rfl (hp 10 (by decide));rw [e10] at hJ ⊢; clear e10;refine wps rfl fun K hK => ?_;go_simp;go_at_call 104;refine (IMulAdd_c _ _ _ k ys[m] cu[m] LA LB _ (show IntAt w' (LA) (.agg #[.bool kp.1, .slice kp.2.1 kp.2.2.1 kp.2.2.2]) (k) from hJ.base _ mm0) (show IntAt w' (LB) (.agg #[.bool py.1, .slice py.2.1 py.2.2.1 py.2.2.2]) (ys[m]) from hJ.base _ mm1) (show IntAt w' (17592186044415) (.agg #[.bool px.1, .slice px.2.1 px.2.2.1 px.2.2.2]) (cu[m]) from hJ.base _ mm2) hLab).mono ?_;rintro e w4 ⟨⟨v5, rfl, h5⟩, hb4⟩;try dsimp only
          exact hK _ _ ⟨_, by kernel_rfl, hJ.gC 11 rfl (by kernel_rfl) hb4 (OwnI.mono h5 (Nat.zero_le _)) (by omega)⟩
        · intro L fx w' hJ hL hp hcl;have e0 := hJ.pt 0 18 (.slice (some ⟨bx, 0, none⟩) xs.length cx) rfl rfl rfl (hp 0 (by decide));rw [e0] at hJ ⊢; clear e0;have e1 := hJ.pt 1 19 (.int .i64 (m : Int)) rfl rfl rfl (hp 1 (by decide));rw [e1] at hJ ⊢; clear e1;refine wps rfl fun K hK => ?_;go_simp;exact hJ.q hK (by kernel_rfl) rfl
      · intro L x' w3 hL hJ;have hfr : Below w2.drew.heap.size w2.drew w3 := hJ.fr;have e11 : OwnI w3 0 (x' 29) (k * ys[m] + cu[m]) := hJ.slot 11 (by show 11 < 13; decide) (hL 11 (by show 11 < 13; decide));have e12 : x' 30 = .pointer (some ⟨bx, m * 2, none⟩) := hJ.slot 12 (by show 12 < 13; decide) (hL 12 (by show 12 < 13; decide));obtain ⟨pz, hpz⟩ := NumAt.parts e11.num;rw [hpz] at e11;unfold av at hpz;rw [patchX (x := x') (d := 29) hpz];rw [patchX (x := updX x' 29 (.agg #[.bool pz.1, .slice pz.2.1 pz.2.2.1 pz.2.2.2])) (d := 30) (v := .pointer (some ⟨bx, m * 2, none⟩)) e12];clear hJ hL;have X3 := Lib.hid (RowN.below (w := w2.drew) X2.out hfr);have Y3 := Lib.hid (RowN.below (w := w2.drew) Y2.out hfr);have R3 := Lib.hid (RowAt.below (w := w2.drew) R2.out hfr R2.out.lt);have K3 := Lib.hid (IntAt.below (w := w2.drew) K2.out hfr);have C3 := Lib.hid (C2.out.drew.below hfr);obtain ⟨pq, q0, q1, _⟩ := X3.out.get hmx;have q2 := X3.out.free (m * 2);have q3 := X3.out.free (m * 2 + 1);refine wps rfl fun K hK => ?_;go_simp;refine hK _ _ ⟨⟨updX (updX x' 29 (.agg #[.bool pz.1, .slice pz.2.1 pz.2.2.1 pz.2.2.2])) 30 (.pointer (some ⟨bx, m * 2, none⟩)), by kernel_rfl⟩, ?_⟩;clear hK q0 q1 q2 q3;go_wp2;go_roundw
        case rel =>
         refine ⟨m + 1, _, by omega, by go_num, ?_, Lib.hid (X3.out.set m e11.num), Lib.hid (X3.out.keepRow Y3.out (fun e => hne e.symm) m pz), Lib.hid ((R3.out.other (by show w.heap.size ≠ bx; omega) _).other (by show w.heap.size ≠ bx; omega) _), Lib.hid (X3.out.keepInt K3.out m pz), Lib.hid ((C3.out.set rfl _).set rfl _)⟩;rw [HXE.out];exact HA.out.next hml Hl.out
        case measure => simp [intOf]; omega
  · obtain rfl : m = xs.length := by omega
    have he := HA.out.all Hl.out;have HE := Lib.hid he;clear he;go_wp2;refine bodyPost_end (results_none (by kernel_rfl) _ _ _) rfl ?_;rw [<- HE.out];exact ⟨rfl, hX.out, hC.out⟩
end Go.Proofs.YtghpbpclamfigaaGreat
