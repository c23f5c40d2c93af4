/- Part 3 of 7 of the proof that the law SnfChain returns true for every input of bulk at most 1048576 and leaves its arguments as they were: here the contracts of the functions that it calls, and plain lemmas. -/
import Derived.Test.YtibogfdgdnedpaaRows
import Derived.WalkKit
import Derived.ProofKit
import Derived.OpenShut
import Derived.JoinedCond
import Derived.Carry
import Derived.Deep.Slices
import Derived.Lib.SmallJoins
import Derived.Deep.AppendSrc
import Derived.Deep.Upon
import Derived.Test.YtibogfdgdnedpaaPdB
set_option linter.all false
namespace Go.Proofs.Ytibogfdgdnedpaa
open Go.ChangeShapes Go.WideShapes Go.ChangeAt Go.RowKit Go.Deep
section
variable {H : Type} {enc : TypeId × Value -> H} {w : World} {base : Nat} {sp : Nat -> Bool} {held : Bool}
theorem bulk_one (d : DataW H) : 1 <= Rows.uptoBulk d := by
 cases d with
 | lit l => cases l <;> simp [Rows.uptoBulk]
 | nil => simp [Rows.uptoBulk]
 | ptr d => simp [Rows.uptoBulk]
 | slice elems spare => simp [Rows.uptoBulk]
 | agg parts => simp [Rows.uptoBulk]
 | iface t d => simp [Rows.uptoBulk]
 | map entries => simp [Rows.uptoBulk]
 | held h => simp [Rows.uptoBulk]
theorem bulk_append (l r : List (DataW H)) : Rows.uptoBulkAll (l ++ r) = Rows.uptoBulkAll l + Rows.uptoBulkAll r := by
 induction l with
 | nil => simp [Rows.uptoBulkAll]
 | cons x l ih => simp only [List.cons_append, Rows.uptoBulkAll, ih]; omega
theorem bulk_mem {d : DataW H} {l : List (DataW H)} (h : d ∈ l) : Rows.uptoBulk d <= Rows.uptoBulkAll l := by
 induction l with
 | nil => cases h
 | cons x r ih =>
  simp only [Rows.uptoBulkAll];rcases List.mem_cons.1 h with rfl | h
  · omega
  · have := ih h; omega
theorem bulk_length (l : List (DataW H)) : l.length <= Rows.uptoBulkAll l := by
 induction l with
 | nil => simp [Rows.uptoBulkAll]
 | cons x r ih => have := bulk_one x; simp only [Rows.uptoBulkAll, List.length_cons]; omega
theorem bulk_slice (l r : List (DataW H)) : Rows.uptoBulk (.slice l r) = Rows.uptoBulkAll l + Rows.uptoBulkAll r + 1 := by simp [Rows.uptoBulk]
theorem bulk_agg (l : List (DataW H)) : Rows.uptoBulk (.agg l) = Rows.uptoBulkAll l + 1 := by simp [Rows.uptoBulk]
theorem list_of {α : Type} {n : Nat} {p : Nat -> α -> Prop} (h : ∀ i, i < n -> ∃ x, p i x) : ∃ l : List α, l.length = n /\ ∀ i (hi : i < l.length), p i l[i] := by
 induction n with
 | zero => exact ⟨[], rfl, fun i hi => by simp at hi⟩
 | succ n ih =>
  obtain ⟨l, hl, hp⟩ := ih (fun i hi => h i (by omega));obtain ⟨x, hx⟩ := h n (by omega);refine ⟨l ++ [x], by simp [hl], fun i hi => ?_⟩;by_cases hin : i < l.length
  · rw [List.getElem_append_left hin]; exact hp i hin
  · have : i = n := by simp at hi; omega
    subst this;rw [List.getElem_append_right (by omega)];simp [hl]; exact hx
theorem addr_none {w : World} {a : Addr} {v : Value} (h : w.cell? a = some v) : ∃ b o, a = ⟨b, o, none⟩ /\ b < w.heap.size := by
 have h1 := World.cell?_spot h;obtain ⟨b, o, s⟩ := a;exact ⟨b, o, by simpa using h1, cell_lt h⟩
set_option maxRecDepth 100000 in
theorem open_words {fuel : Nat} {cs : List Value} {x : DataW H × List MemPlace} (h : DataW.trod enc Try.prog w base sp held fuel 25 cs = some x) :
 ∃ ao len cap ws, cs = [.slice ao len cap] /\ len = ws.length /\ len <= cap /\ WAt w ao ws /\ ws.length + 1 <= Rows.uptoBulk x.1 := by
 rcases open_ints Try.underlying25 Try.underlying48 (by kernel_rfl) h with ⟨rfl, rfl⟩ | ⟨a, len, cap, zs, rfl, hb, hl, hm, hz, rfl, hcell, hwf⟩
 · exact ⟨none, 0, 0, [], rfl, rfl, Nat.le_refl _, ⟨fun x h => (by cases h), fun h => absurd h (by simp)⟩, by simp [Rows.uptoBulk]⟩
 · have hlz : len <= zs.length := by rw [hz]; split <;> omega
   have hrng : ∀ z ∈ zs, 0 <= z /\ z < 18446744073709551616 := fun z hzm => by
    have h1 : 0 <= z /\ z <= 18446744073709551615 := by simpa [Lit.wf, IntKind.min, IntKind.max, IntKind.signed, IntKind.bits] using hwf z hzm
    omega
   have hll : ((zs.take len).map Int.toNat).length = len := by simp; omega
   refine ⟨some a, len, cap, (zs.take len).map Int.toNat, rfl, hll.symm, hl, ⟨fun x hx => ?_, fun hp => ?_⟩, ?_⟩
   · obtain ⟨z, hz1, rfl⟩ := List.mem_map.1 hx;have := hrng z (List.mem_of_mem_take hz1);unfold W; omega
   · rw [hll] at hp;have h0 := hcell 0 (by omega);obtain ⟨b, o, rfl, hblt⟩ := addr_none (a := a) (w := w) (by simpa [Addr.add] using h0);refine ⟨b, o, rfl, hblt, fun i hi => ?_⟩;rw [hll] at hi;have h1 := hcell i (by omega);rw [add_plain] at h1;rw [h1];have h2 := hrng (zs[i]'(by omega)) (List.getElem_mem (by omega));have e1 : zs.getD i 0 = zs[i]'(by omega) := by rw [List.getD_eq_getElem?_getD, List.getElem?_eq_getElem (by omega)]; rfl
     have e2 : gw ((zs.take len).map Int.toNat) i = (zs[i]'(by omega)).toNat := by
      unfold gw;rw [List.getD_eq_getElem?_getD, List.getElem?_eq_getElem (by rw [hll]; exact hi)];simp
     rw [e1, e2];congr 2;omega
   · rw [bulk_slice, hll];have := bulk_length (lits (H := H) .u64 (zs.take len));have e : (lits (H := H) .u64 (zs.take len)).length = len := by simp [lits]; omega
     omega
set_option maxRecDepth 100000 in
theorem open_num {fuel : Nat} {cs : List Value} {x : DataW H × List MemPlace} (h : DataW.trod enc Try.prog w base sp held fuel 27 cs = some x) :
 ∃ (p : P4) (L : Nat) (z : Int), cs = [.bool p.1, .slice p.2.1 p.2.2.1 p.2.2.2] /\ IntAt w L (av p) z /\ L + 3 <= Rows.uptoBulk x.1 := by
 obtain ⟨y0, y1, n, rfl, hl, h0, h1⟩ := trod_struct2 Try.underlying27 h;obtain ⟨c0, c1, rfl⟩ : ∃ c0 c1, cs = [c0, c1] := by
  have e : cs.length = 2 := hl.trans (by kernel_rfl);match cs, e with
  | [a, b], _ => exact ⟨a, b, rfl⟩
 rw [show Try.prog.cellsOf 4 = 1 by kernel_rfl] at h0;rw [show Try.prog.cellsOf 25 = 1 by kernel_rfl] at h1;obtain ⟨b, hb, hy0⟩ := DataW.trod_bool Try.underlying4 h0;obtain ⟨ao, len, cap, ws, hc, hlen, hcap, hW, hbk⟩ := open_words h1;simp at hb hc;subst hb hc;refine ⟨(b, ao, len, cap), len, zi b (nval ws), rfl, ⟨b, ao, len, cap, ws, rfl, hW, hlen, Nat.le_refl _, hcap, rfl⟩, ?_⟩;rw [bulk_agg];simp only [Rows.uptoBulkAll];have := bulk_one y0.1;omega
theorem bulk_sum (D : Nat -> DataW H) (f : Nat -> Nat) : ∀ n, (∀ i, i < n -> f i <= Rows.uptoBulk (D i)) -> ((List.range n).map f).sum <= Rows.uptoBulkAll ((List.range n).map D)
 | 0, _ => by simp
 | n + 1, h => by
  have h1 := bulk_sum D f n fun i hi => h i (by omega);have h2 := h n (by omega);rw [List.range_succ, List.map_append, List.map_append, List.sum_append, bulk_append];simp only [List.map_cons, List.map_nil, List.sum_cons, List.sum_nil, Rows.uptoBulkAll];omega
set_option maxRecDepth 100000 in
theorem open_nums_s {fuel : Nat} {cs : List Value} {x : DataW H × List MemPlace} (h : DataW.trod enc Try.prog w base sp held fuel 22 cs = some x) :
 ∃ ao len cap xs, cs = [.slice ao len cap] /\ len = xs.length /\ len <= cap /\ LsAt w (Rows.uptoBulk x.1) ao xs /\ xs.length + 1 <= Rows.uptoBulk x.1 /\ (xs.map fun z => wlen z.natAbs).sum <= Rows.uptoBulk x.1 := by
 rcases open_slice Try.underlying22 h with ⟨rfl, rfl⟩ | ⟨a, len, cap, m, n, D, Pl, rfl, hb, hl, hm, hmm, rfl, hi⟩
 · exact ⟨none, 0, 0, [], rfl, rfl, Nat.le_refl _, fun h => absurd h (by simp), by simp [Rows.uptoBulk], by simp⟩
 · have hlm : len <= m := by rw [hmm]; split <;> omega
   have hD : ∀ i, i < len -> Rows.uptoBulk (D i) <= Rows.uptoBulkAll ((List.range len).map D) := fun i hi => bulk_mem (List.mem_map.2 ⟨i, List.mem_range.2 hi, rfl⟩);obtain ⟨l, hll, hp⟩ := list_of (n := len) (p := fun i (q : P4 × Int) => (w.cell? (a.add (i * 2)) = some (.bool q.1.1) /\ w.cell? (a.add (i * 2 + 1)) = some (.slice q.1.2.1 q.1.2.2.1 q.1.2.2.2)) /\ IntAt w (Rows.uptoBulkAll ((List.range len).map D)) (av q.1) q.2 /\ wlen q.2.natAbs <= Rows.uptoBulk (D i)) (fun i hil => by
    obtain ⟨cs', hc, ht⟩ := hi i (by omega);rw [show Try.prog.cellsOf 27 = 2 by kernel_rfl] at hc;obtain ⟨p, L, z, rfl, hI, hbk⟩ := open_num ht;obtain ⟨_, _, hcell⟩ := World.cells?_some hc;have c0 := hcell 0 (by omega);have c1 := hcell 1 (by omega);rw [add_add] at c0 c1;exact ⟨(p, z), ⟨by simpa using c0, by simpa using c1⟩, hI.mono (by have := hD i hil; have : Rows.uptoBulk (D i, Pl i).1 = Rows.uptoBulk (D i) := rfl; omega), by show wlen z.natAbs <= _; have h8 := hI.wlen; have h9 : Rows.uptoBulk (D i, Pl i).1 = Rows.uptoBulk (D i) := rfl; omega⟩)
   have hbl : len <= Rows.uptoBulkAll ((List.range len).map D) := by have := bulk_length ((List.range len).map D); simpa using this
   refine ⟨some a, len, cap, l.map Prod.snd, rfl, by simp [hll], hl, fun hpos => ?_, ?_, ?_⟩
   · have hpos' : 0 < len := by simpa [hll] using hpos
     have h0 := (hp 0 (by omega)).1.1;obtain ⟨b, o, rfl, hblt⟩ := addr_none (a := a) (w := w) (by simpa [Addr.add] using h0);refine ⟨b, o, rfl, hblt, fun i hi' => ?_⟩;have hil : i < l.length := by simpa using hi'
     obtain ⟨⟨c0, c1⟩, hI, _⟩ := hp i hil;rw [add_plain] at c0 c1;refine ⟨l[i].1, c0, by rw [<- Nat.add_assoc] at c1; exact c1, ?_⟩;have e : (l.map Prod.snd)[i]'hi' = l[i].2 := by simp
     rw [e, bulk_slice];exact hI.mono (by omega)
   · rw [bulk_slice]; simp [hll]; omega
   · have h1 := bulk_sum D (fun i => wlen ((l.map Prod.snd).getD i 0).natAbs) len (fun i hi => by
      have h2 := (hp i (by omega)).2.2;have e : (l.map Prod.snd).getD i 0 = (l[i]'(by omega)).2 := by
       rw [List.getD_eq_getElem?_getD, List.getElem?_map, List.getElem?_eq_getElem (by omega)]; rfl
      rw [e]; exact h2)
     have e : (List.range len).map (fun i => wlen ((l.map Prod.snd).getD i 0).natAbs) = (l.map Prod.snd).map fun z => wlen z.natAbs := by
      refine List.ext_getElem (by simp [hll]) fun i h1 h2 => ?_;have hi : i < l.length := by simpa using h2
      simp [hi]
     rw [e] at h1;rw [bulk_slice]; omega
set_option maxRecDepth 100000 in
theorem trodAll_stays {P : Program} (hl : laidOutB P = true) {W W' : World} {spf : Nat -> Bool} : ∀ {ts : List TypeId} {vs : List Value} {ds : List (DataW H)} {ps : List MemPlace}, (ts.all fun t => P.readableRec t && decide (t < P.types.size)) = true ->
 DataW.TrodAll enc P W 0 (fun _ => true) true ts vs ds ps -> (∀ x ∈ ps, W.sameAt W' x) -> (∀ x ∈ ps, spf x.block = true) -> DataW.TrodAll enc P W' 0 spf true ts vs ds ps := by
 intro ts;induction ts with
 | nil =>
  intro vs ds ps _ h _ _;cases vs <;> cases ds <;> exact h
 | cons t ts ih =>
  intro vs ds ps ha h hs hp;cases vs with
  | nil => exact h.elim
  | cons v vs =>
   cases ds with
   | nil => exact h.elim
   | cons d ds =>
    obtain ⟨p, q, h1, h2, rfl⟩ := h;simp only [List.all_cons, Bool.and_eq_true, decide_eq_true_eq] at ha;exact ⟨p, q, WideElems.Trod_stays hl ha.1.1 ha.1.2 h1 (fun x hx => hs x (List.mem_append_left _ hx)) (fun x hx => hp x (List.mem_append_left _ hx)),
     ih ha.2 h2 (fun x hx => hs x (List.mem_append_right _ hx)) (fun x hx => hp x (List.mem_append_right _ hx)), rfl⟩
theorem laid_out : laidOutB Try.prog = true := by kernel_rfl
set_option maxRecDepth 100000 in
theorem law_post {f : Func} {s : ChangeSpec} {W W' : World} {args : Array Value} {ds gs : List (DataW H)} {before : List MemPlace} (ha : (f.params.toList.all fun t => Try.prog.readableRec t && decide (t < Try.prog.types.size)) = true) (hv : s.vars = []) (hr : f.resultTypes = #[4])
 (hW : DataW.Whole enc Try.prog f.params.toList s.vars false W args.toList ds gs before) (h1 : (s.fn H (ds ++ gs)).results = [.lit (.bool true)]) (h2 : (s.fn H (ds ++ gs)).args = ds) (h3 : (s.fn H (ds ++ gs)).vars = []) (hb : Below W.heap.size W W') :
 s.post enc Try.prog f false true false false W args (.bool true) W' := by
 have hlt : ∀ p ∈ before, p.block < W.heap.size := fun p hp => hW.lt p hp;have hold : ∀ p ∈ before, (fun b => decide (b < W.heap.size)) p.block = true := fun p hp => by simpa using hlt p hp
 have hW' := hW;obtain ⟨p, q, hA, hV, rfl, hz, hn⟩ := hW;rw [hv] at hV;obtain ⟨rfl, rfl⟩ := trodVars_none hV;have hsame : ∀ x ∈ p, W.sameAt W' x := fun x hx => hb.same (hlt x (List.mem_append_left _ hx));have hargs : ∀ spf : Nat -> Bool, (∀ x ∈ p ++ [], spf x.block = true) -> DataW.TrodAll enc Try.prog W' 0 spf true f.params.toList args.toList (s.fn H (ds ++ [])).args p := fun spf hs => by
  rw [h2]; exact trodAll_stays laid_out ha hA hsame (fun x hx => hs x (List.mem_append_left _ hx))
 have hres : ∀ (b : Nat) (spf : Nat -> Bool) (hd : Bool), DataW.TrodAll enc Try.prog W' b spf hd f.resultTypes.toList ((Value.bool true).resultList f.resultTypes.size) (s.fn H (ds ++ [])).results [] := fun b spf hd => by
  rw [hr, h1]; exact trodAll_cons_mk (shut_bool Try.underlying4 _) trodAll_mk0
 have hvars : ∀ spf : Nat -> Bool, DataW.TrodVars enc Try.prog W' spf s.vars (s.fn H (ds ++ [])).vars [] := fun spf => by rw [hv, h3]; rfl
 refine ⟨ds, [], p ++ [], [], p, [], hW', hres _ _ _, hargs _ hold, hvars _, World.keptBut_mono (fun x hx => ⟨hx, Or.inr (by simpa using hx)⟩) (hb.frame (· ∈ p ++ [])), fun _ => ?_⟩;have hb1 : Value.okWide Try.prog W' .any 0 4 (.bool true) := okWide_bool_mk Try.underlying4 true;refine ⟨ok_one hr rfl hb1, _, _, ([] ++ p) ++ [], ⟨[] ++ p, [], trodAll_append (hargs _ (fun _ _ => rfl)) (hres _ _ _), hvars _, rfl, ?_, ?_⟩, ?_⟩
 · intro b off hp;have hin : MemPlace.cell b off ∈ p ++ [] := by simpa using hp
   rw [hb.frozen (hlt _ hin)];exact hz b off hin
 · intro h; cases h
 · intro x hx _;simpa using hx
end
set_option maxRecDepth 100000 in
theorem bulk_bound {H : Type} {l : List (DataW H)} (hk : Rows.uptoSmall H l = true) : Rows.uptoBulkAll l <= 1048576 := of_decide_eq_true hk
end Go.Proofs.Ytibogfdgdnedpaa
namespace Go.Proofs.Ytibogfdgdnedpaa
open Go.RowKit
section
variable {P : Program} {Q : Exit -> Act -> World -> Prop} {S0 : Nat -> Prop} {w0 : World} {n : Nat} {ls : List (Nat × Value)} {es : List En} {c : Code}
theorem wordW {ws : List Nat} {b o : Nat} (i : Nat) (hm : En.wat (some ⟨b, o, none⟩) ws ∈ es) (hi : i < ws.length) (k : CW P n S0 w0 c Q ls (.cell ⟨b, o + i, none⟩ (.int .u64 ((gw ws i : Nat) : Int)) :: es)) : CW P n S0 w0 c Q ls es := fun a w ha hw => by
 have hA : WAt w (some ⟨b, o, none⟩) ws := hw.all _ hm;obtain ⟨b', o', e, hb, hc⟩ := hA.2 (by omega);cases e;refine k a w ha (hw.cons (e := .cell ⟨b, o + i, none⟩ (.int .u64 ((gw ws i : Nat) : Int))) (hc i hi) (fun e' he' => ⟨(fun h => nomatch h), fun hwr g hg hg' => ?_⟩) (fun h => nomatch h));have hg' : g = b := hg';subst hg';obtain ⟨l1, l2, rfl⟩ := List.append_of_mem hm;have hS : (En.wat (some ⟨g, o, none⟩) ws).S g := ⟨by omega, o, rfl⟩;have hp := List.pairwise_append.1 hw.sep;rcases List.mem_append.1 he' with h | h
 · exact (hp.2.2 e' h _ (List.mem_cons_self ..)).1 hwr g hg hS
 · rcases List.mem_cons.1 h with rfl | h
   · cases hwr
   · exact ((List.pairwise_cons.1 hp.2.1).1 e' h).2 hwr g hg hS
theorem pickW {es' : List En} (k : CW P n S0 w0 c Q ls es') (h : Pk es es' := by repeat (first | exact Pk.n | refine Pk.c (by repeat (first | exact Rm.z | apply Rm.s)) ?_)) : CW P n S0 w0 c Q ls es := fun a w ha hw => k a w ha (hw.pick h)
end
section
variable {P : Program} {ops : Array Oper} {Q : Exit -> Act -> World -> Prop} {S0 : Nat -> Prop} {w0 : World} {E0 : List En} {hd : List (List Nat)} {n j s : Nat} {l : List Nat} {G E : List En} {ls : List (Nat × Value)} {op : Op} {ty : TypeId} {pos : String} {af : Array Edge} {v v' : Value}
theorem dE (hv : v' = v) (k : RWs ⟨P, ops, Q, S0, w0, E0, []⟩ n l G E ((s, v) :: ls))
 (ho : ops[j]? = some ⟨some s, op, ty, pos, af, none⟩ := by rfl) (hk : (isDet op && chkO ls op && Nat.blt s n) = true := by kernel_rfl)
 (hr : ∀ w, (isLd op = true -> Fr S0 w0 w E0) -> (execOp (evl ls) ⟨some s, op, ty, pos, af, none⟩).run P w = .ok (.value v') w := by intro w H; (first | (have c := (H rfl).c; try simp only [celN, cl, List.cons_append, List.nil_append] at c) | skip); clear H; go_simp <;> with_reducible rfl) : RWs ⟨P, ops, Q, S0, w0, E0, []⟩ n (j :: l) G E ls :=
 dW (v := v) k ho hk (by rw [<- hv]; exact hr)
theorem dB (b : Bool) (k : RWs ⟨P, ops, Q, S0, w0, E0, []⟩ n l G E ((s, .bool b) :: ls))
 (ho : ops[j]? = some ⟨some s, op, ty, pos, af, none⟩ := by rfl) (hk : (isDet op && chkO ls op && Nat.blt s n) = true := by kernel_rfl)
 (hr : ∀ w, (isLd op = true -> Fr S0 w0 w E0) -> (execOp (evl ls) ⟨some s, op, ty, pos, af, none⟩).run P w = .ok (.value v') w := by intro w H; (first | (have c := (H rfl).c; try simp only [celN, cl, List.cons_append, List.nil_append] at c) | skip); clear H; go_simp <;> with_reducible rfl)
 (hv : v' = .bool b := by first | rfl | (simp [*]; done) | (simp; omega)) : RWs ⟨P, ops, Q, S0, w0, E0, []⟩ n (j :: l) G E ls :=
 dE hv k ho hk hr
theorem dGB (b : Bool) {sg g : Nat} {want : Bool} (k : RWs ⟨P, ops, Q, S0, w0, E0, []⟩ n l G E ((s, .bool b) :: ls))
 (ho : ops[j]? = some ⟨some s, op, ty, pos, af, some (g, want)⟩ := by rfl) (hk : (isDet op && chkO ls op && Nat.blt s n) = true := by kernel_rfl)
 (hg : (ops[g]?).bind (·.dst) = some sg := by rfl) (hi : inLs ls (.tmp sg) = true := by kernel_rfl) (hb : evl ls (.tmp sg) = .bool want := by (simp only [evlN, Nat.reduceEqDiff, ↓reduceIte]) <;> first | rfl | simp [*])
 (hr : ∀ w, (isLd op = true -> Fr S0 w0 w E0) -> (execOp (evl ls) ⟨some s, op, ty, pos, af, some (g, want)⟩).run P w = .ok (.value v') w := by intro w H; (first | (have c := (H rfl).c; try simp only [celN, cl, List.cons_append, List.nil_append] at c) | skip); clear H; go_simp <;> with_reducible rfl)
 (hv : v' = .bool b := by first | rfl | (simp [*]; done) | (simp; omega)) : RWs ⟨P, ops, Q, S0, w0, E0, []⟩ n (j :: l) G E ls :=
 dG k ho hk hg hi hb (by rw [<- hv]; exact hr)
end
theorem Fr.apart {S0 : Nat -> Prop} {w0 w : World} {es : List En} (h : Fr S0 w0 w es) {e e1 : En} (he : e ∈ es) (he1 : e1 ∈ es) (hw : e.wr = true) (hw1 : e1.wr = false) {b : Nat} (hb : e.S b) : ¬ e1.S b := fun hb1 => by
 obtain ⟨l1, l2, rfl⟩ := List.append_of_mem he1;have hp := List.pairwise_append.1 h.sep;rcases List.mem_append.1 he with h | h
 · exact (hp.2.2 e h _ (List.mem_cons_self ..)).1 hw b hb hb1
 · rcases List.mem_cons.1 h with rfl | h
   · rw [hw] at hw1; cases hw1
   · exact ((List.pairwise_cons.1 hp.2.1).1 e h).2 hw b hb hb1
section
variable {P : Program} {ops : Array Oper} {Q : Exit -> Act -> World -> Prop} {S0 : Nat -> Prop} {w0 : World} {E0 : List En} {hd : List (List Nat)} {n j s sg g : Nat} {l : List Nat} {G E : List En} {ls : List (Nat × Value)} {op : Op} {ty : TypeId} {pos : String} {af : Array Edge} {f : FuncId} {args : Array Value} {want : Bool}
end
theorem gi_eq {xs : List Int} {i : Nat} (h : i < xs.length) : gi xs i = xs[i] := by simp [gi, h]
theorem gp_eq {ps : List P4} {i : Nat} (h : i < ps.length) : gp ps i = ps[i] := by simp [gp, h]
theorem gi_mem {xs : List Int} {i : Nat} (h : i < xs.length) : gi xs i ∈ xs := by rw [gi_eq h]; exact List.getElem_mem h
theorem gi_set {xs : List Int} {i j : Nat} (h : i < xs.length) (x : Int) : gi (xs.set i x) j = if j = i then x else gi xs j := by
 unfold gi;rw [List.getD_eq_getElem?_getD, List.getElem?_set, List.getD_eq_getElem?_getD];by_cases e : i = j
 · subst e; simp [h]
 · have e2 : ¬ j = i := fun q => e q.symm;simp [e, e2]
theorem rn0 {ps : List P4} {i : Nat} (tl : List Value) (h : i < ps.length) : (rn ps tl)[i * 2]? = some (.bool (gp ps i).1) := by
 have := flat_length ps;rw [gp_eq h, rn, List.getElem?_append_left (by omega)]; exact flat_get0 ps i h
theorem rn1 {ps : List P4} {i : Nat} (tl : List Value) (h : i < ps.length) : (rn ps tl)[i * 2 + 1]? = some (.slice (gp ps i).2.1 (gp ps i).2.2.1 (gp ps i).2.2.2) := by
 have := flat_length ps;rw [gp_eq h, rn, List.getElem?_append_left (by omega)]; exact flat_get1 ps i h
theorem rn_set {ps : List P4} {i : Nat} (tl : List Value) (h : i < ps.length) (p : P4) : setL (rn ps tl) (i * 2) [.bool p.1, .slice p.2.1 p.2.2.1 p.2.2.2] = rn (ps.set i p) tl := by
 have hl := flat_length ps;simp only [setL, rn];rw [List.set_append_left _ _ (by omega), List.set_append_left _ _ (by rw [List.length_set]; omega), flat_set]
theorem NoW.rn {ps : List P4} {tl : List Value} (h : NoW tl) : NoW (rn ps tl) := flat_app h
theorem NsAt.set {w : World} {ps : List P4} {xs : List Int} (h : NsAt w ps xs) (i : Nat) {p : P4} {x : Int} (hp : NumAt w (av p) x) : NsAt w (ps.set i p) (xs.set i x) := by
 refine ⟨by simp [h.1], fun j hj => ?_⟩;rw [List.length_set] at hj;have h1 := h.1;by_cases e : i = j
 · subst e;rw [gp_eq (by simpa using hj), gi_eq (by simp; omega)];simpa using hp
 · have := h.2 j hj;rw [gp_eq hj, gi_eq (by omega)] at this;rw [gp_eq (by simpa using hj), gi_eq (by simp; omega)];simpa [e] using this
theorem NsAt.snoc {w : World} {ps : List P4} {xs : List Int} (h : NsAt w ps xs) {p : P4} {x : Int} (hp : NumAt w (av p) x) : NsAt w (ps ++ [p]) (xs ++ [x]) := by
 refine ⟨by simp [h.1], fun j hj => ?_⟩;have h1 := h.1;rw [gp_eq hj, gi_eq (by simp at hj ⊢; omega)];by_cases e : j < ps.length
 · have := h.2 j e;rw [gp_eq e, gi_eq (by omega)] at this;rw [List.getElem_append_left e, List.getElem_append_left (by omega)]; exact this
 · have e1 : j = ps.length := by simp at hj; omega
   subst e1;simpa [h1] using hp
theorem NsAt.nil (w : World) : NsAt w [] [] := ⟨rfl, fun i h => absurd h (by simp)⟩
theorem NsAt.zeros (w : World) (n : Nat) : NsAt w (List.replicate n p0) (List.replicate n 0) := ⟨by simp, fun i h => by
 have h : i < n := by simpa using h
 rw [gp_eq (by simpa using h), gi_eq (by simpa using h)]; simp; exact NumAt.zero w⟩
theorem RowN.mk' {w : World} {b : Nat} {ps : List P4} {tl : List Value} {xs : List Int} (h : RowAt w b 27 (rn ps tl)) (ht : NoW tl) (hn : NsAt w ps xs) : RowN w b xs :=
 ⟨ps, tl, ht, h, hn.1, fun i h1 h2 => by have := hn.2 i h1; rw [gp_eq h1, gi_eq h2] at this; exact this⟩
theorem Fr.l {S0 : Nat -> Prop} {w0 w : World} {es : List En} (h : Fr S0 w0 w es) {L : Nat} {ao : Option Addr} {xs : List Int} (hx : LsAt w L ao xs) (hS : ∀ e ∈ es, e.wr = false) : Fr S0 w0 w (.ls L ao xs :: es) :=
 h.cons hx (fun e he => ⟨(fun q => nomatch q), fun q => by rw [hS e he] at q; cases q⟩) (fun q => nomatch q)
section
variable {P : Program} {Q : Exit -> Act -> World -> Prop} {S0 : Nat -> Prop} {w0 : World} {n : Nat} {ls : List (Nat × Value)} {es : List En} {c : Code}
theorem Fr.cellOf {w : World} {e : En} {a : Addr} {v : Value} (h : Fr S0 w0 w es) (hm : e ∈ es) (hwr : e.wr = false) (hS : e.S a.block) (hc : w.cell? a = some v) : Fr S0 w0 w (.cell a v :: es) :=
 h.cons (e := .cell a v) hc (fun e' he' => ⟨(fun q => nomatch q), fun q g hg hg' => by
  obtain rfl : g = a.block := hg';exact h.apart he' hm q hwr hg hS⟩) (fun q => nomatch q)
theorem numW {L : Nat} {xs : List Int} {b o : Nat} (i : Nat) (hm : En.ls L (some ⟨b, o, none⟩) xs ∈ es) (hi : i < xs.length) (k : ∀ p : P4, CW P n S0 w0 c Q ls (.cell ⟨b, o + i * 2, none⟩ (.bool p.1) :: .cell ⟨b, o + i * 2 + 1, none⟩ (.slice p.2.1 p.2.2.1 p.2.2.2) :: .at L (av p) (gi xs i) :: es)) : CW P n S0 w0 c Q ls es := fun a w ha hw => by
 have hA : LsAt w L (some ⟨b, o, none⟩) xs := hw.all _ hm;obtain ⟨b', o', e, hb, hc⟩ := hA (by omega);cases e;obtain ⟨p, h0, h1, hx⟩ := hc i hi;rw [<- gi_eq hi] at hx;have hS : (En.ls L (some ⟨b, o, none⟩) xs).S b := ⟨by omega, o, rfl⟩;exact k p a w ha (((hw.pure (e := .at L (av p) (gi xs i)) hx (fun _ h => h)).cellOf (List.mem_cons_of_mem _ hm) rfl hS h1).cellOf (List.mem_cons_of_mem _ (List.mem_cons_of_mem _ hm)) rfl hS h0)
theorem addW {e : En} (he : ∀ w, Fr S0 w0 w es -> e.F w) (k : CW P n S0 w0 c Q ls (e :: es)) (hS : ∀ b, ¬ e.S b := by intro b h; exact h) : CW P n S0 w0 c Q ls es := fun a w ha hw => k a w ha (hw.pure (he w hw) hS)
end
section
variable {ops : Array Oper} {Q : Exit -> Act -> World -> Prop} {S0 : Nat -> Prop} {w0 : World} {E0 : List En} {hd : List (List Nat)} {n j s : Nat} {l : List Nat} {G E : List En} {ls : List (Nat × Value)} {op : Op} {ty : TypeId} {pos : String} {af : Array Edge}
theorem mN {sl sc : Operand} {a b : Int} {kl kc : IntKind} (x y : Nat) (hx : a = x) (hy : b = y) (hxy : x <= y) (hb : y <= 8796093022208) (k : ∀ g, RWs ⟨Try.prog, ops, Q, S0, w0, E0, hd⟩ n l (.row g 27 (rn (List.replicate y p0) []) :: G) E ((s, .slice (some ⟨g, 0, none⟩) x y) :: ls))
 (ho : ops[j]? = some ⟨some s, .makeSlice 22 sl sc, ty, pos, af, none⟩ := by rfl) (hk : (chkO ls (.makeSlice 22 sl sc) && Nat.blt s n) = true := by kernel_rfl)
 (h1 : evl ls sl = .int kl a := by (simp only [evlN, Nat.reduceEqDiff, ↓reduceIte]) <;> rfl) (h2 : evl ls sc = .int kc b := by (simp only [evlN, Nat.reduceEqDiff, ↓reduceIte]) <;> rfl) : RWs ⟨Try.prog, ops, Q, S0, w0, E0, hd⟩ n (j :: l) G E ls := fun A hA => by
 simp only [Bool.and_eq_true] at hk;refine ⟨_, ho, .inr (.inl ⟨rfl, rfl, fun g => .slice (some ⟨g, 0, none⟩) x y, 27, rn (List.replicate y p0) [], ⟨rfl, fun w => ?_⟩, fun g => k g _ (hA.put (Nat.le_of_ble_eq_true hk.2) _)⟩)⟩;rw [hA.exec (o := ⟨some s, .makeSlice 22 sl sc, ty, pos, af, none⟩) hk.1];obtain ⟨i, hi, hz, hs, hbt⟩ := info_parts info_Int;subst hx hy;have hr := run_make (P := Try.prog) w 22 27 i (.agg #[.bool false, .slice none 0 0]) Try.underlying22 hi hz kl kc x y (by omega) (by omega) (by rw [hbt]; omega) (by omega);simp only [Int.toNat_natCast] at hr;have e : madeCells (Value.agg #[.bool false, .slice none 0 0]).cells (y * i.size) = (rn (List.replicate y p0) []).toArray := by
  have := made_flat y;rw [hs, rn, List.append_nil, <- this]
 simp [execOp, h1, h2, hr, Result.andThen, e]
theorem sN {b i : Nat} {ps ps' : List P4} {tl : List Value} {ad x : Operand} {sty : TypeId} {E' : List En} (q : Nat) (p : P4) (hq : q < ps.length) (ht : NoW tl) (hs : ps.set q p = ps')
 (k' : RWs ⟨Try.prog, ops, Q, S0, w0, E0, hd⟩ n l G E' ls)
 (ho : ops[j]? = some ⟨none, .store sty ad x, ty, pos, af, none⟩ := by rfl) (hk : chkO ls (.store sty ad x) = true := by kernel_rfl)
 (ha : evl ls ad = .pointer (some ⟨b, q * 2, none⟩) := by (simp only [evlN, Nat.reduceEqDiff, ↓reduceIte]) <;> rfl)
 (hv : evl ls x = .agg #[.bool p.1, .slice p.2.1 p.2.2.1 p.2.2.2] := by (simp only [evlN, Nat.reduceEqDiff, ↓reduceIte, av]) <;> rfl)
 (hE : Up (.row b 27 (rn ps tl)) (.row b 27 (rn ps' tl)) i E E' := by repeat first | exact .z | apply Up.s)
 (hr : ∀ w u v, w.cell? ⟨b, q * 2, none⟩ = some u -> w.cell? ⟨b, q * 2 + 1, none⟩ = some v -> w.frozen? ⟨b, q * 2, none⟩ = false -> w.frozen? ⟨b, q * 2 + 1, none⟩ = false -> (execOp (evl ls) ⟨none, .store sty ad x, ty, pos, af, none⟩).run Try.prog w = .ok .skip (stA w b (q * 2) [.bool p.1, .slice p.2.1 p.2.2.1 p.2.2.2]) := by intro w u v c0 c1 f0 f1; (try simp only [av]); go_simp <;> rfl)
 (hst : okSt ops hd j [i] = true := by kernel_rfl) : RWs ⟨Try.prog, ops, Q, S0, w0, E0, hd⟩ n (j :: l) G E ls := fun a hA => by
 subst hs;refine ⟨_, ho, .inr (.inr ⟨rfl, rfl, Unit, fun _ => undef, fun _ => G, fun _ => E', [i], ⟨()⟩, fun X w hX hw => ?_, hst, fun _ r hr => hE.other (by simpa using hr), fun _ => k' _ (hA.put0 _)⟩)⟩;obtain ⟨m, h1, h2⟩ := hE.right' X G;have hrow : RowAt w b 27 (rn ps tl) := (hw.perm h1).all _ (List.mem_cons_self ..);refine ifw rfl ?_;show wpR _ _ ((execOp a.eval _).run _ w);rw [hA.exec (o := ⟨none, .store sty ad x, ty, pos, af, none⟩) hk, hr w _ _ ((hrow.cell _).trans (rn0 tl hq)) ((hrow.cell _).trans (rn1 tl hq)) (hrow.free _) (hrow.free _)];exact ⟨(), rfl, hw.st (t := 27) _ _ (.inl ⟨NoW.rn ht, by decide⟩) h1 (by rw [rn_set tl hq]; exact h2)⟩
end
theorem Fr.conv {S0 : Nat -> Prop} {w0 w : World} {es : List En} {e e' : En} (h : Fr S0 w0 w (e :: es)) (h1 : e.F w -> e'.F w) (h2 : ∀ b, e'.S b -> e.S b) (h3 : e'.wr = true -> e.wr = true) : Fr S0 w0 w (e' :: es) := by
 have hp := List.pairwise_cons.1 h.sep;exact h.tl.cons (h1 h.m0) (fun x hx => ⟨fun q b hb => (hp.1 x hx).1 (h3 q) b (h2 b hb), fun q b hb hb' => (hp.1 x hx).2 q b hb (h2 b hb')⟩) (fun q b hb => h.own e (List.mem_cons_self ..) (h3 q) b (h2 b hb))
theorem Fr.lst0 {S0 : Nat -> Prop} {w0 w : World} {es : List En} (h : Fr S0 w0 w es) : Fr S0 w0 w (.lst none 0 0 [] :: es) := h.pure (e := .lst none 0 0 []) ⟨rfl, Nat.le_refl _, .inl ⟨rfl, rfl⟩⟩ (fun b ⟨o, e⟩ => nomatch e)
section
variable {P : Program} {Q : Exit -> Act -> World -> Prop} {S0 : Nat -> Prop} {w0 : World} {n : Nat} {ls : List (Nat × Value)} {es : List En} {c : Code}
theorem lst0W (k : CW P n S0 w0 c Q ls (.lst none 0 0 [] :: es)) : CW P n S0 w0 c Q ls es := fun a w ha hw => k a w ha hw.lst0
end
theorem rn_snoc {ps : List P4} {tl : List Value} {cap : Nat} (hl : (rn ps tl).length = cap * 2) (h : ps.length < cap) (p : P4) : setL (rn ps tl) (ps.length * 2) [.bool p.1, .slice p.2.1 p.2.2.1 p.2.2.2] = rn (ps ++ [p]) (tl.drop 2) := by
 have hf := flat_length ps;obtain ⟨a, b, t, rfl⟩ : ∃ a b t, tl = a :: b :: t := by
  rw [rn, List.length_append] at hl;match tl, hl with
  | [], h => simp at h; omega
  | [_], h => simp at h; omega
  | a :: b :: t, _ => exact ⟨a, b, t, rfl⟩
 simp only [setL, rn];rw [List.set_append_right _ _ (by omega), List.set_append_right _ _ (by omega), flat_append, show ps.length * 2 - (flat ps).length = 0 by omega, show ps.length * 2 + 1 - (flat ps).length = 1 by omega];simp [flat]
theorem Chg.alloc' (T : Nat -> Prop) (w : World) (o : Obj) : Chg T w (w.drew.alloc o) := Chg.of_below ⟨rfl, rfl, rfl, by simp, fun q hq => heap_alloc_old w.drew _ hq⟩
theorem app_run {w : World} {ty : TypeId} {ao : Option Addr} {k cap : Nat} {ps : List P4} (h : LstF ao k cap ps w) (hb : k <= 100000000) {ad : Addr} {c : Nat} {p : P4} (h0 : w.cell? ad = some (.bool p.1)) (h1 : w.cell? (ad.add 1) = some (.slice p.2.1 p.2.2.1 p.2.2.2)) :
 ∃ ao' cap' w', (Builtin.append_ #[22, 22] ty #[.slice ao k cap, .slice (some ad) 1 c]).run Try.prog w = .ok (.slice ao' (k + 1) cap') w' /\ LstF ao' (k + 1) cap' (ps ++ [p]) w' /\ Chg (fun g => ∃ o, ao = some ⟨g, o, none⟩) w w' /\ ∀ g, (∃ o, ao' = some ⟨g, o, none⟩) -> (∃ o, ao = some ⟨g, o, none⟩) ∨ w.heap.size <= g := by
 obtain ⟨i, hi, hz, hsz, hby⟩ := info_parts info_Int;have hn : ∀ j u, [Value.bool p.1, .slice p.2.1 p.2.2.1 p.2.2.2][j]? = some u -> w.cell? (ad.add j) = some u := fun j u hj => by
  match j, hj with
  | 0, hj => cases hj; simpa [Addr.add] using h0
  | 1, hj => cases hj; exact h1
 have hsrc : Src Try.prog i.size 22 (.slice (some ad) 1 c) 1 [Value.bool p.1, .slice p.2.1 p.2.2.1 p.2.2.2] w := Src.ofSlice w Try.underlying22 ad 1 c _ (by rw [hsz]; rfl) hn (by simp [Value.oneCell']);obtain ⟨hk, hkc, hrow⟩ := h;by_cases hroom : k < cap
 · obtain ⟨_, h⟩ | ⟨b, tl, rfl, ht, hr, hl⟩ := hrow
   · omega
   subst hk;have hex : ∀ j, j < cap * 2 -> (w.cell? ⟨b, j, none⟩).isSome = true := fun j hj => by rw [hr.cell, List.getElem?_eq_getElem (by omega)]; rfl
   refine ⟨_, _, _, run_append_room_src w 22 22 ty 27 i Try.underlying22 hi b 0 ps.length cap _ 1 _ hsrc (by omega) (fun j hj => hex _ ?_) (fun j _ => hr.free _), ?_, ?_, fun g hg => .inl hg⟩
   · rw [hsz]; simp at hj; omega
   · rw [hsz, Nat.zero_add];have h2 := hr.stA [.bool p.1, .slice p.2.1 p.2.2.1 p.2.2.2] (ps.length * 2);rw [rn_snoc hl hroom] at h2;refine ⟨by simp, by omega, .inr ⟨b, tl.drop 2, rfl, fun v hv => ht v (List.mem_of_mem_drop hv), h2, ?_⟩⟩;have hf := flat_length ps;rw [rn, List.length_append] at hl;rw [rn, List.length_append, flat_length]; simp; omega
   · rw [hsz, Nat.zero_add];exact (Chg.stA [.bool p.1, .slice p.2.1 p.2.2.1 p.2.2.2] (ps.length * 2) (Chg.refl (· = b) w)).mono (fun g _ e => by obtain rfl : g = b := e; exact ⟨0, rfl⟩)
 · obtain rfl : k = cap := by omega
   have hf := flat_length ps;have hold : (Builtin.firstCells i.size k (.slice ao k k)).run Try.prog w.drew = .ok (flat ps).toArray w.drew := by
    obtain ⟨rfl, h⟩ | ⟨b, tl, rfl, ht, hr, hl⟩ := hrow
    · obtain rfl : ps = [] := List.eq_nil_of_length_eq_zero (by omega);exact run_firstCells_none w.drew i.size k k k
    · refine run_firstCells_some w.drew i.size k _ k k (flat ps) (by rw [hsz]; omega) fun j v hj => ?_;have e : w.drew.cell? ((⟨b, 0, none⟩ : Addr).add j) = w.cell? ⟨b, j, none⟩ := by simp only [Addr.add]; by_cases hj0 : j = 0 <;> simp [hj0]
      rw [e, hr.cell, rn, List.getElem?_append_left (List.getElem?_eq_some_iff.1 hj).1]; exact hj
   refine ⟨_, _, _, run_append_grow_src w 22 22 ty 27 i (.agg #[.bool false, .slice none 0 0]) Try.underlying22 hi hz ao k k (flat ps) hold _ 1 _ hsrc (by omega) (by omega) (growslice_fits (by omega) (by rw [hby]; omega)), ⟨by simp [hk], grownCap_ge .., .inr ⟨_, (Builtin.zeroCells (Value.agg #[.bool false, .slice none 0 0]).cells (grownCap w (k + 1) k 27 - (k + 1))).toList, rfl, zero_nums _, ?_, ?_⟩⟩, Chg.alloc' _ w _, fun g ⟨o, e⟩ => by cases e; exact .inr (Nat.le_refl _)⟩
   · have hnew := RowAt.new w.drew ((flat ps ++ [Value.bool p.1, .slice p.2.1 p.2.2.1 p.2.2.2]).toArray ++ Builtin.zeroCells (Value.agg #[.bool false, .slice none 0 0]).cells (grownCap w (k + 1) k 27 - (k + 1))) 27;rw [rn, flat_append];simpa [flat] using hnew
   · have hge := grownCap_ge w (k + 1) k 27;have hz2 : (Builtin.zeroCells (Value.agg #[.bool false, .slice none 0 0]).cells (grownCap w (k + 1) k 27 - (k + 1))).toList.length = (grownCap w (k + 1) k 27 - (k + 1)) * 2 := by rw [Array.length_toList, size_zeroCells]; rfl
     rw [rn, List.length_append, flat_length, List.length_append, hz2]; simp; omega
section
variable {ops : Array Oper} {Q : Exit -> Act -> World -> Prop} {S0 : Nat -> Prop} {w0 : World} {E0 : List En} {hd : List (List Nat)} {n j s : Nat} {l : List Nat} {G E : List En} {ls : List (Nat × Value)} {op : Op} {ty : TypeId} {pos : String} {af : Array Edge}
theorem appN {i k cap g : Nat} {ao : Option Addr} {ps : List P4} {t : TypeId} {c : Nat} (p : P4) {sa xa : Operand} {E' : Option Addr × Nat -> List En} (hb : k <= 100000000)
 (hm : En.row g t [.bool p.1, .slice p.2.1 p.2.2.1 p.2.2.2] ∈ G ++ E)
 (k' : ∀ q, RWs ⟨Try.prog, ops, Q, S0, w0, E0, hd⟩ n l G (E' q) ((s, .slice q.1 (k + 1) q.2) :: ls))
 (ho : ops[j]? = some ⟨some s, .call { callee := Callee.builtin Builtin.append, args := #[sa, xa], argTypes := #[22, 22] }, ty, pos, af, none⟩ := by rfl) (hk : (chkO ls (.call { callee := Callee.builtin Builtin.append, args := #[sa, xa], argTypes := #[22, 22] }) && Nat.blt s n) = true := by kernel_rfl)
 (ha : evl ls sa = .slice ao k cap := by (simp only [evlN, Nat.reduceEqDiff, ↓reduceIte]) <;> rfl)
 (hv : evl ls xa = .slice (some ⟨g, 0, none⟩) 1 c := by (simp only [evlN, Nat.reduceEqDiff, ↓reduceIte, av]) <;> rfl)
 (hE : ∀ q, Up (.lst ao k cap ps) (.lst q.1 (k + 1) q.2 (ps ++ [p])) i E (E' q) := by intro q; repeat first | exact .z | apply Up.s)
 (hst : okSt ops hd j [i] = true := by kernel_rfl) : RWs ⟨Try.prog, ops, Q, S0, w0, E0, hd⟩ n (j :: l) G E ls := fun a hA => by
 simp only [Bool.and_eq_true] at hk;refine ⟨_, ho, .inr (.inr ⟨rfl, rfl, Option Addr × Nat, fun q => .slice q.1 (k + 1) q.2, fun _ => G, E', [i], ⟨(none, 0)⟩, fun X w hX hw => ?_, hst, fun q r hr => (hE q).other (by simpa using hr), fun q => k' q _ (hA.put (Nat.le_of_ble_eq_true hk.2) _)⟩)⟩;have hrow : RowAt w g t [.bool p.1, .slice p.2.1 p.2.2.1 p.2.2.2] := hw.all _ (List.mem_append_right _ hm);have hl : LstF ao k cap ps w := by
  obtain ⟨m, h1, h2⟩ := (hE (none, 0)).right' X G;exact (hw.perm h1).all _ (List.mem_cons_self ..)
 obtain ⟨ao', cap', w', hrun, h1', hc, hS⟩ := app_run (ty := ty) hl hb (ad := ⟨g, 0, none⟩) (c := c) (hrow.cell 0) (hrow.cell 1);obtain ⟨m, h1, h2⟩ := (hE (ao', cap')).right' X G;refine ifw rfl ?_;show wpR _ _ ((execOp a.eval _).run _ w);rw [hA.exec (o := ⟨some s, .call { callee := Callee.builtin Builtin.append, args := #[sa, xa], argTypes := #[22, 22] }, ty, pos, af, none⟩) hk.1];have e : (execOp (evl ls) ⟨some s, .call { callee := Callee.builtin Builtin.append, args := #[sa, xa], argTypes := #[22, 22] }, ty, pos, af, none⟩).run Try.prog w = .ok (.value (.slice ao' (k + 1) cap')) w' := by
  simp [execOp, resolve, invoke, builtin, ha, hv, hrun, Result.andThen]
 rw [e];refine ⟨(ao', cap'), rfl, Fr.perm ((hw.perm h1).upd (e := .lst ao k cap ps) (e' := .lst ao' (k + 1) cap' (ps ++ [p])) rfl hc (fun x hx _ => ?_) (fun _ h => h) h1' hS) h2.symm⟩;rintro b ⟨o, rfl⟩;obtain ⟨_, _, ⟨h, _⟩ | ⟨b', tl, h, ht, hr, _⟩⟩ := hl
 · cases h
 · cases h; exact ⟨_, _, hr, NoW.rn ht, by decide⟩
end
theorem OwnW.blk {w : World} {B : Nat} {ao : Option Addr} {len cap : Nat} {ws : List Nat} (h : OwnW w B ao len cap ws) {g o : Nat} (e : ao = some ⟨g, o, none⟩) : B <= g := by
 obtain ⟨_, _, _, ⟨h4, _⟩ | ⟨g', c, cur, hv, hb, _⟩⟩ := h
 · cases h4; cases e
 · cases hv; cases e; exact hb
section
variable {P : Program} {ops : Array Oper} {Q : Exit -> Act -> World -> Prop} {S0 : Nat -> Prop} {w0 : World} {E0 : List En} {hd : List (List Nat)} {n j s : Nat} {l : List Nat} {G E : List En} {ls : List (Nat × Value)} {op : Op} {ty : TypeId} {pos : String} {af : Array Edge} {f : FuncId} {args : Array Value}
theorem cW1 {m : Nat} (c : ∀ w, Fr S0 w0 w (G ++ E) -> Calls P f args w fun e w' => (∃ ao cap, e = .returned (.slice ao (wlen m) cap) /\ OwnW w' w.heap.size ao (wlen m) cap (dig m)) /\ Below w.heap.size w w')
 (k : ∀ ao cap, RWs ⟨P, ops, Q, S0, w0, E0, hd⟩ n l (.ow w0.heap.size ao m cap :: .wat ao (dig m) :: G) E ((s, .slice ao (wlen m) cap) :: ls))
 (ho : ops[j]? = some ⟨some s, op, ty, pos, af, none⟩ := by rfl) (hk : (!isDet op && !isNew op && chkO ls op && Nat.blt s n) = true := by kernel_rfl)
 (hr : ∀ w, (execOp (evl ls) ⟨some s, op, ty, pos, af, none⟩).run P w = .ok (.enter f args) w := by intro w; (try simp only [av]); go_simp <;> with_reducible rfl)
 (hst : okSt ops hd j [] = true := by kernel_rfl) : RWs ⟨P, ops, Q, S0, w0, E0, hd⟩ n (j :: l) G E ls := by
 refine cG (α := Option Addr × Nat) (mk := fun p => .slice p.1 (wlen m) p.2) (ens := fun p => [.ow w0.heap.size p.1 m p.2, .wat p.1 (dig m)]) (fun w hw => (c w hw).mono ?_) (fun p => k p.1 p.2) ho hk hr ⟨(none, 0)⟩ hst;rintro e w' ⟨⟨ao, cap, rfl, hv⟩, hb⟩;exact ⟨(ao, cap), rfl, hb, fun e he => by
  rcases List.mem_cons.1 he with rfl | he
  · exact ⟨hv.mono hw.size, fun _ h => h.elim⟩
  · rcases List.mem_singleton.1 he with rfl;exact ⟨hv.at_, fun b ⟨_, o, e⟩ => hv.blk e⟩, List.pairwise_pair.2 ⟨(fun h => nomatch h), (fun h => nomatch h)⟩⟩
end
section
variable {P : Program} {Q : Exit -> Act -> World -> Prop} {S0 : Nat -> Prop} {w0 : World} {n : Nat} {ls : List (Nat × Value)} {es : List En} {c : Code}
theorem posW {ao : Option Addr} {ws : List Nat} (hm : En.wat ao ws ∈ es) (hl : 0 < ws.length) (k : ∀ b o, ao = some ⟨b, o, none⟩ -> CW P n S0 w0 c Q ls es) : CW P n S0 w0 c Q ls es := fun a w ha hw => by
 have hA : WAt w ao ws := hw.all _ hm;obtain ⟨b, o, e, _⟩ := hA.2 hl;exact k b o e a w ha hw
theorem word00W {ws : List Nat} {b o : Nat} (hm : En.wat (some ⟨b, o, none⟩) ws ∈ es) (hi : 0 < ws.length) (k : CW P n S0 w0 c Q ls (.cell ⟨b, o, none⟩ (.int .u64 ((gw ws 0 : Nat) : Int)) :: es)) : CW P n S0 w0 c Q ls es :=
 wordW 0 hm hi k
end
section
variable {P : Program} {ops : Array Oper} {Q : Exit -> Act -> World -> Prop} {S0 : Nat -> Prop} {w0 : World} {E0 : List En} {hd : List (List Nat)} {n j s : Nat} {l : List Nat} {G E : List En} {ls : List (Nat × Value)} {op : Op} {ty : TypeId} {pos : String} {af : Array Edge} {f : FuncId} {args : Array Value}
theorem bW {t : TypeId} {cs : List Value} {m : Nat} (k : ∀ g, RWs ⟨P, ops, Q, S0, w0, E0, hd⟩ n l (.row g t cs :: G) E ((s, .slice (some ⟨g, 0, none⟩) m m) :: ls))
 (ho : ops[j]? = some ⟨some s, op, ty, pos, af, none⟩ := by rfl) (hk : (!isDet op && isNew op && chkO ls op && Nat.blt s n) = true := by kernel_rfl)
 (hr : ∀ w, (execOp (evl ls) ⟨some s, op, ty, pos, af, none⟩).run P w = .ok (.value (.slice (some ⟨w.heap.size, 0, none⟩) m m)) (w.alloc (.cells cs.toArray t (0, 0))) := by intro w; (try simp only [av]); go_simp <;> with_reducible rfl) : RWs ⟨P, ops, Q, S0, w0, E0, hd⟩ n (j :: l) G E ls := fun a ha => by
 simp only [Bool.and_eq_true, Bool.not_eq_true'] at hk;refine ⟨_, ho, .inr (.inl ⟨hk.1.1.1, hk.1.1.2, fun g => .slice (some ⟨g, 0, none⟩) m m, t, cs, ⟨rfl, fun w => ?_⟩, fun g => k g _ (ha.put (Nat.le_of_ble_eq_true hk.2) _)⟩)⟩;rw [ha.exec hk.1.2];exact hr w
theorem cW2 {m q : Nat} {z : Value} (c : ∀ w, Fr S0 w0 w (G ++ E) -> Calls P f args w fun e w' => (∃ ao ca bo cb, e = .returned (.tuple #[.slice ao (wlen m) ca, .slice bo (wlen q) cb, z]) /\ OwnW w' w.heap.size ao (wlen m) ca (dig m) /\ OwnW w' w.heap.size bo (wlen q) cb (dig q)) /\ Below w.heap.size w w')
 (k : ∀ ao ca bo cb, RWs ⟨P, ops, Q, S0, w0, E0, hd⟩ n l (.ow w0.heap.size ao m ca :: .wat ao (dig m) :: .ow w0.heap.size bo q cb :: .wat bo (dig q) :: G) E ((s, .tuple #[.slice ao (wlen m) ca, .slice bo (wlen q) cb, z]) :: ls))
 (ho : ops[j]? = some ⟨some s, op, ty, pos, af, none⟩ := by rfl) (hk : (!isDet op && !isNew op && chkO ls op && Nat.blt s n) = true := by kernel_rfl)
 (hr : ∀ w, (execOp (evl ls) ⟨some s, op, ty, pos, af, none⟩).run P w = .ok (.enter f args) w := by intro w; (try simp only [av]); go_simp <;> with_reducible rfl)
 (hst : okSt ops hd j [] = true := by kernel_rfl) : RWs ⟨P, ops, Q, S0, w0, E0, hd⟩ n (j :: l) G E ls := by
 refine cG (α := (Option Addr × Nat) × Option Addr × Nat) (mk := fun p => .tuple #[.slice p.1.1 (wlen m) p.1.2, .slice p.2.1 (wlen q) p.2.2, z]) (ens := fun p => [.ow w0.heap.size p.1.1 m p.1.2, .wat p.1.1 (dig m), .ow w0.heap.size p.2.1 q p.2.2, .wat p.2.1 (dig q)]) (fun w hw => (c w hw).mono ?_) (fun p => k p.1.1 p.1.2 p.2.1 p.2.2) ho hk hr ⟨((none, 0), (none, 0))⟩ hst;rintro e w' ⟨⟨ao, ca, bo, cb, rfl, hv, hv'⟩, hb⟩;refine ⟨((ao, ca), (bo, cb)), rfl, hb, fun e he => ?_, ?_⟩
 · simp only [List.mem_cons, List.not_mem_nil, or_false] at he;rcases he with rfl | rfl | rfl | rfl
   · exact ⟨hv.mono hw.size, fun _ h => h.elim⟩
   · exact ⟨hv.at_, fun b ⟨_, o, e⟩ => hv.blk e⟩
   · exact ⟨hv'.mono hw.size, fun _ h => h.elim⟩
   · exact ⟨hv'.at_, fun b ⟨_, o, e⟩ => hv'.blk e⟩
 · refine (List.pairwise_of_forall_mem_list (r := Ap) (l := [En.ow w0.heap.size ao m ca, .wat ao (dig m), .ow w0.heap.size bo q cb, .wat bo (dig q)]) fun a ha b hb => ?_);simp only [List.mem_cons, List.not_mem_nil, or_false] at ha hb;rcases ha with rfl | rfl | rfl | rfl <;> rcases hb with rfl | rfl | rfl | rfl <;> exact ⟨(fun h => nomatch h), (fun h => nomatch h)⟩
end
theorem wlen_nval_le {ws : List Nat} (h : Ok ws) : wlen (nval ws) <= ws.length := by rw [wlen_nval h]; exact tlen_le ws
theorem ow_own {B m cap : Nat} {ao : Option Addr} {w : World} (h : OwnW w B ao (wlen m) cap (dig m)) : OwnI w B (.agg #[.bool false, .slice ao (wlen m) cap]) (m : Int) := OwnI.mk false h
theorem LsAt.pos {w : World} {L : Nat} {ao : Option Addr} {xs : List Int} (h : LsAt w L ao xs) {i : Nat} (hi : i < xs.length) : ∃ b o, ao = some ⟨b, o, none⟩ := by
 obtain ⟨b, o, e, _⟩ := h (by omega);exact ⟨b, o, e⟩
theorem lst_lsN {w : World} {ao : Option Addr} {k cap : Nat} {ps : List P4} {xs : List Int} (h : LstF ao k cap ps w) (hn : NsAt w ps xs) : LsN w ao xs := fun hl => by
 obtain ⟨h1, _, ⟨_, h2⟩ | ⟨b, tl, rfl, ht, hr, _⟩⟩ := h
 · have := hn.1; omega
 · exact (RowN.mk' hr ht hn).lsN hl
theorem rvM {ls : List (Nat × Value)} {w : World} {t b : Nat} {x y z : Value} (h : RowAt w b 37 [x, y, z]) (h1 : inLs ls (.tmp t) = true := by kernel_rfl) (h2 : evl ls (.tmp t) = .pointer (some ⟨b, 0, none⟩) := by (simp only [evlN, Nat.reduceEqDiff, ↓reduceIte]) <;> rfl) : rvOk Try.prog ls w (.cell t 37) (.agg #[x, y, z]) :=
 ⟨h1, _, h2, run_loadVar_row w b 37 37 #[x, y, z] (0, 0) _ h Try.underlying37 rfl (by kernel_rfl)⟩
section
variable {P : Program} {ops : Array Oper} {Q : Exit -> Act -> World -> Prop} {S0 : Nat -> Prop} {w0 : World} {E0 : List En} {hd : List (List Nat)} {n j s sg g : Nat} {l : List Nat} {G E : List En} {ls : List (Nat × Value)} {op : Op} {ty : TypeId} {pos : String} {af : Array Edge} {f : FuncId} {args : Array Value} {v : Value} {want : Bool}
theorem cGg {α : Type} {mk : α -> Value} {ens : α -> List En} (c : ∀ w, Fr S0 w0 w (G ++ E) -> Calls P f args w fun e w' => ∃ p, e = .returned (mk p) /\ Nw w w' (ens p))
 (k : ∀ p, RWs ⟨P, ops, Q, S0, w0, E0, hd⟩ n l (ens p ++ G) E ((s, mk p) :: ls))
 (ho : ops[j]? = some ⟨some s, op, ty, pos, af, some (g, want)⟩ := by rfl) (hk : (!isDet op && !isNew op && chkO ls op && Nat.blt s n) = true := by kernel_rfl)
 (hg : (ops[g]?).bind (·.dst) = some sg := by rfl) (hi : inLs ls (.tmp sg) = true := by kernel_rfl) (hb : evl ls (.tmp sg) = .bool want := by (simp only [evlN, Nat.reduceEqDiff, ↓reduceIte]) <;> first | rfl | simp [*])
 (hr : ∀ w, (execOp (evl ls) ⟨some s, op, ty, pos, af, some (g, want)⟩).run P w = .ok (.enter f args) w := by intro w; (try simp only [av]); go_simp <;> with_reducible rfl) (hne : Nonempty α := by infer_instance)
 (hst : okSt ops hd j [] = true := by kernel_rfl) : RWs ⟨P, ops, Q, S0, w0, E0, hd⟩ n (j :: l) G E ls := fun a ha => by
 simp only [Bool.and_eq_true, Bool.not_eq_true'] at hk;refine ⟨_, ho, .inr (.inr ⟨hk.1.1.1, hk.1.1.2, α, mk, fun p => ens p ++ G, fun _ => E, [], hne, fun X w hX hw => ?_, hst, fun _ _ _ => rfl, fun p => k p _ (ha.put (Nat.le_of_ble_eq_true hk.2) _)⟩)⟩;rw [if_pos (by rw [wanted_of ha hg hi hb]; simp)];show wpR P _ ((execOp a.eval _).run P w);rw [ha.exec hk.1.2, hr w];refine (c w (hw.sub (List.sublist_append_right ..))).mono ?_;rintro e w' ⟨p, rfl, hn⟩;refine ⟨_, rfl, p, rfl, (hn.fr hw).perm ?_⟩;rw [List.append_assoc];exact (List.perm_append_comm_assoc (ens p) X (G ++ E))
theorem cVg (c : ∀ w, Fr S0 w0 w (G ++ E) -> Calls P f args w fun e w' => e = .returned v /\ Below w.heap.size w w')
 (k : RWs ⟨P, ops, Q, S0, w0, E0, hd⟩ n l G E ((s, v) :: ls))
 (ho : ops[j]? = some ⟨some s, op, ty, pos, af, some (g, want)⟩ := by rfl) (hk : (!isDet op && !isNew op && chkO ls op && Nat.blt s n) = true := by kernel_rfl)
 (hg : (ops[g]?).bind (·.dst) = some sg := by rfl) (hi : inLs ls (.tmp sg) = true := by kernel_rfl) (hb : evl ls (.tmp sg) = .bool want := by (simp only [evlN, Nat.reduceEqDiff, ↓reduceIte]) <;> first | rfl | simp [*])
 (hr : ∀ w, (execOp (evl ls) ⟨some s, op, ty, pos, af, some (g, want)⟩).run P w = .ok (.enter f args) w := by intro w; (try simp only [av]); go_simp <;> with_reducible rfl)
 (hst : okSt ops hd j [] = true := by kernel_rfl) : RWs ⟨P, ops, Q, S0, w0, E0, hd⟩ n (j :: l) G E ls := by
 refine cGg (α := Unit) (mk := fun _ => v) (ens := fun _ => []) (fun w hw => (c w hw).mono ?_) (fun _ => k) ho hk hg hi hb hr ⟨()⟩ hst;rintro e w' ⟨rfl, hb⟩;exact ⟨(), rfl, hb, fun e he => (List.not_mem_nil he).elim, .nil⟩
theorem uC (k : RWs ⟨P, ops, Q, S0, w0, E0, hd⟩ n l G E ((s, undef) :: ls))
 (ho : ops[j]? = some ⟨some s, op, ty, pos, af, some (g, want)⟩ := by rfl) (hk : (!isDet op && !isNew op && Nat.blt s n) = true := by kernel_rfl)
 (hg : (ops[g]?).bind (·.dst) = some sg := by rfl) (hi : inLs ls (.tmp sg) = true := by kernel_rfl) (hb : evl ls (.tmp sg) = .bool (!want) := by (simp only [evlN, Nat.reduceEqDiff, ↓reduceIte]) <;> first | rfl | simp [*])
 (hst : okSt ops hd j [] = true := by kernel_rfl) : RWs ⟨P, ops, Q, S0, w0, E0, hd⟩ n (j :: l) G E ls := fun a ha => by
 simp only [Bool.and_eq_true, Bool.not_eq_true'] at hk;refine ⟨_, ho, .inr (.inr ⟨hk.1.1, hk.1.2, Unit, fun _ => undef, fun _ => G, fun _ => E, [], ⟨()⟩, fun X w hX hw => ?_, hst, fun _ _ _ => rfl, fun _ => k _ (ha.put (Nat.le_of_ble_eq_true hk.2) _)⟩)⟩;rw [if_neg (by rw [wanted_of ha hg hi hb]; simp)];exact ⟨(), rfl, hw⟩
theorem bWg {t : TypeId} {cs : List Value} {m : Nat} (k : ∀ g, RWs ⟨P, ops, Q, S0, w0, E0, hd⟩ n l (.row g t cs :: G) E ((s, .slice (some ⟨g, 0, none⟩) m m) :: ls))
 (ho : ops[j]? = some ⟨some s, op, ty, pos, af, some (g, want)⟩ := by rfl) (hk : (!isDet op && isNew op && chkO ls op && Nat.blt s n) = true := by kernel_rfl)
 (hg : (ops[g]?).bind (·.dst) = some sg := by rfl) (hi : inLs ls (.tmp sg) = true := by kernel_rfl) (hb : evl ls (.tmp sg) = .bool want := by (simp only [evlN, Nat.reduceEqDiff, ↓reduceIte]) <;> first | rfl | simp [*])
 (hr : ∀ w, (execOp (evl ls) ⟨some s, op, ty, pos, af, some (g, want)⟩).run P w = .ok (.value (.slice (some ⟨w.heap.size, 0, none⟩) m m)) (w.alloc (.cells cs.toArray t (0, 0))) := by intro w; (try simp only [av]); go_simp <;> with_reducible rfl) : RWs ⟨P, ops, Q, S0, w0, E0, hd⟩ n (j :: l) G E ls := fun a ha => by
 simp only [Bool.and_eq_true, Bool.not_eq_true'] at hk;refine ⟨_, ho, .inr (.inl ⟨hk.1.1.1, hk.1.1.2, fun g => .slice (some ⟨g, 0, none⟩) m m, t, cs, ⟨?_, fun w => ?_⟩, fun g => k g _ (ha.put (Nat.le_of_ble_eq_true hk.2) _)⟩)⟩
 · show Region.wanted _ (yielded ops a.tmps) = true;rw [wanted_of ha hg hi hb]; simp
 · rw [ha.exec hk.1.2];exact hr w
end
theorem cNo' {P : Program} {f : FuncId} {args : Array Value} {w : World} {B : Nat} {x : Int} (h : Calls P f args w fun e w' => (∃ v, e = .returned v /\ OwnI w' w.heap.size v x) /\ Below w.heap.size w w') (hB : B <= w.heap.size) : Calls P f args w fun e w' => ∃ p : P4, e = .returned (av p) /\ Nw w w' [.own B (av p) x] := h.mono fun e w' ⟨⟨v, he, hv⟩, hb⟩ => by
 subst he;obtain ⟨b, ao, l', k', rfl⟩ := OwnI.parts hv;exact ⟨(b, ao, l', k'), rfl, hb, fun e he => by
  rcases List.mem_singleton.1 he with rfl;exact ⟨OwnI.mono hv hB, fun _ h => h.elim⟩, List.pairwise_singleton ..⟩
section
variable {ops : Array Oper} {Q : Exit -> Act -> World -> Prop} {S0 : Nat -> Prop} {w0 : World} {E0 : List En} {hd : List (List Nat)} {n j s : Nat} {l : List Nat} {G E : List En} {ls : List (Nat × Value)} {ty : TypeId} {pos : String} {af : Array Edge}
end
set_option maxRecDepth 100000 in
set_option maxHeartbeats 2000000 in
theorem RSame_c (aoA aoB : Option Addr) (lA cA lB cB : Nat) (xs ys : List Nat) (w : World) (hA : WAt w aoA xs) (hB : WAt w aoB ys) (hlA : lA = xs.length) (hlB : lB = ys.length) (hmA : lA <= 17592186044415) (hmB : lB <= 17592186044415) :
 Calls Try.prog 27 #[.slice aoA lA cA, .slice aoB lB cB] w fun e w' => e = .returned (.bool (decide (xs = ys))) /\ Below w.heap.size w w' := by
 subst hlA hlB;have HA := Lib.hid hA; clear hA;have HB := Lib.hid hB; clear hB;go_enter Try.func27, Try.ntmps27;by_cases hs : xs.length = ys.length
 · have hb : (((xs.length : Nat) : Int) != ((ys.length : Nat) : Int)) = false := by rw [hs]; simp
   have Hs := Lib.hid hs; clear hs;go_wp2;go_loopw [5] (fun i wr => ∃ k : Nat, k <= xs.length /\ i = .int .i64 (k : Int) /\ Hid (∀ j, j < k -> gw xs j = gw ys j) /\ Below w.heap.size w wr) (fun i _ => xs.length - (intOf i).toNat)
   case atStart => exact ⟨0, Nat.zero_le _, rfl, Lib.hid (fun j hj => by omega), Below.refl _ _⟩
   case round =>
    obtain ⟨k, hk, rfl, hag, hbl⟩ := hrel;by_cases h0 : k < xs.length
    · have h01 : (k : Int) < (xs.length : Int) := by omega
      have h02 : (k : Int) < (ys.length : Int) := by have := Hs.out; omega
      obtain ⟨b1, o1, rfl, hb1, hc1⟩ := (HA.out.below hbl).pos (by omega);obtain ⟨b2, o2, rfl, hb2, hc2⟩ := (HB.out.below hbl).pos (by omega);have e1 := hc1 k h0;have e2 := hc2 k (by omega);clear hc1 hc2;by_cases hne : gw xs k = gw ys k
      · have t1 : (((gw xs k : Nat) : Int) != ((gw ys k : Nat) : Int)) = false := by rw [hne]; simp
        have HN := Lib.hid hne; clear hne;go_wp2
        go_quiet (fail)
        go_wp2;go_roundw
        case rel => exact ⟨k + 1, by omega, by go_num, Lib.hid (fun j hj => by
         by_cases e : j = k
         · subst e; exact HN.out
         · exact hag.out j (by omega)), below_drewN hbl _⟩
        case measure => simp [intOf]; omega
      · have t1 : (((gw xs k : Nat) : Int) != ((gw ys k : Nat) : Int)) = true := by rw [bne_iff_ne]; omega
        have hd : decide (xs = ys) = false := by
         rw [decide_eq_false_iff_not]; intro e; exact hne (by rw [e])
        have HD := Lib.hid hd; clear hd hne;go_wp2
        go_quiet (fail)
        go_wp2;go_ret;exact ⟨by rw [HD.out]; rfl, below_drewN hbl _⟩
    · obtain rfl : k = xs.length := by omega
      have hd : decide (xs = ys) = true := by
       rw [decide_eq_true_iff];refine List.ext_getElem Hs.out fun j h1 h2 => ?_;have := hag.out j h1;unfold gw at this;simpa [h1, h2] using this
      have HD := Lib.hid hd; clear hd;go_wp2;go_ret;exact ⟨by rw [HD.out]; rfl, hbl⟩
 · have hb : (((xs.length : Nat) : Int) != ((ys.length : Nat) : Int)) = true := by rw [bne_iff_ne]; omega
   have hd : decide (xs = ys) = false := by
    rw [decide_eq_false_iff_not]; intro e; exact hs (by rw [e])
   have HD := Lib.hid hd; clear hd hs;go_wp2;go_ret;exact ⟨by rw [HD.out]; rfl, Below.refl _ _⟩
theorem alike_bool (x y : Int) : (decide (dig x.natAbs = dig y.natAbs) && (decide (x < 0) == decide (y < 0))) = decide (x = y) := by
 have h1 : dig x.natAbs = dig y.natAbs ↔ x.natAbs = y.natAbs := ⟨fun h => by rw [<- nval_dig x.natAbs, h, nval_dig], fun h => by rw [h]⟩;rw [Bool.eq_iff_iff];simp only [Bool.and_eq_true, decide_eq_true_eq, beq_iff_eq, h1, decide_eq_decide];omega
theorem incB {a : Nat} (h : a < 9223372036854775807) : Value.int .i64 (IntKind.i64.wrap ((a : Int) + 1)) = .int .i64 ((a + 1 : Nat) : Int) := by
 rw [wrap_small] <;> first | rfl | omega
theorem sumI {a b : Nat} (h : a + b < 9223372036854775807) : Value.int .i64 (IntKind.i64.wrap ((a : Int) + b)) = .int .i64 ((a + b : Nat) : Int) := by
 rw [wrap_small] <;> first | rfl | omega
theorem mulI {a b : Nat} (h : a * b < 9223372036854775808) : Value.int .i64 (IntKind.i64.wrap ((a : Int) * b)) = .int .i64 ((a * b : Nat) : Int) := by
 rw [<- Int.natCast_mul, wrap_small] <;> first | rfl | omega
theorem minI (a b : Nat) : Value.int .i64 (min (a : Int) b) = .int .i64 ((min a b : Nat) : Int) := by congr 1; omega
theorem u64I {n : Nat} (h : n < W) : Value.int .u64 (IntKind.u64.wrap (n : Int)) = .int .u64 (n : Int) := by
 congr 1;unfold W at h;simp only [IntKind.wrap, IntKind.signed, IntKind.bits];simp; omega
theorem lsAt_of {w : World} {L b : Nat} {ps : List P4} {tl : List Value} {xs : List Int} (hr : RowAt w b 27 (rn ps tl)) (hl : ps.length = xs.length) (h : ∀ i, i < xs.length -> IntAt w L (av (gp ps i)) (gi xs i)) : LsAt w L (some ⟨b, 0, none⟩) xs := fun _ =>
 ⟨b, 0, rfl, hr.lt, fun i hi => ⟨gp ps i, by rw [Nat.zero_add]; exact (hr.cell _).trans (rn0 tl (by omega)), by rw [Nat.zero_add]; exact (hr.cell _).trans (rn1 tl (by omega)), by have := h i hi; rwa [gi_eq hi] at this⟩⟩
set_option maxRecDepth 100000 in
set_option maxHeartbeats 1000000 in
theorem KLike_c (v u : Value) (x y : Int) (w : World) (h1 : NumAt w v x) (h2 : NumAt w u y) (hx : wlen x.natAbs <= 17592186044415) (hy : wlen y.natAbs <= 17592186044415) :
 Calls Try.prog 12 #[v, u] w fun e w' => e = .returned (.bool (decide (x = y))) /\ Below w.heap.size w w' := by
 obtain ⟨ao1, cap1, rfl, hW1, _⟩ := h1.least;obtain ⟨ao2, cap2, rfl, hW2, _⟩ := h2.least;have hAL := alike_bool x y;obtain ⟨n1, hn1⟩ : ∃ n1, decide (x < 0) = n1 := ⟨_, rfl⟩;obtain ⟨n2, hn2⟩ : ∃ n2, decide (y < 0) = n2 := ⟨_, rfl⟩;obtain ⟨m, hm⟩ : ∃ m, decide (dig x.natAbs = dig y.natAbs) = m := ⟨_, rfl⟩;have hS := fun w' => RSame_c ao1 ao2 (wlen x.natAbs) cap1 (wlen y.natAbs) cap2 (dig x.natAbs) (dig y.natAbs) w';simp only [hm] at hS;obtain ⟨r, hr⟩ : ∃ r, decide (x = y) = r := ⟨_, rfl⟩;rw [hn1, hn2, hm, hr] at hAL;rw [hn1, hn2, hr];refine funW (S0 := fun _ => False) Try.func12 (Fr.nil _ w) ?_;refine goW ?_;refine rW [] ?_;refine aW fun g2 => ?_;refine aW fun g3 => ?_;refine dW ?_;refine eW ?_;refine goW ?_;refine rW [] ?_;refine dW ?_;refine dW ?_;refine dW ?_;refine dW ?_;clear hn1 hn2 hm hr;by_cases e : n1 = n2
 · subst e;have hAL : m = r := by simpa using hAL
   subst hAL;refine dB true ?_;refine dW ?_;refine dG ?_;refine dG ?_;refine dG ?_;refine dG ?_;refine cVg (fun w' H => hS w' (hW1.below H.below) (hW2.below H.below) rfl rfl hx hy) ?_;refine dW ?_;refine dW ?_;refine eW ?_;refine goW ?_;refine fin1 fun w' H => ?_;exact ⟨_, rvT, rfl, H.below⟩
 · have hr : r = false := by rw [<- hAL]; cases n1 <;> cases n2 <;> simp_all
   subst hr;refine dB false ?_;refine dW ?_;refine uG ?_;refine uG ?_;refine uG ?_;refine uG ?_;refine uC ?_;refine dW ?_;refine dW ?_;refine eW ?_;refine goW ?_;refine fin1 fun w' H => ?_;exact ⟨_, rvT, rfl, H.below⟩
theorem Fr.ln {S0 : Nat -> Prop} {w0 w : World} {es : List En} (h : Fr S0 w0 w es) {ao : Option Addr} {xs : List Int} (hx : LsN w ao xs) (hS : ∀ e ∈ es, e.wr = false) : Fr S0 w0 w (.lsn ao xs :: es) :=
 h.cons hx (fun e he => ⟨(fun q => nomatch q), fun q => by rw [hS e he] at q; cases q⟩) (fun q => nomatch q)
theorem LsN.pos {w : World} {ao : Option Addr} {xs : List Int} (h : LsN w ao xs) {i : Nat} (hi : i < xs.length) : ∃ b o, ao = some ⟨b, o, none⟩ := by
 obtain ⟨b, o, e, _⟩ := h (by omega);exact ⟨b, o, e⟩
section
variable {P : Program} {Q : Exit -> Act -> World -> Prop} {S0 : Nat -> Prop} {w0 : World} {n : Nat} {ls : List (Nat × Value)} {es : List En} {c : Code}
theorem numNW {xs : List Int} {b o : Nat} (i : Nat) (hm : En.lsn (some ⟨b, o, none⟩) xs ∈ es) (hi : i < xs.length) (k : ∀ p : P4, CW P n S0 w0 c Q ls (.cell ⟨b, o + i * 2, none⟩ (.bool p.1) :: .cell ⟨b, o + i * 2 + 1, none⟩ (.slice p.2.1 p.2.2.1 p.2.2.2) :: .num (av p) (gi xs i) :: es)) : CW P n S0 w0 c Q ls es := fun a w ha hw => by
 have hA : LsN w (some ⟨b, o, none⟩) xs := hw.all _ hm;obtain ⟨b', o', e, hb, hc⟩ := hA (by omega);cases e;obtain ⟨p, h0, h1, hx⟩ := hc i hi;rw [<- gi_eq hi] at hx;have hS : (En.lsn (some ⟨b, o, none⟩) xs).S b := ⟨by omega, o, rfl⟩;exact k p a w ha (((hw.pure (e := .num (av p) (gi xs i)) hx (fun _ h => h)).cellOf (List.mem_cons_of_mem _ hm) rfl hS h1).cellOf (List.mem_cons_of_mem _ (List.mem_cons_of_mem _ hm)) rfl hS h0)
end
set_option maxRecDepth 100000 in
set_option maxHeartbeats 2000000 in
theorem KLikeRow_c (aoA aoB : Option Addr) (cA cB : Nat) (xs ys : List Int) (w : World) (hA : LsN w aoA xs) (hB : LsN w aoB ys) (hmA : xs.length <= 8796093022208) (hmB : ys.length <= 8796093022208)
 (hx : ∀ x ∈ xs, wlen x.natAbs <= 17592186044415) (hy : ∀ x ∈ ys, wlen x.natAbs <= 17592186044415) :
 Calls Try.prog 13 #[.slice aoA xs.length cA, .slice aoB ys.length cB] w fun e w' => e = .returned (.bool (decide (xs = ys))) /\ Below w.heap.size w w' := by
 refine funW (S0 := fun _ => False) Try.func13 (((Fr.nil _ w).ln hA (by simp)).ln hB (by simp [En.wr, En.lsn])) ?_;refine goW ?_;refine rW [] ?_;refine dW ?_;refine eW ?_;refine goW ?_;refine rW [] ?_;refine dW ?_;refine dW ?_;refine dW ?_;refine dW ?_;by_cases hs : xs.length = ys.length
 · have HS := Lib.hid hs;have hne : ((xs.length : Int) != (ys.length : Int)) = false := by rw [hs]; simp
   clear hs;refine dB false ?_;refine eW ?_;refine goW ?_;refine cfW ?_;refine goW ?_;refine rW [] ?_;refine dW ?_;refine eW ?_;refine goW ?_;refine loopW (X := Nat) (fun i => i <= xs.length /\ ∀ k, k < i -> gi xs k = gi ys k) (fun i => xs.length - i) (fun i => [(5, .int .i64 (i : Int)), (0, .slice aoA xs.length cA), (1, .slice aoB ys.length cB)]) (fun _ => [.lsn aoB ys, .lsn aoA xs]) 0 ⟨Nat.zero_le _, fun k h => absurd h (Nat.not_lt_zero k)⟩ fun i hz => ?_;obtain ⟨hi, hag⟩ := hz;by_cases h : i < xs.length
   · have h' : i < ys.length := by have := HS.out; omega
     obtain ⟨bx, ox, rfl⟩ := hA.pos h;obtain ⟨b_, oy, rfl⟩ := hB.pos h';have HX := Lib.hid (hx _ (gi_mem h));have HY := Lib.hid (hy _ (gi_mem h'));have HH := Lib.hid h;refine goW ?_;refine rW [] ?_;refine dW ?_;refine dW ?_;refine dW ?_;refine dB true ?_;refine eW ?_;refine goW ?_;refine ctW ?_;refine numNW (xs := xs) (b := bx) (o := ox) i (by simp) h fun p => ?_;refine numNW (xs := ys) (b := b_) (o := oy) i (by simp) h' fun q => ?_;refine goW ?_;refine rW [] ?_;refine dW ?_;refine dW ?_;refine dW ?_;refine dW ?_;refine dW ?_;refine dW ?_;refine dW ?_;refine dW ?_;refine cV (fun w' H => KLike_c (av p) (av q) _ _ w' H.m5 H.m2 HX.out HY.out) ?_;by_cases e : gi xs i = gi ys i
     · have HE := Lib.hid e;rw [decide_eq_true e];clear e;refine dW ?_;refine eW ?_;refine goW ?_;refine cfW ?_;refine goW ?_;refine rW [] ?_;refine dW ?_;refine dE (incB (a := i) (by omega)) ?_;refine dW ?_;refine eW ?_;refine goW ?_;exact backW (i + 1) ⟨⟨h, fun k hk => by
        by_cases e : k = i
        · subst e; exact HE.out
        · exact hag k (by omega)⟩, by omega⟩
     · have hd : decide (xs = ys) = false := by
        rw [decide_eq_false_iff_not]; intro h; exact e (by rw [h])
       rw [decide_eq_false e, hd];refine dW ?_;refine eW ?_;refine goW ?_;refine ctW ?_;refine goW ?_;refine rW [] ?_;refine dW ?_;refine eW ?_;refine goW ?_;refine fin1 fun w' H => ?_;exact ⟨_, rvT, rfl, H.below⟩
   · obtain rfl : i = xs.length := by omega
     have hd : decide (xs = ys) = true := by
      rw [decide_eq_true_iff];refine List.ext_getElem HS.out fun j h1 h2 => ?_;have := hag j h1
      rwa [gi_eq h1, gi_eq h2] at this
     rw [hd];refine goW ?_;refine rW [] ?_;refine dW ?_;refine dW ?_;refine dW ?_;refine dB false ?_;refine eW ?_;refine goW ?_;refine cfW ?_;refine goW ?_;refine rW [] ?_;refine dW ?_;refine eW ?_;refine goW ?_;refine fin1 fun w' H => ?_;exact ⟨_, rvT, rfl, H.below⟩
 · have hne : ((xs.length : Int) != (ys.length : Int)) = true := by rw [bne_iff_ne]; omega
   have hd : decide (xs = ys) = false := by
    rw [decide_eq_false_iff_not]; intro h; exact hs (by rw [h])
   rw [hd];clear hs;refine dB true ?_;refine eW ?_;refine goW ?_;refine ctW ?_;refine goW ?_;refine rW [] ?_;refine dW ?_;refine eW ?_;refine goW ?_;refine fin1 fun w' H => ?_;exact ⟨_, rvT, rfl, H.below⟩
set_option maxRecDepth 100000 in
set_option maxHeartbeats 1000000 in
theorem KLikeMat_c (r c : Nat) (aoA aoB : Option Addr) (cA cB : Nat) (xs ys : List Int) (w : World) (hA : LsN w aoA xs) (hB : LsN w aoB ys) (hmA : xs.length <= 8796093022208) (hmB : ys.length <= 8796093022208)
 (hx : ∀ x ∈ xs, wlen x.natAbs <= 17592186044415) (hy : ∀ x ∈ ys, wlen x.natAbs <= 17592186044415) :
 Calls Try.prog 19 #[.agg #[.int .i64 (r : Int), .int .i64 (c : Int), .slice aoA xs.length cA], .agg #[.int .i64 (r : Int), .int .i64 (c : Int), .slice aoB ys.length cB]] w fun e w' => e = .returned (.bool (decide (xs = ys))) /\ Below w.heap.size w w' := by
 have hK := fun w' (hA : LsN w' aoA xs) (hB : LsN w' aoB ys) => KLikeRow_c aoA aoB cA cB xs ys w' hA hB hmA hmB hx hy;refine funW (S0 := fun _ => False) Try.func19 (Fr.nil _ w) ?_;refine goW ?_;refine rW [] ?_;refine aW fun g2 => ?_;refine aW fun g3 => ?_;refine dW ?_;refine eW ?_;refine goW ?_;refine rW [] ?_;refine dW ?_;refine dW ?_;refine dW ?_;refine dW ?_;refine dB true ?_;refine dW ?_;refine dG ?_;refine dG ?_;refine dG ?_;refine dG ?_;refine dGB true ?_;refine dW ?_;refine dW ?_;refine dG ?_;refine dG ?_;refine dG ?_;refine dG ?_;refine cVg (fun w' H => hK w' (hA.below H.below) (hB.below H.below)) ?_;refine dW ?_;refine dW ?_;refine eW ?_;refine goW ?_;refine fin1 fun w' H => ?_;exact ⟨_, rvT, rfl, H.below⟩
theorem INat_c (v u : Value) (x y : Nat) (w : World) (hA : IntAt w 17592186044415 v x) (hB : IntAt w 17592186044415 u y) (hy : y ≠ 0) :
 Calls Try.prog 51 #[v, u] w fun e w' => (∃ v' u', e = .returned (.tuple #[v', u', .int .i64 0]) /\ OwnI w' w.heap.size v' ((x / y : Nat) : Int) /\ OwnI w' w.heap.size u' ((x % y : Nat) : Int)) /\ Below w.heap.size w w' :=
 ITrunc_c v u x y w hA hB (by omega)
theorem zsign_neg {x : Int} (h : zsign x < 0) : x < 0 := by
 unfold zsign at h; split at h
 · assumption
 · split at h <;> omega
structure ExtX where
 r : Nat
 k : Nat
 m : Int
 l : Int
 p : P4
 q : P4
 s : P4
 t : P4
set_option maxRecDepth 100000 in
set_option maxHeartbeats 4000000 in
theorem IExt_c (v u : Value) (a b : Int) (w : World) (hA : IntAt w 4398046511103 v a) (hB : IntAt w 4398046511103 u b) :
 Calls Try.prog 99 #[v, u] w fun e w' => (∃ g x y vg vx vy, e = .returned (.tuple #[vg, vx, vy]) /\ ExtIs a b g x y /\ OwnI w' w.heap.size vg g /\ OwnI w' w.heap.size vx x /\ OwnI w' w.heap.size vy y) /\ Below w.heap.size w w' := by
 have hla := hA.wlen;have hlb := hB.wlen;obtain ⟨p, rfl⟩ := hA.parts;obtain ⟨q, rfl⟩ := hB.parts;have hA0 := hA;have hA := hA.mono (L' := 17592186044415) (by omega);have hB := hB.mono (L' := 17592186044415) (by omega);have hsa := zsign_cases a;refine funW (S0 := fun _ => False) Try.func99 (((Fr.nil _ w).i hA).i hB) ?_;refine goW ?_;refine rW [] ?_;refine aW fun g2 => ?_;refine aW fun g3 => ?_;refine aW fun g4 => ?_;refine aW fun g5 => ?_;refine aW fun g6 => ?_;refine eW ?_;refine goW ?_;refine rW [] ?_;refine dW ?_;refine cV (fun w H => ISign_c _ b w H.m5) ?_;refine dW ?_;refine eW ?_;refine goW ?_;refine condW (fun h => ?_) (fun h => ?_)
 · refine goW ?_;refine rW [[], [], [], [], [], [1, 2]] ?_;refine dH ?_;refine cN (fun w H => IAbs_c _ a w H.m6) fun p1 => ?_;refine dH ?_;refine cV (fun w H => ISign_c _ a w H.m7) ?_;refine cN (fun w H => IOf_c (zsign a) w (by omega) (by omega)) fun p2 => ?_;refine dH ?_;refine sW ?_;refine sW ?_;refine sW ?_;refine eW ?_;refine goW ?_;refine fin3 fun w H => ?_;obtain rfl : b = 0 := zsign_beq.1 (by simpa using h);exact ⟨_, _, _, rvI H.m4, rvI H.m3, rvI H.m2, ⟨_, _, _, _, _, _, rfl, extIs_zero a, H.m1, H.m0, OwnI.zero _ _⟩, H.below⟩
 refine goW ?_;refine rW [] ?_;refine dW ?_;refine cN (fun w H => IAbs_c _ a w H.m6) fun p1 => ?_;refine dW ?_;refine cN (fun w H => IAbs_c _ b w H.m6) fun p2 => ?_;refine dW ?_;refine aW fun g7 => ?_;refine sG ?_;refine eW ?_;refine goW ?_;refine rW [] ?_;refine cN (fun w H => IOf_c 1 w (by omega) (by omega)) fun p3 => ?_;refine cN (fun w H => IOf_c 0 w (by omega) (by omega)) fun p4 => ?_;refine dW ?_;refine aW fun g8 => ?_;refine sG ?_;refine eW ?_;refine goW ?_;have hb0 : b ≠ 0 := fun e => by rw [zsign_beq.2 e] at h; cases h
 refine loopW (X := ExtX) (fun x => EInv a.natAbs b x.r x.k x.m x.l /\ x.r <= max a.natAbs b.natAbs /\ x.k <= max a.natAbs b.natAbs) (·.k) (fun _ => [(8, .pointer (some ⟨g8, 0, none⟩)), (7, .pointer (some ⟨g7, 0, none⟩)), (6, .pointer (some ⟨g6, 0, none⟩)), (5, .pointer (some ⟨g5, 0, none⟩)), (4, .pointer (some ⟨g4, 0, none⟩)), (3, .pointer (some ⟨g3, 0, none⟩)), (2, .pointer (some ⟨g2, 0, none⟩))])
  (fun x => [.row g8 108 (cl x.s ++ cl x.t), .own w.heap.size (av x.t) x.l, .own w.heap.size (av x.s) x.m, .row g7 108 (cl x.p ++ cl x.q), .own w.heap.size (av x.q) x.k, .own w.heap.size (av x.p) x.r, .row g6 27 (cl p0), .row g5 27 (cl p0), .row g4 27 (cl p0), .row g3 27 (cl q), .row g2 27 (cl p), .at 17592186044415 (av q) b, .at 17592186044415 (av p) a])
  ⟨a.natAbs, b.natAbs, 1, 0, p1, p2, p3, p4⟩ ⟨EInv.start _ hb0, Nat.le_max_left .., Nat.le_max_right ..⟩ (fun x hx => ?_)
 · have hmx : wlen (max a.natAbs b.natAbs) <= 4398046511103 := by rcases Nat.le_total a.natAbs b.natAbs with h | h <;> simp [Nat.max_eq_left, Nat.max_eq_right, h, hla, hlb]
   obtain ⟨hE, hr, hk⟩ := hx;have br : wlen ((x.r : Nat) : Int).natAbs <= 4398046511103 := Nat.le_trans (wlen_mono hr) hmx;have bk : wlen ((x.k : Nat) : Int).natAbs <= 4398046511103 := Nat.le_trans (wlen_mono hk) hmx;have bm : wlen x.m.natAbs <= 4398046511103 := Nat.le_trans (wlen_mono hE.k0) hlb;have bl : wlen x.l.natAbs <= 4398046511103 := Nat.le_trans (wlen_mono hE.k1) hlb;refine goW ?_;refine rW [] ?_;refine dW ?_;refine dW ?_;refine cV (fun w H => ISign_c _ x.k w (OwnI.int H.m4 (by omega))) ?_;refine dW ?_;refine eW ?_;refine goW ?_;refine condW (fun h => ?_) (fun h => ?_)
   · have hk0 : x.k ≠ 0 := fun e => by rw [e] at h; cases h
     refine goW ?_;refine rW [] ?_;refine dW ?_;refine dW ?_;refine dW ?_;refine dW ?_;refine cN2 (fun w H => INat_c _ _ x.r x.k w (OwnI.int H.m5 (by omega)) (OwnI.int H.m4 (by omega)) (by omega)) fun p5 p6 => ?_;refine dW ?_;refine dW ?_;refine dW ?_;refine dW ?_;refine aW fun g9 => ?_;refine aW fun g10 => ?_;refine sG ?_;refine sG ?_;refine dW ?_;refine eW ?_;refine goW ?_;refine rW [] ?_;refine dW ?_;refine dW ?_;refine dW ?_;refine dW ?_;refine dW ?_;have hs := hE.step hk0;have bq : wlen ((x.r / x.k : Nat) : Int).natAbs <= 4398046511103 := Nat.le_trans (wlen_mono (Nat.le_trans (Nat.div_le_self ..) hr)) hmx;have bn := Nat.le_trans (wlen_mono hs.k1) hlb;refine cN (x := ((x.r / x.k : Nat) : Int) * x.l) (fun w H => IMul_c _ _ _ _ 4398046511103 4398046511103 w (OwnI.int H.m2 bq) (OwnI.int H.m5 bl) (by omega)) fun p7 => ?_;refine cN (fun w H => ISub_c _ _ _ _ w (OwnI.int H.m7 (by omega)) (OwnI.int H.m0 (Nat.le_trans (by rw [Int.natAbs_mul]; exact wlen_mul ..) (by omega : _ <= 17592186044415)))) fun p8 => ?_;refine aW fun g12 => ?_;refine sG ?_;refine eW ?_;refine goW ?_;refine rW [] ?_;refine dW ?_;refine dW ?_;refine dW ?_;refine dW ?_;refine sW ?_;refine eW ?_;refine goW ?_;refine rW [] ?_;refine dW ?_;refine dW ?_;refine dW ?_;refine dW ?_;refine sW ?_;refine eW ?_;refine goW ?_;refine backW ⟨x.k, x.r % x.k, x.l, x.m - ((x.r / x.k : Nat) : Int) * x.l, x.q, p6, x.t, p8⟩ ⟨⟨hs, hk, Nat.le_trans (Nat.le_of_lt (Nat.mod_lt _ (by omega))) hk⟩, Nat.mod_lt _ (by omega)⟩
   · have hk0 : x.k = 0 := by
      have := zsign_beq.1 (by simpa using h : zsign x.k = 0);omega
     rw [hk0] at hE;obtain ⟨hg, hd⟩ := hE.done hb0;have hmb := hE.k0;refine goW ?_;refine rW [[], [], [8], [8]] ?_;refine dH ?_;refine dH ?_;refine dH ?_;refine dH ?_;refine sW ?_;refine sW ?_;refine eW ?_;refine goW ?_;refine rW [] ?_;refine dW ?_;refine cV (fun w H => ISign_c _ a w H.m12) ?_;refine dW ?_;refine eW ?_;refine goW ?_;refine joinW (X := P4 × Int) (fun z => b ∣ (x.r : Int) - z.2 * a /\ wlen z.2.natAbs <= 4398046511103) (fun _ => [(6, .pointer (some ⟨g6, 0, none⟩)), (5, .pointer (some ⟨g5, 0, none⟩)), (4, .pointer (some ⟨g4, 0, none⟩)), (3, .pointer (some ⟨g3, 0, none⟩)), (2, .pointer (some ⟨g2, 0, none⟩))])
      (fun z => [.own w.heap.size (av z.1) z.2, .own w.heap.size (av x.p) x.r, .row g6 27 (cl p0), .row g5 27 (cl z.1), .row g4 27 (cl x.p), .row g3 27 (cl q), .row g2 27 (cl p), .at 17592186044415 (av q) b, .at 17592186044415 (av p) a]) ?_ (fun z hz => ?_)
     · refine condW (fun h => ?_) (fun h => ?_)
       · have ha := zsign_neg (by simpa using h);rw [if_pos ha] at hd;refine goW ?_;refine rW [] ?_;refine dW ?_;refine cN (fun w H => INeg_c _ x.m w (OwnI.int H.m2 (by omega))) fun p9 => ?_;refine sW ?_;refine eW ?_;refine goW ?_;exact joinE (p9, -x.m) ⟨hd, by simpa using bm⟩
       · have ha : ¬ a < 0 := fun e => by
          have : zsign a = -1 := by unfold zsign; rw [if_pos e]
          rw [this] at h; cases h
         rw [if_neg ha] at hd;refine goW ?_;exact joinE (x.s, x.m) ⟨hd, bm⟩
     · obtain ⟨pm, m⟩ := z;obtain ⟨h1, h2, h3, h4⟩ := ext_last hb0 hg hz.1;have bz : wlen m.natAbs <= 4398046511103 := hz.2;have hr0 : (x.r : Int) ≠ 0 := fun e => hb0 (Int.zero_dvd.1 (e ▸ h1));have bq : wlen (b / (x.r : Int)).natAbs <= 4398046511103 := Nat.le_trans (wlen_mono (Int.natAbs_ediv_le_natAbs _ _)) hlb;have bx : wlen (m % (b / (x.r : Int))).natAbs <= 4398046511103 := Nat.le_trans (wlen_mono (by have := Int.emod_nonneg m h2; have := Int.emod_lt m h2; omega)) bq;refine goW ?_;refine rW [] ?_;refine dW ?_;refine dW ?_;refine cN1 (fun w H => IExact_c _ _ b x.r w H.m7 (OwnI.int H.m1 (by omega)) hr0 h1) fun p9 => ?_;refine dW ?_;refine dW ?_;refine dW ?_;refine aW fun g13 => ?_;refine sG ?_;refine dW ?_;refine eW ?_;refine goW ?_;refine rW [[], [], [], [], [], [5]] ?_;refine dH ?_;refine dH ?_;refine cN1 (fun w H => IMod_c _ _ m _ w (OwnI.int H.m2 (by omega)) (OwnI.int H.m1 (by omega)) h2) fun p10 => ?_;refine dH ?_;refine dH ?_;refine dH ?_;refine sW ?_;refine eW ?_;refine goW ?_;refine rW [[], [], [], [], [], [], [], [], [], [5]] ?_;refine dH ?_;refine dH ?_;refine dH ?_;refine cN (fun w H => IMul_c _ _ a _ 4398046511103 4398046511103 w (IntAt.below hA0 H.below) (OwnI.int H.m0 bx) (by omega)) fun p11 => ?_;have bp : wlen (a * (m % (b / (x.r : Int)))).natAbs <= 8796093022206 := Nat.le_trans (by rw [Int.natAbs_mul]; exact wlen_mul ..) (by omega : _ <= 8796093022206);refine cN (fun w H => ISub_c _ _ _ _ w (OwnI.int H.m5 (by omega)) (OwnI.int H.m0 (by omega))) fun p12 => ?_;refine dH ?_;have bs : wlen ((x.r : Int) - a * (m % (b / (x.r : Int)))).natAbs <= 17592186044415 := by
        have h5 := wlen_mono (Int.natAbs_sub_le (x.r : Int) (a * (m % (b / (x.r : Int)))));have h6 := wlen_add (x.r : Int).natAbs (a * (m % (b / (x.r : Int)))).natAbs;have h7 : max (wlen (x.r : Int).natAbs) (wlen (a * (m % (b / (x.r : Int)))).natAbs) <= 8796093022206 := Nat.max_le.2 ⟨by omega, bp⟩;omega
       refine cN1 (fun w H => IExact_c _ _ _ b w (OwnI.int H.m0 bs) H.m12 hb0 h3) fun p13 => ?_;refine dH ?_;refine dH ?_;refine dH ?_;refine sW ?_;refine eW ?_;refine goW ?_;refine rW [[], [10], [10, 9]] ?_;refine dH ?_;refine dH ?_;refine dH ?_;refine sW ?_;refine sW ?_;refine sW ?_;refine eW ?_;refine goW ?_;refine fin3 fun w H => ?_;exact ⟨_, _, _, rvI H.m10, rvI H.m9, rvI H.m8, ⟨_, _, _, _, _, _, rfl, h4, H.m7, H.m3, H.m0⟩, H.below⟩
theorem remGW (a b : Nat) : Value.int .u64 ((a : Int).tmod (b : Int)) = .int .u64 ((a % b : Nat) : Int) := by
 rw [Int.tmod_eq_emod_of_nonneg (Int.natCast_nonneg a), Int.natCast_emod]
theorem digOne {n : Nat} (h0 : 0 < n) (h : n < W) : dig n = [n] := by
 have e := dig_nval (Ok.one h);have hv : nval [n] = n := by simp [nval]
 have hw : wlen n = 1 := by
  have e1 : wlen n ≠ 0 := fun e => by have := wlen_eq_zero.1 e; omega
  have e2 : wlen n <= 1 := wlen_le_of_lt (by simpa using h);omega
 have ht := wlen_nval (Ok.one h);rw [hv, hw] at ht;rw [hv, <- ht] at e;simpa using e
theorem wlenOne {n : Nat} (h0 : 0 < n) (h : n < W) : wlen n = 1 := by
 have e1 : wlen n ≠ 0 := fun e => by have := wlen_eq_zero.1 e; omega
 have e2 : wlen n <= 1 := wlen_le_of_lt (by simpa using h);omega
structure WdX where
 x : Nat
 y : Nat
structure WdI (g : Nat) (z : WdX) : Prop where
 hx : z.x < W
 hy : z.y < W
 h0 : 0 < g
 gcd : Nat.gcd z.x z.y = g
set_option maxRecDepth 100000 in
set_option maxHeartbeats 1000000 in
theorem DWords_c (x y : Nat) (w : World) (hx : x < W) (hy : y < W) (h0 : 0 < Nat.gcd x y) :
 Calls Try.prog 48 #[.int .u64 (x : Int), .int .u64 (y : Int)] w fun e w' => (∃ o c, e = .returned (.slice o (wlen (Nat.gcd x y)) c) /\ OwnW w' w.heap.size o (wlen (Nat.gcd x y)) c (dig (Nat.gcd x y))) /\ Below w.heap.size w w' := by
 obtain ⟨g, hg⟩ : ∃ g, Nat.gcd x y = g := ⟨_, rfl⟩;rw [hg] at h0 ⊢;refine funW (S0 := fun _ => False) Try.func48 (Fr.nil _ w) ?_;refine goW ?_;refine rW [] ?_;refine dW ?_;refine eW ?_;refine goW ?_;refine loopW (X := WdX) (WdI g) (fun z => z.y) (fun z => [(0, .int .u64 (z.x : Int)), (1, .int .u64 (z.y : Int))]) (fun _ => []) ⟨x, y⟩ ⟨hx, hy, h0, hg⟩ fun z hz => ?_;obtain ⟨x, y⟩ := z;obtain ⟨hx, hy, h0, hg⟩ := hz;have hx : x < W := hx;have hy : y < W := hy;have hg : Nat.gcd x y = g := hg;by_cases hy0 : y = 0
 · subst hy0;obtain rfl : x = g := by rw [<- hg, Nat.gcd_zero_right]
   refine goW ?_;refine rW [] ?_;refine dW ?_;refine dB false ?_;refine eW ?_;refine goW ?_;refine cfW ?_;refine goW ?_;refine rW [] ?_;refine dW ?_;refine bW (m := 1) fun g12 => ?_;refine dW ?_;refine eW ?_;refine goW ?_;refine fin1 fun w' H => ?_;rw [wlenOne h0 hx, digOne h0 hx];exact ⟨_, rvT, ⟨_, _, rfl, RowAt.own (ws := [x]) H.m0 (Ok.one hx) (H.own _ (List.mem_cons_self ..) rfl _ rfl |>.elim (fun h => h.elim) id) (by simp) rfl (by unfold maxLen; simp)⟩, H.below⟩
 · refine goW ?_;refine rW [] ?_;refine dW ?_;refine dB true ?_;refine eW ?_;refine goW ?_;refine ctW ?_;refine goW ?_;refine rW [] ?_;refine dW ?_;refine dW ?_;refine dW ?_;refine dE (remGW x y) ?_;refine dW ?_;refine dW ?_;refine eW ?_;refine goW ?_;exact backW (⟨y, x % y⟩ : WdX) ⟨⟨hy, Nat.lt_of_lt_of_le (Nat.mod_lt _ (by omega)) (Nat.le_of_lt hy), h0, by show Nat.gcd y (x % y) = g; rw [<- hg, Nat.gcd_comm x y, Nat.gcd_rec y x, Nat.gcd_comm]⟩, Nat.mod_lt _ (by omega)⟩
structure GcX where
 xo : Option Addr
 cx : Nat
 x : Nat
 yo : Option Addr
 cy : Nat
 y : Nat
structure GcI (g : Nat) (z : GcX) : Prop where
 hx : wlen z.x <= 17592186044415
 hy : wlen z.y <= 17592186044415
 gcd : Nat.gcd z.x z.y = g
set_option maxRecDepth 100000 in
set_option maxHeartbeats 4000000 in
theorem DGcd_c (ao bo : Option Addr) (la lb ca cb : Nat) (us vs : List Nat) (w : World) (hA : WAt w ao us) (hB : WAt w bo vs) (hla : la = us.length) (hlb : lb = vs.length) (hma : la <= 17592186044415) (hmb : lb <= 17592186044415) :
 Calls Try.prog 36 #[.slice ao la ca, .slice bo lb cb] w fun e w' => (∃ o c, e = .returned (.slice o (wlen (Nat.gcd (nval us) (nval vs))) c) /\ OwnW w' w.heap.size o (wlen (Nat.gcd (nval us) (nval vs))) c (dig (Nat.gcd (nval us) (nval vs)))) /\ Below w.heap.size w w' := by
 obtain ⟨g, hg⟩ : ∃ g, Nat.gcd (nval us) (nval vs) = g := ⟨_, rfl⟩;have wx : wlen (nval us) <= 17592186044415 := Nat.le_trans (wlen_nval_le hA.ok) (hla ▸ hma);have wy : wlen (nval vs) <= 17592186044415 := Nat.le_trans (wlen_nval_le hB.ok) (hlb ▸ hmb);rw [hg];refine funW (S0 := fun _ => False) Try.func36 (Fr.nil _ w) ?_;refine goW ?_;refine rW [] ?_;refine dW ?_;refine eW ?_;refine goW ?_;refine rW [] ?_;refine dW ?_;refine cW1 (fun w' H => Least_c ao la ca us w' (hA.below H.below) hla (by omega)) fun xo cx => ?_;refine dW ?_;refine cW1 (fun w' H => Least_c bo lb cb vs w' (hB.below H.below) hlb (by omega)) fun yo cy => ?_;refine dW ?_;refine dW ?_;refine eW ?_;refine goW ?_;refine loopW (X := GcX) (GcI g) (fun z => z.y) (fun z => [(6, .slice z.yo (wlen z.y) z.cy), (5, .slice z.xo (wlen z.x) z.cx)]) (fun z => [.ow w.heap.size z.xo z.x z.cx, .wat z.xo (dig z.x), .ow w.heap.size z.yo z.y z.cy, .wat z.yo (dig z.y)]) ⟨xo, cx, nval us, yo, cy, nval vs⟩ ⟨wx, wy, hg⟩ fun z hz => ?_;clear hg wx wy;obtain ⟨xo, cx, x, yo, cy, y⟩ := z;obtain ⟨hx, hy, hg⟩ := hz;have hx : wlen x <= 17592186044415 := hx;have hy : wlen y <= 17592186044415 := hy;have hg : Nat.gcd x y = g := hg;by_cases hy0 : y = 0
 · subst hy0;obtain rfl : x = g := by rw [<- hg, Nat.gcd_zero_right]
   clear hg;have hz := wlen_zero;refine goW ?_;refine rW [] ?_;refine dW ?_;refine dW ?_;refine dB false ?_;refine eW ?_;refine goW ?_;refine cfW ?_;refine goW ?_;refine rW [] ?_;refine dW ?_;refine dW ?_;refine eW ?_;refine goW ?_;refine fin1 fun w' H => ?_;exact ⟨_, rvT, ⟨_, _, rfl, H.m0⟩, H.below⟩
 · have hyl : 0 < wlen y := by
    rcases Nat.eq_zero_or_pos (wlen y) with h | h
    · exact absurd (wlen_eq_zero.1 h) hy0
    · exact h
   have HG := Lib.hid hg;clear hg;refine goW ?_;refine rW [] ?_;refine dW ?_;refine dW ?_;refine dB true ?_;refine eW ?_;refine goW ?_;refine ctW ?_;by_cases h1 : wlen x = 1 /\ wlen y = 1
   · obtain ⟨h1, h2⟩ := h1;have hxW : x < W := by have := lt_pow_wlen x; rw [h1] at this; simpa using this
     have hyW : y < W := by have := lt_pow_wlen y; rw [h2] at this; simpa using this
     have hx0 : 0 < x := by
      rcases Nat.eq_zero_or_pos x with h | h
      · subst h; rw [wlen_zero] at h1; omega
      · exact h
     have ex := digOne hx0 hxW;have ey := digOne (Nat.pos_of_ne_zero hy0) hyW;rw [ex, ey, h1, h2];refine goW ?_;refine rW [] ?_;refine dW ?_;refine dW ?_;refine dW ?_;refine dW ?_;refine dG ?_;refine dG ?_;refine dG ?_;refine dW ?_;refine eW ?_;refine goW ?_;refine ctW ?_;refine posW (ao := xo) (ws := [x]) (by simp) (by simp) fun bx ox e => ?_;subst e;refine posW (ao := yo) (ws := [y]) (by simp) (by simp) fun b_ oy e => ?_;subst e;refine word00W (ws := [x]) (b := bx) (o := ox) (by simp) (by simp) ?_;refine word00W (ws := [y]) (b := b_) (o := oy) (by simp) (by simp) ?_;rw [show gw [x] 0 = x by simp [gw], show gw [y] 0 = y by simp [gw]];refine goW ?_;refine rW [] ?_;refine dW ?_;refine dW ?_;refine dW ?_;refine dW ?_;refine dW ?_;refine dW ?_;refine cW1 (m := g) (fun w' H => by have := DWords_c x y w' hxW hyW (Nat.gcd_pos_of_pos_left _ hx0); rw [HG.out] at this; exact this) fun o c => ?_;refine dW ?_;refine eW ?_;refine goW ?_;refine fin1 fun w' H => ?_;exact ⟨_, rvT, ⟨_, _, rfl, H.m0⟩, H.below⟩
   · refine goW ?_;refine rW [] ?_;refine dW ?_;refine dW ?_;rcases (Decidable.em (wlen x = 1)) with h2 | h2
     case' inl =>
      have h3 : ¬ wlen y = 1 := fun h => h1 ⟨h2, h⟩;refine dB true ?_;refine dW ?_;refine dG ?_;refine dG ?_;refine dGB false ?_;refine dW ?_
     case' inr =>
      refine dB false ?_;refine dW ?_;refine uG ?_;refine uG ?_;refine uG ?_;refine dW ?_
     all_goals
      refine eW ?_;refine goW ?_;refine cfW ?_;refine goW ?_;refine rW [] ?_;refine dW ?_;refine dW ?_;refine cW2 (m := x / y) (q := x % y) (fun w' H => by
       have := DivMod_c xo yo (wlen x) (wlen y) cx cy (dig x) (dig y) w' H.m1 H.m3 (dig_length x).symm (dig_length y).symm hx hy (by rw [nval_dig]; exact hy0);simp only [nval_dig] at this;exact this) fun qo cq ro cr => ?_
      refine dW ?_;refine dW ?_;refine dW ?_;refine dW ?_;refine dW ?_;refine dW ?_;refine dW ?_;refine eW ?_;refine goW ?_;refine rW [] ?_;refine dW ?_;refine dW ?_;refine dW ?_;refine dW ?_;refine eW ?_;refine goW ?_;exact backW (⟨yo, cy, y, ro, cr, x % y⟩ : GcX) ⟨⟨hy, Nat.le_trans (wlen_mono (Nat.mod_le ..)) hx, by show Nat.gcd y (x % y) = g; rw [<- HG.out, Nat.gcd_comm x y, Nat.gcd_rec y x, Nat.gcd_comm]⟩, Nat.mod_lt _ (by omega)⟩
set_option maxRecDepth 100000 in
set_option maxHeartbeats 1000000 in
theorem BGcd_c (v u : Value) (x y : Int) (w : World) (hA : IntAt w 17592186044415 v x) (hB : IntAt w 17592186044415 u y) :
 Calls Try.prog 20 #[v, u] w fun e w' => (∃ v', e = .returned v' /\ OwnI w' w.heap.size v' (Int.gcd x y : Int)) /\ Below w.heap.size w w' := by
 obtain ⟨n, ao, len, cap, ws, rfl, hW, hl, hL1, hc, hx⟩ := hA;obtain ⟨n2, ao2, len2, cap2, ws2, rfl, hW2, hl2, hL2, hc2, hx2⟩ := hB;have hg : Int.gcd x y = Nat.gcd (nval ws) (nval ws2) := by rw [hx, hx2]; unfold Int.gcd; rw [zi_abs, zi_abs]
 rw [hg];refine funW (S0 := fun _ => False) Try.func20 (Fr.nil _ w) ?_;refine goW ?_;refine rW [] ?_;refine aW fun g2 => ?_;refine aW fun g3 => ?_;refine aW fun g4 => ?_;refine eW ?_;refine goW ?_;refine rW [] ?_;refine dW ?_;refine dW ?_;refine dW ?_;refine dW ?_;refine cW1 (fun w' H => DGcd_c ao ao2 len len2 cap cap2 ws ws2 w' (hW.below H.below) (hW2.below H.below) hl hl2 hL1 hL2) fun o c => ?_;refine dW ?_;refine sW ?_;refine eW ?_;refine goW ?_;refine fin1 fun w' H => ?_;exact ⟨_, rvI H.m2, ⟨_, rfl, ow_own H.m0⟩, H.below⟩
theorem zsign_zero {x : Int} : zsign x = 0 ↔ x = 0 := by
 unfold zsign;constructor
 · intro h; split at h <;> first | omega | (split at h <;> omega)
 · rintro rfl; rfl
theorem lcm_int (x y : Int) : ((x / (Int.gcd x y : Int) * y).natAbs : Int) = (Int.lcm x y : Int) := by
 congr 1;have hd : (Int.gcd x y : Int) ∣ x := Int.gcd_dvd_left ..;rw [Int.natAbs_mul, Int.natAbs_ediv_of_dvd hd, Int.natAbs_natCast];unfold Int.lcm Nat.lcm;have h2 : Int.gcd x y ∣ x.natAbs := Nat.gcd_dvd_left ..;show _ = x.natAbs * y.natAbs / Int.gcd x y;rw [Nat.mul_comm x.natAbs, Nat.mul_div_assoc _ h2, Nat.mul_comm]
set_option maxRecDepth 100000 in
set_option maxHeartbeats 1000000 in
theorem BLcm_c (v u : Value) (x y : Int) (L : Nat) (w : World) (hA : IntAt w L v x) (hB : IntAt w L u y) (hL : L <= 8796093022207) :
 Calls Try.prog 21 #[v, u] w fun e w' => (∃ v', e = .returned v' /\ OwnI w' w.heap.size v' (Int.lcm x y : Int)) /\ Below w.heap.size w w' := by
 have hlx := hA.wlen;obtain ⟨p, rfl⟩ := hA.parts;obtain ⟨q, rfl⟩ := hB.parts;have hd : (Int.gcd x y : Int) ∣ x := Int.gcd_dvd_left ..;have hlc := lcm_int x y;have h00 : (Int.gcd x y : Int) = 0 -> Int.lcm x y = 0 := fun h => by
  have : Int.gcd x y = 0 := by omega
  have h1 := (Int.gcd_eq_zero_iff.1 this).1;subst h1; simp
 have hgl : wlen (Int.gcd x y) <= 17592186044415 := by
  rcases Nat.eq_zero_or_pos x.natAbs with h | h
  · have : x = 0 := by omega
    subst this;rw [Int.gcd_zero_left]; have := hB.wlen; omega
  · exact Nat.le_trans (wlen_mono (Nat.gcd_le_left _ h)) (by omega)
 have hql : wlen (x / (Int.gcd x y : Int)).natAbs <= L := Nat.le_trans (wlen_mono (by rw [Int.natAbs_ediv_of_dvd hd]; exact Nat.div_le_self ..)) hlx;have hml : wlen (x / (Int.gcd x y : Int) * y).natAbs <= 17592186044415 := by
  rw [Int.natAbs_mul]; exact Nat.le_trans (wlen_mul ..) (by have := hB.wlen; omega)
 refine funW (S0 := fun _ => False) Try.func21 (((Fr.nil _ w).i hB).i hA) ?_;refine goW ?_;refine rW [] ?_;refine aW fun g2 => ?_;refine aW fun g3 => ?_;refine aW fun g4 => ?_;refine eW ?_;refine goW ?_;refine rW [] ?_;refine dW ?_;refine dW ?_;refine cN (fun w H => BGcd_c _ _ x y w (H.m3.mono (by omega)) (H.m4.mono (by omega))) fun p10 => ?_;refine aW fun g5 => ?_;refine sG ?_;refine eW ?_;refine goW ?_;refine rW [] ?_;refine dW ?_;refine cV (fun w H => ISign_c _ _ w (OwnI.int H.m1 hgl)) ?_;obtain ⟨g, hg⟩ : ∃ g : Int, (Int.gcd x y : Int) = g := ⟨_, rfl⟩;have hgl' : wlen g.natAbs <= 17592186044415 := by rw [<- hg]; exact hgl
 rw [hg] at hd hlc h00 hql hml ⊢;clear hg hgl;by_cases h0 : g = 0
 · have hz : zsign g = 0 := zsign_zero.2 h0;rw [h00 h0];refine dB true ?_;refine eW ?_;refine goW ?_;refine ctW ?_;refine goW ?_;refine rW [] ?_;refine dW ?_;refine sW ?_;refine eW ?_;refine goW ?_;refine fin1 fun w' H => ?_;exact ⟨_, rvI H.m2, ⟨_, rfl, OwnI.zero _ _⟩, H.below⟩
 · have hz : ¬ zsign g = 0 := fun h => h0 (zsign_zero.1 h);rw [<- hlc];refine dB false ?_;refine eW ?_;refine goW ?_;refine cfW ?_;refine goW ?_;refine rW [] ?_;refine dW ?_;refine dW ?_;refine cN1 (fun w H => IExact_c _ _ x g w (H.m5.mono (by omega)) (OwnI.int H.m1 hgl') h0 hd) fun p18 => ?_;refine dW ?_;refine dW ?_;refine dW ?_;refine aW fun g6 => ?_;refine sG ?_;refine dW ?_;refine eW ?_;refine goW ?_;refine rW [] ?_;refine dW ?_;refine dW ?_;refine cN (fun w H => IMul_c _ _ _ y L L w (OwnI.int H.m1 hql) H.m8 (by omega)) fun p23 => ?_;refine cN (fun w H => IAbs_c _ _ w (OwnI.int H.m0 hml)) fun p24 => ?_;refine sW ?_;refine eW ?_;refine goW ?_;refine fin1 fun w' H => ?_;exact ⟨_, rvI H.m6, ⟨_, rfl, H.m0⟩, H.below⟩
theorem idxL {r c i j : Nat} (hi : i < r) (hj : j < c) : i * c + j < r * c := by
 have h1 : (i + 1) * c <= r * c := Nat.mul_le_mul_right _ hi;have h2 : (i + 1) * c = i * c + c := Nat.succ_mul i c;omega
section
variable {P : Program} {ops : Array Oper} {Q : Exit -> Act -> World -> Prop} {S0 : Nat -> Prop} {w0 : World} {E0 : List En} {n j s sg g : Nat} {l : List Nat} {G E : List En} {ls : List (Nat × Value)} {op : Op} {ty : TypeId} {pos : String} {af : Array Edge} {v v' : Value} {want : Bool}
theorem dGE (hv : v' = v) (k : RWs ⟨P, ops, Q, S0, w0, E0, []⟩ n l G E ((s, v) :: ls))
 (ho : ops[j]? = some ⟨some s, op, ty, pos, af, some (g, want)⟩ := by rfl) (hk : (isDet op && chkO ls op && Nat.blt s n) = true := by kernel_rfl)
 (hg : (ops[g]?).bind (·.dst) = some sg := by rfl) (hi : inLs ls (.tmp sg) = true := by kernel_rfl) (hb : evl ls (.tmp sg) = .bool want := by (simp only [evlN, Nat.reduceEqDiff, ↓reduceIte]) <;> first | rfl | simp [*])
 (hr : ∀ w, (isLd op = true -> Fr S0 w0 w E0) -> (execOp (evl ls) ⟨some s, op, ty, pos, af, some (g, want)⟩).run P w = .ok (.value v') w := by intro w H; (first | (have c := (H rfl).c; try simp only [celN, cl, List.cons_append, List.nil_append] at c) | skip); clear H; go_simp <;> with_reducible rfl) : RWs ⟨P, ops, Q, S0, w0, E0, []⟩ n (j :: l) G E ls :=
 dG k ho hk hg hi hb (by rw [<- hv]; exact hr)
end
theorem Fr.cl {S0 : Nat -> Prop} {w0 w : World} {es : List En} (h : Fr S0 w0 w es) {a : Addr} {v : Value} (hc : w.cell? a = some v) (hS : ∀ e ∈ es, e.wr = false) : Fr S0 w0 w (.cell a v :: es) :=
 h.cons (e := .cell a v) hc (fun e he => ⟨(fun q => nomatch q), fun q => by rw [hS e he] at q; cases q⟩) (fun q => nomatch q)
def diagL (c k : Nat) (xs : List Int) : List Int := (List.range k).map fun i => gi xs (i * c + i)
theorem diagL_length (c k : Nat) (xs : List Int) : (diagL c k xs).length = k := by simp [diagL]
theorem gi_diagL {c k : Nat} {xs : List Int} {i : Nat} (h : i < k) : gi (diagL c k xs) i = gi xs (i * c + i) := by
 rw [gi_eq (by rw [diagL_length]; exact h)]; simp [diagL]
structure L1X where
 i : Nat
 ps : List P4
 zs : List Int
structure L1I (xs : List Int) (c k : Nat) (z : L1X) : Prop where
 hi : z.i <= k
 hp : z.ps.length = k
 hz : z.zs.length = k
 ok : ∀ q, q < z.i -> gi z.zs q = gi xs (q * c + q)
set_option maxRecDepth 100000 in
set_option maxHeartbeats 2000000 in
theorem SList_c (r c : Nat) (ao : Option Addr) (cap L : Nat) (xs : List Int) (w : World) (hr : r <= 64) (hc : c <= 64) (hA : LsAt w L ao xs) (hL : L <= 17592186044415) (hs : xs.length = r * c) :
 Calls Try.prog 32 #[.agg #[.int .i64 (r : Int), .int .i64 (c : Int), .slice ao xs.length cap]] w fun e w' => (∃ b, e = .returned (.slice (some ⟨b, 0, none⟩) (min r c) (min r c)) /\ w.heap.size <= b /\ RowN w' b (diagL c (min r c) xs)) /\ Below w.heap.size w w' := by
 have hkr : min r c <= r := Nat.min_le_left ..;have hkc : min r c <= c := Nat.min_le_right ..;have HS0 : Hid (xs.length = r * c) := Lib.hid hs;clear hs;refine funW (S0 := fun _ => False) Try.func32 ((Fr.nil _ w).l hA (by simp)) ?_;refine goW ?_;refine rW [] ?_;refine aW fun g1 => ?_;refine dW ?_;refine eW ?_;refine goW ?_;refine rW [] ?_;refine dW ?_;refine dW ?_;refine dW ?_;refine dW ?_;refine dE (minI r c) ?_;obtain ⟨k, hk⟩ : ∃ k, min r c = k := ⟨_, rfl⟩;rw [hk] at hkr hkc ⊢;refine mN k k rfl rfl (Nat.le_refl _) (by omega) fun b => ?_;refine dW ?_;refine eW ?_;refine addW (e := .ns (List.replicate k p0) (List.replicate k 0)) (fun w' _ => NsAt.zeros w' k) ?_;refine goW ?_;refine rW [] ?_;refine dW ?_;refine dW ?_;refine dW ?_;refine eW ?_;refine goW ?_;refine loopW (X := L1X) (L1I xs c k) (fun z => k - z.i) (fun z => [(13, .int .i64 (z.i : Int)), (12, .int .i64 (k : Int)), (1, .pointer (some ⟨g1, 0, none⟩)), (3, .slice (some ⟨b, 0, none⟩) k k)]) (fun z => [.row b 27 (rn z.ps []), .row g1 37 [.int .i64 (r : Int), .int .i64 (c : Int), .slice ao xs.length cap], .ns z.ps z.zs, .ls L ao xs]) ⟨0, List.replicate k p0, List.replicate k 0⟩ ⟨Nat.zero_le _, by simp, by simp, fun q h => absurd h (Nat.not_lt_zero q)⟩ fun z hz => ?_;obtain ⟨i, ps, zs⟩ := z;obtain ⟨hi, hp, hz, hok⟩ := hz
 replace hi : i <= k := hi
 replace hp : ps.length = k := hp
 replace hz : zs.length = k := hz
 replace hok : ∀ q, q < i -> gi zs q = gi xs (q * c + q) := hok
 have HZ : Hid (ps.length = k /\ zs.length = k /\ ∀ q, q < i -> gi zs q = gi xs (q * c + q)) := Lib.hid ⟨hp, hz, hok⟩;have HS : Hid (xs.length = r * c /\ min r c = k) := Lib.hid ⟨HS0.out, hk⟩;clear hp hz hok hk;by_cases h : i < k
 · have h01 : (i : Int) < (k : Int) := by omega
   have hlt := idxL (r := r) (c := c) (i := i) (j := i) (by omega) (by omega);have hrc : r * c <= 4096 := Nat.mul_le_mul hr hc;obtain ⟨bx, ox, rfl⟩ := hA.pos (i := i * c + i) (by rw [HS.out.1]; exact hlt);obtain ⟨A, hA'⟩ : ∃ A, i * c = A := ⟨_, rfl⟩;obtain ⟨B, hB⟩ : ∃ B, A + i = B := ⟨_, rfl⟩;have hBl : B < xs.length := by rw [HS.out.1, <- hB, <- hA']; exact hlt
   have hBl' : (B : Int) < (xs.length : Int) := by omega
   have hAs : i * c < 9223372036854775808 := by omega
   have hgl : A + i < 9223372036854775807 := by omega
   have HAB : Hid (i * c + i = B) := Lib.hid (by rw [hA', hB]);refine goW ?_;refine rW [] ?_;refine dB true ?_;refine eW ?_;refine goW ?_;refine ctW ?_;refine numW (L := L) (xs := xs) (b := bx) (o := ox) B (by simp) hBl fun p => ?_;clear hBl hlt hrc;refine goW ?_;refine rW [] ?_;refine dW ?_;refine dW ?_;refine eW ?_;refine goW ?_;refine rW [] ?_;refine dW ?_;refine dW ?_;refine dW ?_;refine dW ?_;refine dW ?_;refine dW ?_;refine dW ?_;refine dE ((mulI (a := i) (b := c) hAs).trans (by rw [hA'])) ?_;refine dW ?_;refine dE ((sumI (a := A) (b := i) hgl).trans (by rw [hB])) ?_;clear hA' hB hAs;refine dW ?_;refine dW ?_;refine cN (fun w' H => ILeast_c (av p) _ w' (H.m2.mono hL)) fun q => ?_;refine dW ?_;refine moreW (e := .ns (ps.set i q) (zs.set i (gi xs B))) (fun w' H => NsAt.set H.m6 i H.m0.num) ?_;refine sN (ps := ps) i q (by rw [HZ.out.1]; exact h) NoW.nil rfl ?_;refine eW ?_;refine goW ?_;refine rW [] ?_;refine dE (incB (a := i) (by omega)) ?_;refine dW ?_;refine eW ?_;refine goW ?_;refine backW (⟨i + 1, ps.set i q, zs.set i (gi xs B)⟩ : L1X) ⟨⟨h, by simpa using HZ.out.1, by simpa using HZ.out.2.1, fun q hq => ?_⟩, by show k - (i + 1) < k - i; omega⟩;show gi (zs.set i (gi xs B)) q = _;rw [gi_set (by rw [HZ.out.2.1]; exact h)];by_cases e : q = i
   · subst e; rw [if_pos rfl, HAB.out]
   · rw [if_neg e]; exact HZ.out.2.2 q (by have : q < i + 1 := hq; omega)
 · obtain rfl : i = k := by omega
   have hzs : zs = diagL c i xs := by
    refine List.ext_getElem (by rw [HZ.out.2.1, diagL_length]) fun q h1 h2 => ?_;have hq : q < i := by rw [HZ.out.2.1] at h1; exact h1
    have := HZ.out.2.2 q hq;rw [<- gi_diagL hq, gi_eq h1, gi_eq h2] at this; exact this
   subst hzs;refine goW ?_;refine rW [] ?_;refine dB false ?_;refine eW ?_;refine goW ?_;refine cfW ?_;refine goW ?_;refine rW [] ?_;refine dW ?_;refine dW ?_;refine eW ?_;refine goW ?_;refine fin1 fun w' H => ?_;exact ⟨_, rvT, ⟨b, rfl, (H.own _ (List.mem_cons_self ..) rfl _ rfl).elim (fun h => h.elim) id, RowN.mk' H.m0 NoW.nil H.m2⟩, H.below⟩
def IsDg (r c : Nat) (xs : List Int) : Prop := ∀ i j, i < r -> j < c -> i ≠ j -> gi xs (i * c + j) = 0
theorem IsDg.not {r c i j : Nat} {xs : List Int} (hi : i < r) (hj : j < c) (hne : i ≠ j) (h : gi xs (i * c + j) ≠ 0) : ¬ IsDg r c xs := fun q => h (q i j hi hj hne)
set_option maxRecDepth 100000 in
set_option maxHeartbeats 2000000 in
theorem SDiag_c (r c : Nat) (ao : Option Addr) (cap L : Nat) (xs : List Int) (w : World) (hr : r <= 64) (hc : c <= 64) (hA : LsAt w L ao xs) (hL : L <= 17592186044415) (hs : xs.length = r * c) :
 Calls Try.prog 34 #[.agg #[.int .i64 (r : Int), .int .i64 (c : Int), .slice ao xs.length cap]] w fun e w' => (∃ t, e = .returned (.bool t) /\ (t = true ↔ IsDg r c xs)) /\ Below w.heap.size w w' := by
 have HS : Hid (xs.length = r * c) := Lib.hid hs;clear hs;refine funW (S0 := fun _ => False) Try.func34 ((Fr.nil _ w).l hA (by simp)) ?_;refine goW ?_;refine rW [] ?_;refine aW fun g1 => ?_;refine dW ?_;refine eW ?_;refine goW ?_;refine rW [] ?_;refine dW ?_;refine dW ?_;refine dW ?_;refine eW ?_;refine goW ?_;refine loopW (X := Nat) (fun i => i <= r /\ Hid (∀ a b, a < i -> b < c -> a ≠ b -> gi xs (a * c + b) = 0)) (fun i => r - i) (fun i => [(7, .int .i64 (i : Int)), (6, .int .i64 (r : Int)), (1, .pointer (some ⟨g1, 0, none⟩))]) (fun _ => [.row g1 37 [.int .i64 (r : Int), .int .i64 (c : Int), .slice ao xs.length cap], .ls L ao xs]) 0 ⟨Nat.zero_le _, Lib.hid fun a b h => absurd h (Nat.not_lt_zero a)⟩ fun i hi => ?_;obtain ⟨hi, HI⟩ := hi;by_cases h : i < r
 · have h01 : (i : Int) < (r : Int) := by omega
   refine goW ?_;refine rW [] ?_;refine dB true ?_;refine eW ?_;refine goW ?_;refine ctW ?_;refine goW ?_;refine rW [] ?_;refine dW ?_;refine dW ?_;refine eW ?_;refine goW ?_;refine rW [] ?_;refine dW ?_;refine dW ?_;refine dW ?_;refine eW ?_;refine goW ?_;refine loopW (X := Nat) (fun j => j <= c /\ Hid (∀ b, b < j -> i ≠ b -> gi xs (i * c + b) = 0)) (fun j => c - j) (fun j => [(12, .int .i64 (j : Int)), (11, .int .i64 (c : Int)), (7, .int .i64 (i : Int)), (6, .int .i64 (r : Int)), (3, .int .i64 (i : Int)), (1, .pointer (some ⟨g1, 0, none⟩))]) (fun _ => [.row g1 37 [.int .i64 (r : Int), .int .i64 (c : Int), .slice ao xs.length cap], .ls L ao xs]) 0 ⟨Nat.zero_le _, Lib.hid fun b h => absurd h (Nat.not_lt_zero b)⟩ fun j hj => ?_;obtain ⟨hj, HJ⟩ := hj;by_cases h' : j < c
   · have h02 : (j : Int) < (c : Int) := by omega
     have hlt := idxL h h';have hrc : r * c <= 4096 := Nat.mul_le_mul hr hc;obtain ⟨bx, ox, rfl⟩ := hA.pos (i := i * c + j) (by rw [HS.out]; exact hlt);obtain ⟨A, hA'⟩ : ∃ A, i * c = A := ⟨_, rfl⟩;obtain ⟨B, hB⟩ : ∃ B, A + j = B := ⟨_, rfl⟩;have hBl : B < xs.length := by rw [HS.out, <- hB, <- hA']; exact hlt
     have hBl' : (B : Int) < (xs.length : Int) := by omega
     have hAs : i * c < 9223372036854775808 := by omega
     have HAB : Hid (i * c + j = B) := Lib.hid (by rw [hA', hB]);have hgl : A + j < 9223372036854775807 := by omega
     refine goW ?_;refine rW [] ?_;refine dB true ?_;refine eW ?_;refine goW ?_;refine ctW ?_;refine numW (L := L) (xs := xs) (b := bx) (o := ox) B (by simp) hBl fun p => ?_;clear hBl hlt hrc;refine goW ?_;refine rW [] ?_;refine dW ?_;refine dW ?_;refine eW ?_;refine goW ?_;refine rW [] ?_;refine dW ?_;refine dW ?_;by_cases hnz : i ≠ j /\ gi xs B ≠ 0
     · obtain ⟨e, hz⟩ := hnz;have hz' : ¬ zsign (gi xs B) = 0 := fun q => hz (zsign_zero.1 q);have hnd : ¬ IsDg r c xs := IsDg.not h h' e (by rw [HAB.out]; exact hz);refine dB true ?_;refine dW ?_;refine dG ?_;refine dG ?_;refine dG ?_;refine dG ?_;refine dG ?_;refine dGE ((mulI (a := i) (b := c) hAs).trans (by rw [hA'])) ?_;refine dG ?_;refine dGE ((sumI (a := A) (b := j) hgl).trans (by rw [hB])) ?_;refine dG ?_;refine dG ?_;refine cVg (fun w' H => ISign_c (av p) _ w' (H.m2.mono hL)) ?_;refine dGB true ?_;refine dW ?_;refine eW ?_;refine goW ?_;refine ctW ?_;refine goW ?_;refine rW [] ?_;refine dW ?_;refine eW ?_;refine goW ?_;refine fin1 fun w' H => ?_;exact ⟨_, rvT, ⟨false, rfl, (fun q => nomatch q), fun q => absurd q hnd⟩, H.below⟩
     · have hz : i ≠ j -> zsign (gi xs B) = 0 := fun e => zsign_zero.2 (Decidable.byContradiction fun q => hnz ⟨e, q⟩);have HJ' : Hid (∀ b, b < j + 1 -> i ≠ b -> gi xs (i * c + b) = 0) := Lib.hid fun b hb hne => by
        by_cases e : b = j
        · subst e; rw [HAB.out]; exact Decidable.byContradiction fun q => hnz ⟨hne, q⟩
        · exact HJ.out b (by omega) hne
       clear hnz;rcases Decidable.em (i = j) with e | e
       case' inl =>
        refine dB false ?_;refine dW ?_;refine uG ?_;refine uG ?_;refine uG ?_;refine uG ?_;refine uG ?_;refine uG ?_;refine uG ?_;refine uG ?_;refine uG ?_;refine uG ?_;refine uC ?_;refine uG ?_;refine dW ?_
       case' inr =>
        replace hz := hz e
        refine dB true ?_;refine dW ?_;refine dG ?_;refine dG ?_;refine dG ?_;refine dG ?_;refine dG ?_;refine dGE ((mulI (a := i) (b := c) hAs).trans (by rw [hA'])) ?_;refine dG ?_;refine dGE ((sumI (a := A) (b := j) hgl).trans (by rw [hB])) ?_;refine dG ?_;refine dG ?_;refine cVg (fun w' H => ISign_c (av p) _ w' (H.m2.mono hL)) ?_;refine dGB false ?_;refine dW ?_
       all_goals
        refine eW ?_;refine goW ?_;refine cfW ?_;refine goW ?_;refine rW [] ?_;refine dE (incB (a := j) (by omega)) ?_;refine dW ?_;refine eW ?_;refine goW ?_;exact backW (j + 1) ⟨⟨h', HJ'⟩, by show c - (j + 1) < c - j; omega⟩
   · obtain rfl : j = c := by omega
     have HI' : Hid (∀ a b, a < i + 1 -> b < j -> a ≠ b -> gi xs (a * j + b) = 0) := Lib.hid fun a b ha hb hne => by
      by_cases e : a = i
      · subst e; exact HJ.out b hb hne
      · exact HI.out a b (by omega) hb hne
     refine goW ?_;refine rW [] ?_;refine dB false ?_;refine eW ?_;refine goW ?_;refine cfW ?_;refine goW ?_;refine rW [] ?_;refine dE (incB (a := i) (by omega)) ?_;refine dW ?_;refine eW ?_;refine goW ?_;exact backW (i + 1) ⟨⟨h, HI'⟩, by show r - (i + 1) < r - i; omega⟩
 · obtain rfl : i = r := by omega
   refine goW ?_;refine rW [] ?_;refine dB false ?_;refine eW ?_;refine goW ?_;refine cfW ?_;refine goW ?_;refine rW [] ?_;refine dW ?_;refine eW ?_;refine goW ?_;refine fin1 fun w' H => ?_;exact ⟨_, rvT, ⟨true, rfl, fun _ => HI.out, fun _ => rfl⟩, H.below⟩
theorem SDiag_v {r c : Nat} {ao : Option Addr} {cap L : Nat} {xs : List Int} {w : World} (t : Bool) (hr : r <= 64) (hc : c <= 64) (hA : LsAt w L ao xs) (hL : L <= 17592186044415) (hs : xs.length = r * c) (ht : t = true ↔ IsDg r c xs) :
 Calls Try.prog 34 #[.agg #[.int .i64 (r : Int), .int .i64 (c : Int), .slice ao xs.length cap]] w fun e w' => e = .returned (.bool t) /\ Below w.heap.size w w' :=
 (SDiag_c r c ao cap L xs w hr hc hA hL hs).mono fun e w' ⟨⟨t', he, h⟩, hb⟩ => ⟨by rw [he]; congr 2; rw [Bool.eq_iff_iff, h, ht], hb⟩
end Go.Proofs.Ytibogfdgdnedpaa
namespace Go.Proofs.Ytibogfdgdnedpaa
def tabK (c : Nat) (f : Nat -> Nat -> Int) (k : Nat) : List Int := (List.range k).map fun q => f (q / c) (q % c)
theorem tabK_length (c : Nat) (f : Nat -> Nat -> Int) (k : Nat) : (tabK c f k).length = k := by simp [tabK]
theorem tabK_succ {c i j : Nat} (f : Nat -> Nat -> Int) (hj : j < c) : tabK c f (i * c + j + 1) = tabK c f (i * c + j) ++ [f i j] := by
 have h1 : (i * c + j) / c = i := by rw [Nat.mul_comm, Nat.mul_add_div (by omega), Nat.div_eq_of_lt hj]; rfl
 have h2 : (i * c + j) % c = j := by rw [Nat.mul_comm, Nat.mul_add_mod, Nat.mod_eq_of_lt hj]
 unfold tabK;rw [List.range_succ, List.map_append];simp [h1, h2]
theorem tabK_matE {r c i j : Nat} (f : Nat -> Nat -> Int) (hi : i < r) (hj : j < c) : (tabK c f (r * c)).getD (i * c + j) 0 = f i j := by
 have h1 : (i * c + j) / c = i := by rw [Nat.mul_comm, Nat.mul_add_div (by omega), Nat.div_eq_of_lt hj]; rfl
 have h2 : (i * c + j) % c = j := by rw [Nat.mul_comm, Nat.mul_add_mod, Nat.mod_eq_of_lt hj]
 have h3 : (i + 1) * c <= r * c := Nat.mul_le_mul_right _ hi;have h4 : (i + 1) * c = i * c + c := Nat.succ_mul i c;unfold tabK;rw [List.getD_eq_getElem?_getD, List.getElem?_map, List.getElem?_range (by omega)];simp [h1, h2]
end Go.Proofs.Ytibogfdgdnedpaa
namespace Go.Proofs.Ytibogfdgdnedpaa
open Go.RowKit
def diagF (xs : List Int) (i j : Nat) : Int := if i = j /\ i < xs.length then gi xs i else 0
set_option maxRecDepth 100000 in
set_option maxHeartbeats 1000000 in
theorem Diag1_c (i j g : Nat) (la : Option Addr) (cap L : Nat) (xs : List Int) (w : World) (hg : w.cell? ⟨g, 0, none⟩ = some (.slice la xs.length cap)) (hA : LsAt w L la xs) (hL : L <= 17592186044415) :
 Calls Try.prog 30 #[.int .i64 (i : Int), .int .i64 (j : Int), .pointer (some ⟨g, 0, none⟩)] w fun e w' => (∃ v, e = .returned v /\ OwnI w' w.heap.size v (diagF xs i j)) /\ Below w.heap.size w w' := by
 refine funW (S0 := fun _ => False) Try.func30 (((Fr.nil _ w).l hA (by simp)).cl hg (by simp [En.wr])) ?_;refine goW ?_;refine rW [] ?_;refine aW fun g5 => ?_;refine eW ?_;by_cases h : i = j /\ i < xs.length
 · obtain ⟨rfl, h2⟩ := h;have e0 : diagF xs i i = gi xs i := by rw [diagF, if_pos ⟨rfl, h2⟩]
   rw [e0];obtain ⟨bx, ox, rfl⟩ := hA.pos h2;refine goW ?_;refine rW [] ?_;refine dW ?_;refine dW ?_;refine dB true ?_;refine dW ?_;refine dG ?_;refine dG ?_;refine dG ?_;refine dGB true ?_;refine dW ?_;refine eW ?_;refine goW ?_;refine ctW ?_;refine numW (L := L) (xs := xs) (b := bx) (o := ox) i (by simp) h2 fun p => ?_;refine goW ?_;refine rW [] ?_;refine dW ?_;refine dW ?_;refine dW ?_;refine dW ?_;refine cN (fun w' H => ILeast_c (av p) _ w' (H.m2.mono hL)) fun q => ?_;refine sW ?_;refine eW ?_;refine goW ?_;refine fin1 fun w' H => ?_;exact ⟨_, rvI H.m4, ⟨_, rfl, H.m0⟩, H.below⟩
 · have e0 : diagF xs i j = 0 := by rw [diagF, if_neg h]
   rw [e0];refine goW ?_;refine rW [] ?_;refine dW ?_;refine dW ?_;rcases Decidable.em (i = j) with e | e
   case' inl =>
    have hlt : ¬ i < xs.length := fun q => h ⟨e, q⟩;subst e;clear h;refine dB true ?_;refine dW ?_;refine dG ?_;refine dG ?_;refine dG ?_;refine dGB false ?_
   case' inr =>
    clear h;refine dB false ?_;refine dW ?_;refine uG ?_;refine uG ?_;refine uG ?_;refine uG ?_
   all_goals
    refine dW ?_;refine eW ?_;refine goW ?_;refine cfW ?_;refine goW ?_;refine rW [] ?_;refine dW ?_;refine sW ?_;refine eW ?_;refine goW ?_;refine fin1 fun w' H => ?_;exact ⟨_, rvI H.m0, ⟨_, rfl, OwnI.zero _ _⟩, H.below⟩
theorem mkLst {P : Program} {Q : Exit -> Act -> World -> Prop} {S0 : Nat -> Prop} {w0 : World} {n b N : Nat} {ls : List (Nat × Value)} {es : List En} {c : Code} (k : CW P n S0 w0 c Q ls (.lst (some ⟨b, 0, none⟩) 0 N [] :: es)) : CW P n S0 w0 c Q ls (.row b 27 (rn (List.replicate N p0) []) :: es) := fun a w ha hw =>
 k a w ha (hw.conv (fun hr => ⟨rfl, Nat.zero_le _, .inr ⟨b, rn (List.replicate N p0) [], rfl, NoW.rn NoW.nil, hr, by show (rn (List.replicate N p0) []).length = _; rw [rn, List.append_nil, flat_length]; simp; omega⟩⟩) (fun g ⟨o, e⟩ => by cases e; rfl) (fun _ => rfl))
structure B1X where
 i : Nat
 K : Nat
 ao : Option Addr
 cap : Nat
 ps : List P4
structure B1I (r c : Nat) (z : B1X) : Prop where
 hi : z.i <= r
 hK : z.i * c = z.K
structure B2X where
 j : Nat
 K : Nat
 ao : Option Addr
 cap : Nat
 ps : List P4
structure B2I (c i : Nat) (z : B2X) : Prop where
 hj : z.j <= c
 hK : i * c + z.j = z.K
set_option maxRecDepth 100000 in
set_option maxHeartbeats 4000000 in
theorem Build1_c (F : FuncId) (hF : ∀ (args : Array Value) (w : World), (callFunc F args).run Try.prog w = .ok (.enter F args) w) (r c g : Nat) (f : Nat -> Nat -> Int) (w : World) (hr : r <= 64) (hc : c <= 64)
 (hf : ∀ (i j : Nat) (w' : World), i < r -> j < c -> Below w.heap.size w w' -> Calls Try.prog F #[.int .i64 (i : Int), .int .i64 (j : Int), .pointer (some ⟨g, 0, none⟩)] w' fun e w'' => (∃ v, e = .returned v /\ OwnI w'' w'.heap.size v (f i j)) /\ Below w'.heap.size w' w'') :
 Calls Try.prog 29 #[.int .i64 (r : Int), .int .i64 (c : Int), .func (.func F) #[] #[.pointer (some ⟨g, 0, none⟩)]] w fun e w' => (∃ ao cap, e = .returned (.agg #[.int .i64 (r : Int), .int .i64 (c : Int), .slice ao (r * c) cap]) /\ LsN w' ao (tabK c f (r * c)) /\ r * c <= cap /\ ∀ b o, ao = some ⟨b, o, none⟩ -> w.heap.size <= b) /\ Below w.heap.size w w' := by
 have hnc : r * c <= 4096 := Nat.mul_le_mul hr hc;have hms : r * c < 9223372036854775808 := by omega
 refine funW (S0 := fun _ => False) Try.func29 (Fr.nil _ w) ?_;refine goW ?_;refine rW [] ?_;refine aW fun g6 => ?_;refine eW ?_;refine goW ?_;refine rW [] ?_;refine dW ?_;refine dW ?_;refine dW ?_;refine dW ?_;refine dE (mulI (a := r) (b := c) hms) ?_;obtain ⟨N, hN⟩ : ∃ N, r * c = N := ⟨_, rfl⟩;rw [hN] at hnc ⊢;have HN : Hid (r * c = N) := Lib.hid hN;clear hms hN;refine mN 0 N rfl rfl (Nat.zero_le _) (by omega) fun b => ?_;refine dW ?_;refine aW fun g7 => ?_;refine sG ?_;refine eW ?_;refine pickW (es' := [.row b 27 (rn (List.replicate N p0) []), .row g7 37 [.int .i64 (r : Int), .int .i64 (c : Int), .slice (some ⟨b, 0, none⟩) 0 N], .row g6 37 [.int .i64 0, .int .i64 0, .slice none 0 0]]) ?_;refine mkLst ?_;refine addW (e := .ns [] (tabK c f 0)) (fun w' _ => NsAt.nil w') ?_;refine pickW (es' := [.row g7 37 [.int .i64 (r : Int), .int .i64 (c : Int), .slice (some ⟨b, 0, none⟩) 0 N], .row g6 37 [.int .i64 0, .int .i64 0, .slice none 0 0], .lst (some ⟨b, 0, none⟩) 0 N [], .ns [] (tabK c f 0)]) ?_;refine goW ?_;refine rW [] ?_;refine dW ?_;refine dW ?_;refine eW ?_;refine goW ?_;refine loopW (X := B1X) (B1I r c) (fun z => r - z.i) (fun z => [(18, .int .i64 (z.i : Int)), (17, .int .i64 (r : Int)), (1, .int .i64 (c : Int)), (2, .func (.func F) #[] #[.pointer (some ⟨g, 0, none⟩)]), (7, .pointer (some ⟨g7, 0, none⟩)), (6, .pointer (some ⟨g6, 0, none⟩))])
  (fun z => [.row g7 37 [.int .i64 (r : Int), .int .i64 (c : Int), .slice z.ao z.K z.cap], .row g6 37 [.int .i64 0, .int .i64 0, .slice none 0 0], .lst z.ao z.K z.cap z.ps, .ns z.ps (tabK c f z.K)]) ⟨0, 0, some ⟨b, 0, none⟩, N, []⟩ ⟨Nat.zero_le _, Nat.zero_mul _⟩ fun z hz => ?_
 obtain ⟨i, K, ao, cap, ps⟩ := z;obtain ⟨hi, hK⟩ := hz
 replace hi : i <= r := hi
 replace hK : i * c = K := hK
 by_cases h : i < r
 · have h01 : (i : Int) < (r : Int) := by omega
   have HK : Hid (i * c + 0 = K) := Lib.hid hK;clear hK;refine goW ?_;refine rW [] ?_;refine dB true ?_;refine eW ?_;refine goW ?_;refine ctW ?_;refine goW ?_;refine rW [] ?_;refine dW ?_;refine dW ?_;refine eW ?_;refine goW ?_;refine rW [] ?_;refine dW ?_;refine dW ?_;refine eW ?_;refine goW ?_;refine loopW (X := B2X) (B2I c i) (fun z => c - z.j) (fun z => [(22, .int .i64 (z.j : Int)), (21, .int .i64 (c : Int)), (8, .int .i64 (i : Int)), (18, .int .i64 (i : Int)), (17, .int .i64 (r : Int)), (1, .int .i64 (c : Int)), (2, .func (.func F) #[] #[.pointer (some ⟨g, 0, none⟩)]), (7, .pointer (some ⟨g7, 0, none⟩)), (6, .pointer (some ⟨g6, 0, none⟩))])
    (fun z => [.row g7 37 [.int .i64 (r : Int), .int .i64 (c : Int), .slice z.ao z.K z.cap], .row g6 37 [.int .i64 0, .int .i64 0, .slice none 0 0], .lst z.ao z.K z.cap z.ps, .ns z.ps (tabK c f z.K)]) ⟨0, K, ao, cap, ps⟩ ⟨Nat.zero_le _, HK.out⟩ fun z hz => ?_
   clear HK;obtain ⟨j, K, ao, cap, ps⟩ := z;obtain ⟨hj, hK⟩ := hz
   replace hj : j <= c := hj
   replace hK : i * c + j = K := hK
   by_cases h' : j < c
   · have h02 : (j : Int) < (c : Int) := by omega
     have hlt := idxL h h';have ht := tabK_succ (i := i) f h';have hKN : K <= 100000000 := by have := HN.out; omega
     rw [hK] at ht;have HT : Hid (tabK c f (K + 1) = tabK c f K ++ [f i j] /\ i * c + j = K) := Lib.hid ⟨ht, hK⟩;clear ht hK hlt;refine goW ?_;refine rW [] ?_;refine dB true ?_;refine eW ?_;refine goW ?_;refine ctW ?_;refine goW ?_;refine rW [] ?_;refine dW ?_;refine dW ?_;refine eW ?_;refine goW ?_;refine rW [] ?_;refine dW ?_;refine dW ?_;refine dW ?_;refine dW ?_;refine dW ?_;refine cN (fun w' H => hf i j w' h h' H.below) fun q => ?_;refine bW (m := 1) fun g31 => ?_;refine moreW (e := .ns (ps ++ [q]) (tabK c f (K + 1))) (fun w' H => by rw [HT.out.1]; exact NsAt.snoc H.m5 H.m1.num) ?_;refine appN (g := g31) (t := 27) (c := 1) (ao := ao) (k := K) (cap := cap) (ps := ps) q hKN (by simp) fun z => ?_;refine dW ?_;refine sW ?_;refine eW ?_;refine goW ?_;refine rW [] ?_;refine dE (incB (a := j) (by omega)) ?_;refine dW ?_;refine eW ?_;refine goW ?_;exact backW (⟨j + 1, K + 1, z.1, z.2, ps ++ [q]⟩ : B2X) ⟨⟨h', by show i * c + (j + 1) = K + 1; have := HT.out.2; omega⟩, by show c - (j + 1) < c - j; omega⟩
   · obtain rfl : j = c := by omega
     have HK : Hid ((i + 1) * j = K) := Lib.hid (by rw [Nat.succ_mul]; exact hK);clear hK;refine goW ?_;refine rW [] ?_;refine dB false ?_;refine eW ?_;refine goW ?_;refine cfW ?_;refine goW ?_;refine rW [] ?_;refine dE (incB (a := i) (by omega)) ?_;refine dW ?_;refine eW ?_;refine goW ?_;exact backW (⟨i + 1, K, ao, cap, ps⟩ : B1X) ⟨⟨h, HK.out⟩, by show r - (i + 1) < r - i; omega⟩
 · obtain rfl : i = r := by omega
   obtain rfl : K = N := by rw [<- hK]; exact HN.out
   clear hK;refine goW ?_;refine rW [] ?_;refine dB false ?_;refine eW ?_;refine goW ?_;refine cfW ?_;refine goW ?_;refine rW [] ?_;refine dW ?_;refine sW ?_;refine eW ?_;refine goW ?_;refine fin1 fun w' H => ?_;exact ⟨_, rvM H.m1, ⟨ao, cap, rfl, lst_lsN H.m2 H.m3, (show LstF ao K cap ps w' from H.m2).2.1, fun b o e => (H.own (.lst ao K cap ps) (by simp) rfl b ⟨o, e⟩).elim (fun h => h.elim) id⟩, H.below⟩
theorem prW {A : Prop} {P : Program} {Q : Exit -> Act -> World -> Prop} {S0 : Nat -> Prop} {w0 : World} {n : Nat} {ls : List (Nat × Value)} {es : List En} {c : Code} (hm : En.pr A ∈ es) (k : A -> CW P n S0 w0 c Q ls es) : CW P n S0 w0 c Q ls es := fun a w ha hw => k (hw.all _ hm) a w ha hw
section
variable {P : Program} {ops : Array Oper} {Q : Exit -> Act -> World -> Prop} {S0 : Nat -> Prop} {w0 : World} {E0 : List En} {hd : List (List Nat)} {n j s : Nat} {l : List Nat} {G E : List En} {ls : List (Nat × Value)} {op : Op} {ty : TypeId} {pos : String} {af : Array Edge} {v : Value} {f : FuncId} {args : Array Value}
theorem fW (k : RWs ⟨P, ops, Q, S0, w0, E0, hd⟩ n l G E ((s, v) :: ls))
 (ho : ops[j]? = some ⟨some s, op, ty, pos, af, none⟩ := by rfl) (hk : (!isDet op && !isNew op && chkO ls op && Nat.blt s n) = true := by kernel_rfl)
 (hr : ∀ w, (execOp (evl ls) ⟨some s, op, ty, pos, af, none⟩).run P w = .ok (.value v) w := by intro w; (try simp only [av]); go_simp <;> with_reducible rfl)
 (hst : okSt ops hd j [] = true := by kernel_rfl) : RWs ⟨P, ops, Q, S0, w0, E0, hd⟩ n (j :: l) G E ls := fun a ha => by
 simp only [Bool.and_eq_true, Bool.not_eq_true'] at hk;refine ⟨_, ho, .inr (.inr ⟨hk.1.1.1, hk.1.1.2, Unit, fun _ => v, fun _ => G, fun _ => E, [], ⟨()⟩, fun X w hX hw => ?_, hst, fun _ _ _ => rfl, fun _ => k _ (ha.put (Nat.le_of_ble_eq_true hk.2) _)⟩)⟩;refine ifw rfl ?_;show wpR P _ ((execOp a.eval _).run P w);rw [ha.exec hk.1.2, hr w];exact ⟨(), rfl, hw⟩
theorem cLn {α : Type} {mk : α -> Value} {ao : α -> Option Addr} {xs : α -> List Int} {A : α -> Prop} (c : ∀ w, Fr S0 w0 w (G ++ E) -> Calls P f args w fun e w' => (∃ p, e = .returned (mk p) /\ LsN w' (ao p) (xs p) /\ A p /\ ∀ b o, ao p = some ⟨b, o, none⟩ -> w.heap.size <= b) /\ Below w.heap.size w w')
 (k : ∀ p, RWs ⟨P, ops, Q, S0, w0, E0, hd⟩ n l (.lsn (ao p) (xs p) :: .pr (A p /\ ∀ b o, ao p = some ⟨b, o, none⟩ -> w0.heap.size <= b) :: G) E ((s, mk p) :: ls))
 (ho : ops[j]? = some ⟨some s, op, ty, pos, af, none⟩ := by rfl) (hk : (!isDet op && !isNew op && chkO ls op && Nat.blt s n) = true := by kernel_rfl)
 (hr : ∀ w, (execOp (evl ls) ⟨some s, op, ty, pos, af, none⟩).run P w = .ok (.enter f args) w := by intro w; (try simp only [av]); go_simp <;> with_reducible rfl) (hne : Nonempty α := by infer_instance)
 (hst : okSt ops hd j [] = true := by kernel_rfl) : RWs ⟨P, ops, Q, S0, w0, E0, hd⟩ n (j :: l) G E ls := by
 refine cG (mk := mk) (ens := fun p => [.lsn (ao p) (xs p), .pr (A p /\ ∀ b o, ao p = some ⟨b, o, none⟩ -> w0.heap.size <= b)]) (fun w hw => (c w hw).mono ?_) k ho hk hr hne hst;rintro e w' ⟨⟨p, rfl, hl, hA, hS⟩, hb⟩;exact ⟨p, rfl, hb, fun e he => by
  rcases List.mem_cons.1 he with rfl | he
  · exact ⟨hl, fun b ⟨_, o, e⟩ => hS b o e⟩
  · rcases List.mem_singleton.1 he with rfl;exact ⟨⟨hA, fun b o e => Nat.le_trans hw.size (hS b o e)⟩, fun _ h => h.elim⟩, List.pairwise_pair.2 ⟨(fun h => nomatch h), (fun h => nomatch h)⟩⟩
end
set_option maxRecDepth 100000 in
set_option maxHeartbeats 2000000 in
theorem MDiag_c (r c : Nat) (la : Option Addr) (cap L : Nat) (xs : List Int) (w : World) (hr : r <= 64) (hc : c <= 64) (hx : xs.length <= min r c) (hA : LsAt w L la xs) (hL : L <= 17592186044415) :
 Calls Try.prog 15 #[.int .i64 (r : Int), .int .i64 (c : Int), .slice la xs.length cap] w fun e w' => (∃ p : Option Addr × Nat, e = .returned (.tuple #[.agg #[.int .i64 (r : Int), .int .i64 (c : Int), .slice p.1 (r * c) p.2], .int .i64 0]) /\ LsN w' p.1 (tabK c (diagF xs) (r * c)) /\ True /\ ∀ b o, p.1 = some ⟨b, o, none⟩ -> w.heap.size <= b) /\ Below w.heap.size w w' := by
 have s1 : sideOk (r : Int) = true := by unfold sideOk; simp; omega
 have s2 : sideOk (c : Int) = true := by unfold sideOk; simp; omega
 have hS1 : ∀ w', Calls Try.prog 28 #[.int .i64 (r : Int)] w' fun e w'' => e = .returned (.bool true) /\ Below w'.heap.size w' w'' := fun w' => (side_c r w').mono fun e w'' ⟨h1, h2⟩ => ⟨by rw [h1, s1], h2 ▸ Below.refl _ _⟩;have hS2 : ∀ w', Calls Try.prog 28 #[.int .i64 (c : Int)] w' fun e w'' => e = .returned (.bool true) /\ Below w'.heap.size w' w'' := fun w' => (side_c c w').mono fun e w'' ⟨h1, h2⟩ => ⟨by rw [h1, s2], h2 ▸ Below.refl _ _⟩;clear s1 s2;refine funW (S0 := fun _ => False) Try.func15 ((Fr.nil _ w).l hA (by simp)) ?_;refine goW ?_;refine rW [] ?_;refine aW fun g5 => ?_;refine aW fun g6 => ?_;refine dW ?_;refine eW ?_;refine goW ?_;refine rW [] ?_;refine dW ?_;refine cV (fun w' H => hS1 w') ?_;refine dW ?_;refine dW ?_;refine dG ?_;refine cVg (fun w' H => hS2 w') ?_;refine dG ?_;refine dW ?_;refine eW ?_;refine goW ?_;refine cfW ?_;refine goW ?_;refine rW [] ?_;refine dW ?_;refine dW ?_;refine dW ?_;refine dW ?_;refine dE (minI r c) ?_;obtain ⟨k, hk⟩ : ∃ k, min r c = k := ⟨_, rfl⟩;rw [hk] at hx ⊢;clear hk;refine dB false ?_;refine eW ?_;refine goW ?_;refine cfW ?_;refine goW ?_;refine rW [] ?_;refine dW ?_;refine dW ?_;refine fW ?_;refine cLn (α := Option Addr × Nat) (mk := fun p => .agg #[.int .i64 (r : Int), .int .i64 (c : Int), .slice p.1 (r * c) p.2]) (ao := fun p => p.1) (xs := fun _ => tabK c (diagF xs) (r * c)) (A := fun _ => True)
  (fun w' H => (Build1_c 30 (fun _ _ => by go_simp) r c g5 (diagF xs) w' hr hc (fun i j w2 hi hj hb => by
   have h1 : RowAt w' g5 22 [.slice la xs.length cap] := H.m1;have h2 : LsAt w' L la xs := H.m2;exact Diag1_c i j g5 la cap L xs w2 ((h1.below hb h1.lt).cell 0) (h2.below hb) hL)).mono (by
    rintro e w3 ⟨⟨ao, cap', rfl, hl, _, hS⟩, hb⟩;exact ⟨⟨(ao, cap'), rfl, hl, trivial, hS⟩, hb⟩)) fun q => ?_
 refine sW ?_;refine dW ?_;refine eW ?_;refine goW ?_;refine fin2 fun w' H => ?_;exact ⟨_, _, rvM H.m2, rvT, ⟨q, rfl, H.m0, trivial, (show True /\ ∀ b o, q.1 = some ⟨b, o, none⟩ -> w.heap.size <= b from H.m1).2⟩, H.below⟩
end Go.Proofs.Ytibogfdgdnedpaa
namespace Go.Proofs.Ytibogfdgdnedpaa
def chPass : Nat -> List Nat -> Nat × List Nat
 | g, [] => (g, [])
 | g, y :: l => ((chPass (Nat.gcd g y) l).1, Nat.lcm g y :: (chPass (Nat.gcd g y) l).2)
theorem chPass_length : ∀ (l : List Nat) (g : Nat), (chPass g l).2.length = l.length
 | [], _ => rfl
 | y :: l, g => by simp [chPass, chPass_length l]
def chProg : List Nat -> List Nat
 | [] => []
 | x :: l => (chPass x l).1 :: chProg (chPass x l).2
termination_by l => l.length
decreasing_by simp [chPass_length]
def chPut : Nat -> List Nat -> List Nat
 | x, [] => [x]
 | x, c :: cs => Nat.gcd c x :: chPut (Nat.lcm c x) cs
def chRef (l : List Nat) : List Nat := l.foldl (fun c x => chPut x c) []
theorem chPass_append : ∀ (l : List Nat) (g x : Nat), chPass g (l ++ [x]) = (Nat.gcd (chPass g l).1 x, (chPass g l).2 ++ [Nat.lcm (chPass g l).1 x])
 | [], g, x => by simp [chPass]
 | y :: l, g, x => by
  simp only [List.cons_append, chPass, chPass_append l (Nat.gcd g y) x]
theorem chProg_append : ∀ (n : Nat) (l : List Nat) (x : Nat), l.length = n -> chProg (l ++ [x]) = chPut x (chProg l) := by
 intro n;induction n with
 | zero =>
  intro l x h;obtain rfl := List.eq_nil_of_length_eq_zero h;simp [chProg, chPass, chPut]
 | succ n ih =>
  intro l x h;cases l with
  | nil => simp at h
  | cons y l =>
   rw [List.cons_append, chProg, chPass_append, chProg];simp only [chPut];rw [ih (chPass y l).2 _ (by rw [chPass_length]; simpa using h)]
theorem chProg_ref (l : List Nat) : chProg l = chRef l := by
 have key : ∀ n (l : List Nat), l.length = n -> chProg l = chRef l := by
  intro n;induction n with
  | zero => intro l h; obtain rfl := List.eq_nil_of_length_eq_zero h; simp [chProg, chRef]
  | succ n ih =>
   intro l h;have hne : l ≠ [] := by intro e; subst e; simp at h
   have e := List.dropLast_concat_getLast hne;have hl : l.dropLast.length = n := by simp [h]
   rw [<- e, chProg_append _ _ _ rfl, ih _ hl];simp [chRef, List.foldl_append]
 exact key _ l rfl
def chFin (pre : List Nat) (g : Nat) (mid suf : List Nat) : List Nat := pre ++ (chPass g suf).1 :: chProg (mid ++ (chPass g suf).2)
theorem chFin_start (pre : List Nat) (x : Nat) (l : List Nat) : chFin pre x [] l = pre ++ chProg (x :: l) := by rw [chFin, chProg]; rfl
theorem chFin_step (pre : List Nat) (g y : Nat) (mid suf : List Nat) : chFin pre (Nat.gcd g y) (mid ++ [Nat.lcm g y]) suf = chFin pre g mid (y :: suf) := by simp [chFin, chPass]
theorem chFin_end (pre : List Nat) (g : Nat) (mid : List Nat) : chFin pre g mid [] = (pre ++ [g]) ++ chProg mid := by simp [chFin, chPass]
def prodNZ : List Nat -> Nat
 | [] => 1
 | x :: l => (if x = 0 then 1 else x) * prodNZ l
def Dv (P x : Nat) : Prop := x = 0 ∨ x ∣ P
theorem prodNZ_pos : ∀ l : List Nat, 0 < prodNZ l
 | [] => Nat.one_pos
 | x :: l => Nat.mul_pos (by split <;> omega) (prodNZ_pos l)
theorem Dv.of_mem : ∀ {l : List Nat} {x : Nat}, x ∈ l -> Dv (prodNZ l) x
 | y :: l, x, h => by
  rcases List.mem_cons.1 h with rfl | h
  · by_cases h0 : x = 0
    · exact .inl h0
    · rw [prodNZ, if_neg h0]; exact .inr (Nat.dvd_mul_right ..)
  · rcases Dv.of_mem h with h0 | h0
    · exact .inl h0
    · exact .inr (Nat.dvd_trans h0 (Nat.dvd_mul_left ..))
theorem Dv.gcd {P x y : Nat} (h : Dv P x) (k : Dv P y) : Dv P (Nat.gcd x y) := by
 rcases h with rfl | h
 · rw [Nat.gcd_zero_left]; exact k
 · exact .inr (Nat.dvd_trans (Nat.gcd_dvd_left ..) h)
theorem Dv.lcm {P x y : Nat} (h : Dv P x) (k : Dv P y) : Dv P (Nat.lcm x y) := by
 rcases h with rfl | h
 · rw [Nat.lcm_zero_left]; exact .inl rfl
 · rcases k with rfl | k
   · rw [Nat.lcm_zero_right]; exact .inl rfl
   · exact .inr (Nat.lcm_dvd h k)
theorem Dv.le {P x : Nat} (hP : 0 < P) (h : Dv P x) : x <= P := by
 rcases h with rfl | h
 · omega
 · exact Nat.le_of_dvd hP h
theorem prodNZ_lt (L : Nat) : ∀ l : List Nat, (∀ x ∈ l, x < W ^ L) -> prodNZ l <= W ^ (L * l.length)
 | [], _ => by simp [prodNZ]
 | x :: l, h => by
  have h1 := prodNZ_lt L l fun y hy => h y (List.mem_cons_of_mem _ hy);have h2 := h x (List.mem_cons_self ..);rw [prodNZ, List.length_cons, Nat.mul_succ, Nat.pow_add, Nat.mul_comm (W ^ (L * l.length))];refine Nat.mul_le_mul ?_ h1;split <;> omega
theorem chRef_length : ∀ l : List Nat, (chRef l).length = l.length := fun l => by
 rw [<- chProg_ref];have key : ∀ n (l : List Nat), l.length = n -> (chProg l).length = n := by
  intro n;induction n with
  | zero => intro l h; obtain rfl := List.eq_nil_of_length_eq_zero h; simp [chProg]
  | succ n ih =>
   intro l h;cases l with
   | nil => simp at h
   | cons x l =>
    rw [chProg, List.length_cons, ih (chPass x l).2 (by rw [chPass_length]; simpa using h)]
 exact key _ l rfl
theorem chPass_dv {P : Nat} : ∀ (l : List Nat) (g : Nat), Dv P g -> (∀ y ∈ l, Dv P y) -> Dv P (chPass g l).1 /\ ∀ y ∈ (chPass g l).2, Dv P y
 | [], g, hg, _ => ⟨hg, fun y hy => by cases hy⟩
 | x :: l, g, hg, h => by
  have hx := h x (List.mem_cons_self ..);obtain ⟨h1, h2⟩ := chPass_dv l (Nat.gcd g x) (hg.gcd hx) fun y hy => h y (List.mem_cons_of_mem _ hy);refine ⟨h1, fun y hy => ?_⟩;rcases List.mem_cons.1 hy with rfl | hy
  · exact hg.lcm hx
  · exact h2 y hy
theorem chProg_dv {P : Nat} {l : List Nat} (h : ∀ y ∈ l, Dv P y) : ∀ y ∈ chProg l, Dv P y := by
 have key : ∀ n (l : List Nat), l.length = n -> (∀ y ∈ l, Dv P y) -> ∀ y ∈ chProg l, Dv P y := by
  intro n;induction n with
  | zero => intro l h; obtain rfl := List.eq_nil_of_length_eq_zero h; simp [chProg]
  | succ n ih =>
   intro l h hd;cases l with
   | nil => simp at h
   | cons x l =>
    obtain ⟨h1, h2⟩ := chPass_dv l x (hd x (List.mem_cons_self ..)) fun y hy => hd y (List.mem_cons_of_mem _ hy);intro y hy;rw [chProg] at hy;rcases List.mem_cons.1 hy with rfl | hy
    · exact h1
    · exact ih _ (by rw [chPass_length]; simpa using h) h2 y hy
 exact key _ l rfl h
theorem prodNZ_sum : ∀ xs : List Int, prodNZ (xs.map Int.natAbs) <= W ^ (xs.map fun z => wlen z.natAbs).sum
 | [] => by simp [prodNZ]
 | x :: xs => by
  have h1 := prodNZ_sum xs;have h2 := lt_pow_wlen x.natAbs;rw [List.map_cons, List.map_cons, prodNZ, List.sum_cons, Nat.pow_add];refine Nat.mul_le_mul ?_ h1;split <;> omega
end Go.Proofs.Ytibogfdgdnedpaa
namespace Go.Proofs.Ytibogfdgdnedpaa
open Go.RowKit
def nt (l : List Nat) : List Int := l.map fun n : Nat => (n : Int)
theorem nt_length (l : List Nat) : (nt l).length = l.length := by simp [nt]
theorem gi_nt (l : List Nat) (i : Nat) : gi (nt l) i = ((l.getD i 0 : Nat) : Int) := by
 unfold gi nt;rw [List.getD_eq_getElem?_getD, List.getElem?_map, List.getD_eq_getElem?_getD];cases l[i]? <;> rfl
theorem nt_set (l : List Nat) (i v : Nat) : (nt l).set i (v : Int) = nt (l.set i v) := by simp [nt, List.map_set]
theorem NsAt.nat {w : World} {ps : List P4} {l : List Nat} (h : NsAt w ps (nt l)) {i : Nat} (hi : i < l.length) : NumAt w (av (gp ps i)) ((l.getD i 0 : Nat) : Int) := by
 have := h.2 i (by rw [h.1, nt_length]; exact hi)
 rwa [gi_nt] at this
structure C1X where
 i : Nat
 ps : List P4
 zs : List Int
structure C1I (xs : List Int) (n : Nat) (z : C1X) : Prop where
 hi : z.i <= n
 hp : z.ps.length = n
 hz : z.zs.length = n
 ok : ∀ k, k < n -> gi z.zs k = if k < z.i then (((gi xs k).natAbs : Nat) : Int) else 0
structure C2X where
 i : Nat
 pre : List Nat
 suf : List Nat
 ps : List P4
structure C2I (R : List Nat) (P n : Nat) (z : C2X) : Prop where
 hi : z.pre.length = z.i
 hp : z.ps.length = n
 hl : (z.pre ++ z.suf).length = n
 fin : z.pre ++ chProg z.suf = R
 dv : ∀ y ∈ z.pre ++ z.suf, Dv P y
structure C3X where
 j : Nat
 g : Nat
 mid : List Nat
 suf : List Nat
 ps : List P4
structure C3I (R : List Nat) (P n i : Nat) (pre : List Nat) (z : C3X) : Prop where
 hj : i + 1 + z.mid.length = z.j
 hp : z.ps.length = n
 hl : (pre ++ z.g :: (z.mid ++ z.suf)).length = n
 fin : chFin pre z.g z.mid z.suf = R
 dv : ∀ y ∈ pre ++ z.g :: (z.mid ++ z.suf), Dv P y
theorem getD_at (a : List Nat) (x : Nat) (b : List Nat) : (a ++ x :: b).getD a.length 0 = x := by simp
theorem set_at (a : List Nat) (x y : Nat) (b : List Nat) : (a ++ x :: b).set a.length y = a ++ y :: b := by simp
set_option maxRecDepth 100000 in
set_option maxHeartbeats 4000000 in
theorem SChain_c (ao : Option Addr) (cap L : Nat) (xs : List Int) (w : World) (hA : LsAt w L ao xs) (hL : L <= 17592186044415) (hn : xs.length <= 8796093022208) (hP : wlen (prodNZ (xs.map Int.natAbs)) <= 8796093022207) :
 Calls Try.prog 5 #[.slice ao xs.length cap] w fun e w' => (∃ b, e = .returned (.slice (some ⟨b, 0, none⟩) xs.length xs.length) /\ w.heap.size <= b /\ RowN w' b (nt (chProg (xs.map Int.natAbs)))) /\ Below w.heap.size w w' := by
 obtain ⟨R, hR⟩ : ∃ R, chProg (xs.map Int.natAbs) = R := ⟨_, rfl⟩;have hdv0 : ∀ y ∈ xs.map Int.natAbs, Dv (prodNZ (xs.map Int.natAbs)) y := fun y hy => Dv.of_mem hy;have hP0 := prodNZ_pos (xs.map Int.natAbs);obtain ⟨P, hPP⟩ : ∃ P, prodNZ (xs.map Int.natAbs) = P := ⟨_, rfl⟩;obtain ⟨n, hnn⟩ : ∃ n, xs.length = n := ⟨_, rfl⟩;rw [hPP] at hdv0 hP hP0;rw [hR, hnn];rw [hnn] at hn;have hb : ∀ y, Dv P y -> wlen y <= 8796093022207 := fun y hy => Nat.le_trans (wlen_mono (hy.le hP0)) hP;have HB := Lib.hid hb;have HN := Lib.hid hnn;have HR := Lib.hid hR;have HD := Lib.hid hdv0;clear hb hnn hR hPP hP hP0 hdv0;refine funW (S0 := fun _ => False) Try.func5 ((Fr.nil _ w).l hA (by simp)) ?_;refine goW ?_;refine rW [] ?_;refine dW ?_;refine eW ?_;refine goW ?_;refine rW [] ?_;refine dW ?_;refine dW ?_;refine mN n n rfl rfl (Nat.le_refl _) hn fun b => ?_;refine dW ?_;refine eW ?_;refine addW (e := .ns (List.replicate n p0) (List.replicate n 0)) (fun w' _ => NsAt.zeros w' n) ?_;refine goW ?_;refine rW [] ?_;refine dW ?_;refine dW ?_;refine dW ?_;refine eW ?_;refine goW ?_;refine loopW (X := C1X) (C1I xs n) (fun z => n - z.i) (fun z => [(14, .int .i64 (z.i : Int)), (13, .int .i64 (n : Int)), (12, .slice ao n cap), (3, .slice (some ⟨b, 0, none⟩) n n)]) (fun z => [.ns z.ps z.zs, .row b 27 (rn z.ps []), .ls L ao xs]) ⟨0, List.replicate n p0, List.replicate n 0⟩ ⟨Nat.zero_le _, by simp, by simp, fun k hk => by rw [gi_eq (by simpa using hk)]; simp⟩ fun z hz => ?_;obtain ⟨i, ps, zs⟩ := z;obtain ⟨hi, hp, hz, hok⟩ := hz
 replace hi : i <= n := hi
 replace hp : ps.length = n := hp
 replace hz : zs.length = n := hz
 replace hok : ∀ k, k < n -> gi zs k = if k < i then (((gi xs k).natAbs : Nat) : Int) else 0 := hok
 have HZ := Lib.hid (And.intro hp hz);clear hp hz;by_cases h : i < n
 · obtain ⟨bx, ox, rfl⟩ := hA.pos (i := i) (by rw [HN.out]; exact h);have h01 : (i : Int) < (n : Int) := by omega
   refine goW ?_;refine rW [] ?_;refine dB true ?_;refine eW ?_;refine goW ?_;refine ctW ?_;refine numW (L := L) (xs := xs) (b := bx) (o := ox) i (by simp) (by rw [HN.out]; exact h) fun p => ?_;refine goW ?_;refine rW [] ?_;refine dW ?_;refine dW ?_;refine dW ?_;refine aW fun g5 => ?_;refine dW ?_;refine sG ?_;refine eW ?_;refine goW ?_;refine rW [] ?_;refine dW ?_;refine dW ?_;refine dW ?_;refine cN (fun w' H => IAbs_c (av p) _ w' (H.m3.mono hL)) fun q => ?_;refine dW ?_;refine moreW (e := .ns (ps.set i q) (zs.set i ((gi xs i).natAbs : Nat))) (fun w' H => NsAt.set H.m5 i H.m0.num) ?_;refine sN i q (by rw [HZ.out.1]; exact h) NoW.nil rfl ?_;refine eW ?_;refine goW ?_;refine rW [] ?_;refine dE (incB (a := i) (by omega)) ?_;refine dW ?_;refine eW ?_;refine goW ?_;refine backW (⟨i + 1, ps.set i q, zs.set i ((gi xs i).natAbs : Nat)⟩ : C1X) ⟨⟨h, by simpa using HZ.out.1, by simpa using HZ.out.2, fun k hk => ?_⟩, by show n - (i + 1) < n - i; omega⟩;show gi (zs.set i ((gi xs i).natAbs : Nat)) k = if k < i + 1 then (((gi xs k).natAbs : Nat) : Int) else 0;rw [gi_set (by rw [HZ.out.2]; exact h)];by_cases e : k = i
   · subst e; rw [if_pos rfl, if_pos (by omega)]
   · rw [if_neg e, hok k hk];by_cases e2 : k < i
     · rw [if_pos e2, if_pos (by omega)]
     · rw [if_neg e2, if_neg (by omega)]
 · obtain rfl : i = n := by omega
   have hzs : zs = nt (xs.map Int.natAbs) := by
    refine List.ext_getElem (by rw [HZ.out.2, nt_length, List.length_map, HN.out]) fun k h1 h2 => ?_;have hk : k < i := by rw [HZ.out.2] at h1; exact h1
    have := hok k hk;rw [if_pos hk, gi_eq h1, gi_eq (by rw [HN.out]; exact hk)] at this;rw [this]; simp [nt]
   subst hzs;clear hok hi;refine goW ?_;refine rW [] ?_;refine dB false ?_;refine eW ?_;refine goW ?_;refine cfW ?_;refine goW ?_;refine rW [] ?_;refine dW ?_;refine dW ?_;refine dW ?_;refine eW ?_;refine goW ?_;refine loopW (X := C2X) (C2I R P i) (fun z => i - z.i) (fun z => [(27, .int .i64 (z.i : Int)), (26, .int .i64 (i : Int)), (3, .slice (some ⟨b, 0, none⟩) i i)]) (fun z => [.row b 27 (rn z.ps []), .ns z.ps (nt (z.pre ++ z.suf))]) ⟨0, [], xs.map Int.natAbs, ps⟩ ⟨rfl, HZ.out.1, by simp [HN.out], HR.out, HD.out⟩ fun z hz => ?_;clear HZ HD HR;obtain ⟨I, pre, suf, ps⟩ := z;obtain ⟨hI, hp, hl, hfin, hdv⟩ := hz
   replace hI : pre.length = I := hI
   replace hp : ps.length = i := hp
   replace hl : (pre ++ suf).length = i := hl
   replace hfin : pre ++ chProg suf = R := hfin
   replace hdv : ∀ y ∈ pre ++ suf, Dv P y := hdv
   cases suf with
   | nil =>
    have e : I = i := by simpa [hI] using hl
    have hfin : pre = R := by simpa [chProg] using hfin
    subst e hfin;clear hl hI hp;refine goW ?_;refine rW [] ?_;refine dB false ?_;refine eW ?_;refine goW ?_;refine cfW ?_;refine goW ?_;refine rW [] ?_;refine dW ?_;refine dW ?_;refine eW ?_;refine goW ?_;refine fin1 fun w' H => ?_;exact ⟨_, rvT, ⟨b, rfl, (H.own _ (List.mem_cons_self ..) rfl _ rfl).elim (fun h => h.elim) id, RowN.mk' H.m0 NoW.nil (by have := H.m1; rw [List.append_nil] at this; exact this)⟩, H.below⟩
   | cons x suf =>
    have hIn : I < i := by simp at hl; omega
    have h01 : (I : Int) < (i : Int) := by omega
    have HL := Lib.hid (And.intro hI (And.intro hp hl));clear hI hp hl;refine goW ?_;refine rW [] ?_;refine dB true ?_;refine eW ?_;refine goW ?_;refine ctW ?_;refine goW ?_;refine rW [] ?_;refine dW ?_;refine dW ?_;refine eW ?_;refine goW ?_;refine rW [] ?_;refine dW ?_;refine dE (incB (a := I) (by omega)) ?_;refine dW ?_;refine eW ?_;refine goW ?_;refine loopW (X := C3X) (C3I R P i I pre) (fun z => z.suf.length) (fun z => [(7, .int .i64 (z.j : Int)), (6, .int .i64 (I : Int)), (27, .int .i64 (I : Int)), (26, .int .i64 (i : Int)), (3, .slice (some ⟨b, 0, none⟩) i i)]) (fun z => [.row b 27 (rn z.ps []), .ns z.ps (nt (pre ++ z.g :: (z.mid ++ z.suf)))]) ⟨I + 1, x, [], suf, ps⟩ ⟨rfl, HL.out.2.1, HL.out.2.2, by rw [chFin_start]; exact hfin, hdv⟩ fun z hz => ?_;have HI := Lib.hid HL.out.1;clear HL hfin hdv;obtain ⟨J, g, mid, suf', ps⟩ := z;obtain ⟨hJ, hp, hl, hfin, hdv⟩ := hz
    replace hJ : I + 1 + mid.length = J := hJ
    replace hp : ps.length = i := hp
    replace hl : (pre ++ g :: (mid ++ suf')).length = i := hl
    replace hfin : chFin pre g mid suf' = R := hfin
    replace hdv : ∀ y ∈ pre ++ g :: (mid ++ suf'), Dv P y := hdv
    cases suf' with
    | nil =>
     have e : J = i := by have := HI.out; simp at hl; omega
     subst e;refine goW ?_;refine rW [] ?_;refine dW ?_;refine dW ?_;refine dW ?_;refine dB false ?_;refine eW ?_;refine goW ?_;refine cfW ?_;refine goW ?_;refine rW [] ?_;refine dE (incB (a := I) (by omega)) ?_;refine dW ?_;refine eW ?_;refine goW ?_;refine backW (⟨I + 1, pre ++ [g], mid, ps⟩ : C2X) ⟨⟨by simp [HI.out], hp, by simpa using hl, by rw [<- hfin, chFin_end], by simpa using hdv⟩, by show J - (I + 1) < J - I; omega⟩ (he := fun w' H => by simpa using H)
    | cons y suf' =>
     obtain ⟨l, hle⟩ : ∃ l, pre ++ g :: (mid ++ y :: suf') = l := ⟨_, rfl⟩;have hll : l.length = i := by rw [<- hle]; exact hl
     have e1 : (pre ++ g :: mid).length = J := by have := HI.out; simp; omega
     have e2 : pre ++ g :: (mid ++ y :: suf') = (pre ++ g :: mid) ++ y :: suf' := by simp
     have eI : l.getD I 0 = g := by rw [<- hle, <- HI.out]; exact getD_at ..
     have eJ : l.getD J 0 = y := by rw [<- hle, e2, <- e1]; exact getD_at ..
     have eS : (l.set J (Nat.lcm g y)).set I (Nat.gcd g y) = pre ++ Nat.gcd g y :: ((mid ++ [Nat.lcm g y]) ++ suf') := by
      rw [<- hle, e2, <- e1, set_at, <- HI.out, List.append_assoc, List.cons_append, set_at]; simp
     have hJn : J < i := by simp at hl; have := HI.out; omega
     have hIJ : I < J := by omega
     have hg : wlen g <= 8796093022207 := HB.out g (hdv g (by simp));have hy : wlen y <= 8796093022207 := HB.out y (hdv y (by simp));have hdv' : ∀ z ∈ pre ++ Nat.gcd g y :: ((mid ++ [Nat.lcm g y]) ++ suf'), Dv P z := by
      have dg := hdv g (by simp);have dy := hdv y (by simp);intro z hz;simp only [List.mem_append, List.mem_cons, List.not_mem_nil, or_false] at hz;rcases hz with hz | rfl | (hz | rfl) | hz
      · exact hdv z (by simp [hz])
      · exact dg.gcd dy
      · exact hdv z (by simp [hz])
      · exact dg.lcm dy
      · exact hdv z (by simp [hz])
     have rI : ∀ w, NsAt w ps (nt l) -> IntAt w 8796093022207 (av (gp ps I)) (g : Int) := fun w h => by
      have := h.nat (i := I) (by rw [hll]; omega);rw [eI] at this; exact this.int hg
     have rJ : ∀ w, NsAt w ps (nt l) -> IntAt w 8796093022207 (av (gp ps J)) (y : Int) := fun w h => by
      have := h.nat (i := J) (by rw [hll]; omega);rw [eJ] at this; exact this.int hy
     have sIJ : ∀ w (p q : P4), NsAt w ps (nt l) -> NumAt w (av p) ((Nat.gcd g y : Nat) : Int) -> NumAt w (av q) ((Nat.lcm g y : Nat) : Int) -> NsAt w ((ps.set J q).set I p) (nt (pre ++ Nat.gcd g y :: ((mid ++ [Nat.lcm g y]) ++ suf'))) := fun w p q h hp hq => by
      have := (h.set J hq).set I hp;rw [nt_set, nt_set, eS] at this; exact this
     have k0 := rn0 [] (ps := ps) (i := I) (by omega);have k1 := rn1 [] (ps := ps) (i := I) (by omega);have k2 := rn0 [] (ps := ps) (i := J) (by omega);have k3 := rn1 [] (ps := ps) (i := J) (by omega);have hfin' := chFin_step pre g y mid suf';rw [hfin] at hfin';have h01 : (I : Int) < (i : Int) := by omega
     have h02 : (J : Int) < (i : Int) := by omega
     have HQ := Lib.hid (And.intro hp (And.intro hfin' (And.intro hdv' (And.intro hJ hl))));rw [show pre ++ (⟨J, g, mid, y :: suf', ps⟩ : C3X).g :: ((⟨J, g, mid, y :: suf', ps⟩ : C3X).mid ++ (⟨J, g, mid, y :: suf', ps⟩ : C3X).suf) = l from hle];clear hp hfin hfin' hdv hdv' hJ hl e1 e2 eI eJ eS hle hll;refine goW ?_;refine rW [] ?_;refine dW ?_;refine dW ?_;refine dW ?_;refine dB true ?_;refine eW ?_;refine goW ?_;refine ctW ?_;refine goW ?_;refine rW [] ?_;refine dW ?_;refine dW ?_;refine dW ?_;refine dW ?_;refine dW ?_;refine dW ?_;refine dW ?_;refine dW ?_;refine cN (x := ((Nat.gcd g y : Nat) : Int)) (fun w' H => BGcd_c (av (gp ps I)) (av (gp ps J)) g y w' ((rI w' H.m1).mono (by omega)) ((rJ w' H.m1).mono (by omega))) fun p46 => ?_;refine aW fun g8 => ?_;refine sG ?_;refine eW ?_;refine goW ?_;refine rW [] ?_;refine dW ?_;refine dW ?_;refine dW ?_;refine dW ?_;refine dW ?_;refine dW ?_;refine dW ?_;refine dW ?_;refine dW ?_;refine dW ?_;refine cN (x := ((Nat.lcm g y : Nat) : Int)) (fun w' H => BLcm_c (av (gp ps I)) (av (gp ps J)) g y 8796093022207 w' (rI w' H.m3) (rJ w' H.m3) (Nat.le_refl _)) fun p57 => ?_;refine dW ?_;refine sN J p57 (by rw [HQ.out.1]; omega) NoW.nil rfl ?_;refine eW ?_;refine goW ?_;refine rW [] ?_;refine dW ?_;refine dW ?_;refine dW ?_;refine dW ?_;refine moreW (e := .ns ((ps.set J p57).set I p46) (nt (pre ++ Nat.gcd g y :: ((mid ++ [Nat.lcm g y]) ++ suf')))) (fun w' H => sIJ w' p46 p57 H.m4 H.m2.num H.m0.num) ?_;refine sN (ps := ps.set J p57) I p46 (by rw [List.length_set, HQ.out.1]; omega) NoW.nil rfl ?_;refine eW ?_;refine goW ?_;refine rW [] ?_;refine dW ?_;refine dE (incB (a := J) (by omega)) ?_;refine dW ?_;refine eW ?_;refine goW ?_;refine backW (⟨J + 1, Nat.gcd g y, mid ++ [Nat.lcm g y], suf', (ps.set J p57).set I p46⟩ : C3X) ⟨⟨by have := HQ.out.2.2.2.1; simp; omega, by simpa using HQ.out.1, by have := HQ.out.2.2.2.2; simp at this ⊢; omega, HQ.out.2.1, HQ.out.2.2.1⟩, by simp⟩
def lead : List Int -> Nat
 | [] => 0
 | x :: xs => if x = 0 then lead xs + 1 else 0
theorem lead_le : ∀ xs : List Int, lead xs <= xs.length
 | [] => Nat.le_refl _
 | x :: xs => by
  unfold lead; split
  · have := lead_le xs; simp; omega
  · simp
theorem lead_of : ∀ (xs : List Int) (k : Nat) (h : k < xs.length), (∀ i (h' : i < k), xs[i]'(by omega) = 0) -> xs[k] ≠ 0 -> lead xs = k
 | x :: xs, 0, _, _, hn => by unfold lead; rw [if_neg]; simpa using hn
 | x :: xs, k + 1, h, hz, hn => by
  have h0 : x = 0 := hz 0 (by omega);unfold lead; rw [if_pos h0, lead_of xs k (by simpa using h) (fun i hi => by have := hz (i + 1) (by omega); simpa using this) (by simpa using hn)]
theorem lead_all : ∀ (xs : List Int), (∀ i (h : i < xs.length), xs[i] = 0) -> lead xs = xs.length
 | [], _ => rfl
 | x :: xs, hz => by
  have h0 : x = 0 := hz 0 (by simp);unfold lead; rw [if_pos h0, lead_all xs (fun i hi => by have := hz (i + 1) (by simpa using hi); simpa using this)]; rfl
set_option maxRecDepth 100000 in
set_option maxHeartbeats 4000000 in
theorem Lead_c (b cap : Nat) (xs : List Int) (w : World) (hR : RowN w b xs) (hL : ∀ x ∈ xs, wlen x.natAbs <= 17592186044415) (hlen : xs.length <= 9223372036854775807) :
 Calls Try.prog 92 #[.slice (some ⟨b, 0, none⟩) xs.length cap] w fun e w' => e = .returned (.int .i64 (lead xs : Nat)) /\ Below w.heap.size w w' := by
 have HL := Lib.hid hL; clear hL;have HR := Lib.hid hR; clear hR;go_enter Try.func92, Try.ntmps92;go_wp2;go_loopw [7] (fun i wr => ∃ k : Nat, k <= xs.length /\ i = .int .i64 (k : Int) /\ Hid (∀ j (h : j < k) (h' : j < xs.length), xs[j] = 0) /\ Below w.heap.size w wr) (fun i _ => xs.length - (intOf i).toNat)
 case atStart => exact ⟨0, Nat.zero_le _, rfl, fun j h => by omega, Below.refl _ _⟩
 case round =>
  obtain ⟨k, hk, rfl, hz, hb⟩ := hrel;by_cases hkl : k < xs.length
  · have hR2 := HR.out.below hb;obtain ⟨p, hc0, hc1, hn⟩ := hR2.get hkl;have hkl' : (k : Int) < (xs.length : Int) := by omega
    have HN := Lib.hid hn;clear hn;go_wp2_with fail
    have hb1 : Below wr.heap.size wr (wr.alloc (.cells #[.bool p.fst, .slice p.snd.fst p.snd.snd.fst p.snd.snd.snd] 27)) := (Below.refl _ _).alloc (Nat.le_refl _) _;refine (ISign_c (av p) xs[k] _ ((HN.out.int (HL.out _ (List.getElem_mem hkl))).below hb1)).mono ?_;rintro e w2 ⟨rfl, hb2⟩;have hb3 : Below w.heap.size w w2 := hb.trans ((hb1.trans (hb2.mono hb1.size)).mono hb.size);have HB3 := Lib.hid hb3;clear hb1 hb2 hb3 hc0 hc1;by_cases h0 : xs[k] = 0
    · have hz0 : zsign xs[k] = 0 := zsign_beq.2 h0;rw [hz0];have H0 := Lib.hid h0;clear h0 hz0;go_wp2;go_roundw
      case rel => exact ⟨k + 1, by omega, by go_num, Lib.hid (fun j hj hj' => (Nat.lt_succ_iff_lt_or_eq.1 hj).elim (fun h => hz.out j h hj') (fun h => by subst h; exact H0.out)), HB3.out⟩
      case measure => simp [intOf]; omega
    · have hn0 : ¬ zsign xs[k] = 0 := fun h => h0 (zsign_beq.1 h);have hle := lead_of xs k hkl (fun i h' => hz.out i h' (by omega)) h0;have HLE := Lib.hid hle;obtain ⟨s, hs⟩ : ∃ s, zsign xs[k] = s := ⟨_, rfl⟩;rw [hs] at hn0 ⊢;have hb0 : (s != 0) = true := by simpa using hn0
      clear h0 hle hs;go_wp2;go_ret;rw [HLE.out];exact ⟨rfl, HB3.out⟩
  · obtain rfl : k = xs.length := by omega
    have hle := lead_all xs (fun i h => hz.out i h h);have HLE := Lib.hid hle;clear hle;go_wp2;go_ret;rw [HLE.out];exact ⟨rfl, hb⟩
theorem Chg.rowN {S : Nat -> Prop} {w w' : World} (h : Chg S w w') (hS : Wordless S w) {b : Nat} {xs : List Int} (hx : RowN w b xs) (hb : ¬ S b) : RowN w' b xs := by
 obtain ⟨ps, tl, nt, hr, hl, hn⟩ := hx;exact ⟨ps, tl, nt, h.row hr hb, hl, fun i h1 h2 => h.num hS (hn i h1 h2)⟩
theorem RowN.wordless {w : World} {b : Nat} {xs : List Int} (h : RowN w b xs) : Wordless (· = b) w := by
 rintro g rfl;obtain ⟨ps, tl, nt, hr, _⟩ := h;exact ⟨_, _, hr, flat_app nt⟩
def addRow (k : Int) (xs ys : List Int) : List Int := List.zipWith (fun x y => k * y + x) xs ys
def AddTo (k : Int) (xs ys cu : List Int) (m : Nat) : Prop := cu.length = xs.length /\ (∀ j (h : j < cu.length) (h1 : j < xs.length) (h2 : j < ys.length), j < m -> cu[j] = k * ys[j] + xs[j]) /\ (∀ j (h : j < cu.length) (h1 : j < xs.length), m <= j -> cu[j] = xs[j])
theorem AddTo.start (k : Int) (xs ys : List Int) : AddTo k xs ys xs 0 := ⟨rfl, fun _ _ _ _ h => by omega, fun _ _ _ _ => rfl⟩
theorem AddTo.next {k : Int} {xs ys cu : List Int} {m : Nat} (h : AddTo k xs ys cu m) (hm : m < xs.length) (hl : xs.length = ys.length) : AddTo k xs ys (cu.set m (k * ys[m] + xs[m])) (m + 1) := by
 obtain ⟨h1, h2, h3⟩ := h;refine ⟨by simpa using h1, fun j hj hx hy hjm => ?_, fun j hj hx hjm => ?_⟩
 · rw [List.getElem_set];split
   · rename_i e; subst e; rfl
   · exact h2 j (by simpa using hj) hx hy (by omega)
 · rw [List.getElem_set, if_neg (by omega)];exact h3 j (by simpa using hj) hx (by omega)
theorem AddTo.skip {k : Int} {xs ys cu : List Int} {m : Nat} (h : AddTo k xs ys cu m) (hm : m < xs.length) (hl : xs.length = ys.length) (h0 : ys[m] = 0) : AddTo k xs ys cu (m + 1) := by
 obtain ⟨h1, h2, h3⟩ := h;refine ⟨h1, fun j hj hx hy hjm => ?_, fun j hj hx hjm => h3 j hj hx (by omega)⟩;by_cases e : j = m
 · subst e; rw [h3 j hj hx (Nat.le_refl _), h0]; simp
 · exact h2 j hj hx hy (by omega)
theorem AddTo.all {k : Int} {xs ys cu : List Int} (h : AddTo k xs ys cu xs.length) (hl : xs.length = ys.length) : cu = addRow k xs ys := by
 obtain ⟨h1, h2, h3⟩ := h;refine List.ext_getElem (by simp [addRow, h1, <- hl]) fun j hj hj' => ?_;rw [h2 j hj (by omega) (by omega) (by omega)];simp [addRow]
set_option maxRecDepth 100000 in
set_option maxHeartbeats 4000000 in
theorem LAdd_c (bx by_ cx cy LA LB : Nat) (xs ys : List Int) (kv : Value) (k : Int) (w : World) (hX : RowN w bx xs) (hY : RowN w by_ ys) (hK : IntAt w LA kv k) (hne : bx ≠ by_) (hl : xs.length = ys.length)
 (hxL : ∀ x ∈ xs, wlen x.natAbs <= 17592186044415) (hyL : ∀ y ∈ ys, wlen y.natAbs <= LB) (hLab : LA + LB <= 17592186044415) (hlen : xs.length <= 4611686018427387903) :
 Calls Try.prog 89 #[.slice (some ⟨bx, 0, none⟩) xs.length cx, .slice (some ⟨by_, 0, none⟩) ys.length cy, kv] w fun e w' => e = .returned (.tuple #[]) /\ RowN w' bx (addRow k xs ys) /\ Chg (· = bx) w w' := by
 obtain ⟨kp, rfl⟩ := hK.parts;have HX := Lib.hid hX; clear hX;have HY := Lib.hid hY; clear hY;have HK := Lib.hid hK; clear hK;have HXL := Lib.hid hxL; clear hxL;have HYL := Lib.hid hyL; clear hyL;have Hl := Lib.hid hl; clear hl;go_enter Try.func89, Try.ntmps89;unfold av at *;go_wp2;have hb1 : Below w.heap.size w (w.alloc (.cells #[.bool kp.1, .slice kp.2.1 kp.2.2.1 kp.2.2.2] 27)) := (Below.refl _ _).alloc (Nat.le_refl _) _;have hr1 := RowAt.new w #[.bool kp.1, .slice kp.2.1 kp.2.2.1 kp.2.2.2] 27;generalize w.alloc (.cells #[.bool kp.1, .slice kp.2.1 kp.2.2.1 kp.2.2.2] 27) = w1 at *;have HB1 := Lib.hid (Chg.of_below (S := (· = bx)) hb1);have HX1 := Lib.hid (HX.out.below hb1);have HY1 := Lib.hid (HY.out.below hb1);have HK1 := Lib.hid (HK.out.below hb1);have HR1 := Lib.hid hr1;have hs1 : w.heap.size < w1.heap.size := hr1.lt;have hbx := HX.out.lt;have hby := HY.out.lt;clear hr1 hb1;go_loopw [9] (fun i wr => ∃ (m : Nat) (cu : List Int), m <= xs.length /\ i = .int .i64 (m : Int) /\ Hid (AddTo k xs ys cu m) /\ Hid (RowN wr bx cu) /\ Hid (RowN wr by_ ys) /\ Hid (RowAt wr w.heap.size 27 [.bool kp.1, .slice kp.2.1 kp.2.2.1 kp.2.2.2]) /\ Hid (IntAt wr LA (av kp) k) /\ Hid (Chg (· = bx) w wr)) (fun i _ => xs.length - (intOf i).toNat)
 case atStart => exact ⟨0, xs, Nat.zero_le _, rfl, AddTo.start .., HX1, HY1, HR1, HK1, HB1⟩
 case round =>
  obtain ⟨m, cu, hm, rfl, HA, hX, hY, hR, hK, hC⟩ := hrel;by_cases hml : m < xs.length
  · have hmy : m < ys.length := by have := Hl.out; omega
    have hmx : m < cu.length := by rw [HA.out.1]; exact hml
    have hm1 : (m : Int) < (ys.length : Int) := by omega
    have hm2 : (m : Int) < (xs.length : Int) := by omega
    obtain ⟨py, cy0, cy1, hny⟩ := hY.out.get hmy;have Hny := Lib.hid hny; clear hny;go_wp2_with fail
    refine (ISign_c (av py) ys[m] _ (Hny.out.int (by have := HYL.out _ (List.getElem_mem hmy); omega))).mono ?_;rintro e w2 ⟨rfl, hb2⟩;clear cy0 cy1;have X2 := Lib.hid (hX.out.below hb2);have Y2 := Lib.hid (hY.out.below hb2);have R2 := Lib.hid (hR.out.below hb2 hR.out.lt);have K2 := Lib.hid (hK.out.below hb2);have C2 := Lib.hid (hC.out.below hb2);have N2 := Lib.hid (Hny.out.below hb2);have hsw := hC.out.size;have hsw2 := hb2.size;have hswr := hR.out.lt;clear hX hY hR hK hC Hny hb2;by_cases h0 : ys[m] = 0
    · have hz0 : zsign ys[m] = 0 := zsign_beq.2 h0;rw [hz0];have H0 := Lib.hid h0;clear h0 hz0;go_wp2;go_roundw
      case rel => exact ⟨m + 1, cu, by omega, by go_num, HA.out.skip hml Hl.out H0.out, X2, Y2, R2, K2, C2⟩
      case measure => simp [intOf]; omega
    · have hn0 : ¬ zsign ys[m] = 0 := fun h => h0 (zsign_beq.1 h);obtain ⟨s, hs⟩ : ∃ s, zsign ys[m] = s := ⟨_, rfl⟩;rw [hs] at hn0 ⊢;have hb0 : (s != 0) = true := by simpa using hn0
      clear h0 hs;go_wp2;clear hb0 hn0;obtain ⟨px, cx0, cx1, hnx⟩ := X2.out.get hmx;obtain ⟨py, cy0, cy1, hny⟩ := Y2.out.get hmy;have ck0 : w2.cell? ⟨w.heap.size, 0, none⟩ = some (.bool kp.1) := R2.out.cell 0;have ck1 : w2.cell? ⟨w.heap.size, 1, none⟩ = some (.slice kp.2.1 kp.2.2.1 kp.2.2.2) := R2.out.cell 1;have hbx2 := X2.out.lt;have hby2 := Y2.out.lt;have hsk2 := R2.out.lt;have hxe : cu[m] = xs[m] := HA.out.2.2 m hmx hml (Nat.le_refl _);have hxw : wlen (cu[m]).natAbs <= 17592186044415 := by rw [hxe]; exact HXL.out _ (List.getElem_mem hml)
      have hyw : wlen (ys[m]).natAbs <= LB := HYL.out _ (List.getElem_mem hmy);have HXE := Lib.hid hxe; clear hxe;have Hnx := Lib.hid (hnx.int hxw); clear hnx;have Hny := Lib.hid (hny.int hyw); clear hny;clear N2;refine wp_region_K ⟨13, fun q_ => [18, 19, 20, 21, 22, 23, 24, 25, 26, 27, 28, 29, 30].getD q_ 0,
       fun q_ => [.val (.slice (some ⟨bx, 0, none⟩) xs.length cx), .val (.int .i64 (m : Int)), .val (.agg #[.bool kp.1, .slice kp.2.1 kp.2.2.1 kp.2.2.2]), .val (.slice (some ⟨by_, 0, none⟩) ys.length cy), .val (.int .i64 (m : Int)), .val (.pointer (some ⟨by_, m * 2, none⟩)), .val (.agg #[.bool py.1, .slice py.2.1 py.2.2.1 py.2.2.2]), .val (.slice (some ⟨bx, 0, none⟩) xs.length cx), .val (.int .i64 (m : Int)), .val (.pointer (some ⟨bx, m * 2, none⟩)), .val (.agg #[.bool px.1, .slice px.2.1 px.2.2.1 px.2.2.2]), .int 0 (k * ys[m] + cu[m]), .val (.pointer (some ⟨bx, m * 2, none⟩))].getD q_ .any,
       [],
       [(.agg #[.bool kp.1, .slice kp.2.1 kp.2.2.1 kp.2.2.2], .at_ LA k), (.agg #[.bool py.1, .slice py.2.1 py.2.2.1 py.2.2.2], .at_ LB ys[m]), (.agg #[.bool px.1, .slice px.2.1 px.2.2.1 px.2.2.2], .at_ 17592186044415 cu[m])],
       [],
       [], [(⟨w.heap.size, 0, none⟩, .bool kp.1), (⟨w.heap.size, 1, none⟩, .slice kp.2.1 kp.2.2.1 kp.2.2.2), (⟨by_, m * 2, none⟩, .bool py.1), (⟨by_, m * 2 + 1, none⟩, .slice py.2.1 py.2.2.1 py.2.2.2), (⟨bx, m * 2, none⟩, .bool px.1), (⟨bx, m * 2 + 1, none⟩, .slice px.2.1 px.2.2.1 px.2.2.2)], []⟩ [18, 19, 20, 21, 22, 23, 24, 25, 26, 27, 28, 29, 30] (w2.heap.size) (by kernel_rfl) (by kernel_rfl) (by kernel_rfl) (by kernel_rfl) (by kernel_rfl) ?_ ?_ ?_ ?_ ?_ ?_
      · exact allq (K2.out) (allq (Hny.out) (allq (Hnx.out) allz))
      · exact allz
      · exact allq (⟨ck0, by dsimp only; omega, allz⟩) (allq (⟨ck1, by dsimp only; omega, allz⟩) (allq (⟨cy0, by dsimp only; omega, allz⟩) (allq (⟨cy1, by dsimp only; omega, allz⟩) (allq (⟨cx0, by dsimp only; omega, allz⟩) (allq (⟨cx1, by dsimp only; omega, allz⟩) allz)))))
      · exact allz
      · refine allc ?_ (allc ?_ (allc ?_ (allc ?_ (allc ?_ (allc ?_ (allc ?_ (allc ?_ (allc ?_ (allc ?_ (allc ?_ (allc ?_ (allc ?_ alln))))))))))));any_goals (first | (intro L fx w' hJ hL hp hcl; have _ := hp0 hp (by decide +kernel); refine wps rfl fun K hK => ?_; go_simp; exact hJ.q hK (by kernel_rfl) rfl) | fail)
        · intro L fx w' hJ hL hp hcl;refine wps rfl fun K hK => ?_;have cl0 := (hJ.cells _ mm0).1;have cl1 := (hJ.cells _ mm1).1;try dsimp only at cl0 cl1
          go_simp;exact hJ.q hK (by kernel_rfl) rfl
        · intro L fx w' hJ hL hp hcl;have e3 := hJ.pt 3 21 (.slice (some ⟨by_, 0, none⟩) ys.length cy) rfl rfl rfl (hp 3 (by decide));rw [e3] at hJ ⊢; clear e3;have e4 := hJ.pt 4 22 (.int .i64 (m : Int)) rfl rfl rfl (hp 4 (by decide));rw [e4] at hJ ⊢; clear e4;refine wps rfl fun K hK => ?_;go_simp;exact hJ.q hK (by kernel_rfl) rfl
        · intro L fx w' hJ hL hp hcl;have e5 := hJ.pt 5 23 (.pointer (some ⟨by_, m * 2, none⟩)) rfl rfl rfl (hp 5 (by decide));rw [e5] at hJ ⊢; clear e5;refine wps rfl fun K hK => ?_;have cl0 := (hJ.cells _ mm2).1;have cl1 := (hJ.cells _ mm3).1;try dsimp only at cl0 cl1
          go_simp;exact hJ.q hK (by kernel_rfl) rfl
        · intro L fx w' hJ hL hp hcl;have e7 := hJ.pt 7 25 (.slice (some ⟨bx, 0, none⟩) xs.length cx) rfl rfl rfl (hp 7 (by decide));rw [e7] at hJ ⊢; clear e7;have e8 := hJ.pt 8 26 (.int .i64 (m : Int)) rfl rfl rfl (hp 8 (by decide));rw [e8] at hJ ⊢; clear e8;refine wps rfl fun K hK => ?_;go_simp;exact hJ.q hK (by kernel_rfl) rfl
        · intro L fx w' hJ hL hp hcl;have e9 := hJ.pt 9 27 (.pointer (some ⟨bx, m * 2, none⟩)) rfl rfl rfl (hp 9 (by decide));rw [e9] at hJ ⊢; clear e9;refine wps rfl fun K hK => ?_;have cl0 := (hJ.cells _ mm4).1;have cl1 := (hJ.cells _ mm5).1;try dsimp only at cl0 cl1
          go_simp;exact hJ.q hK (by kernel_rfl) rfl
        · intro L fx w' hJ hL hp hcl;have e2 := hJ.pt 2 20 (.agg #[.bool kp.1, .slice kp.2.1 kp.2.2.1 kp.2.2.2]) rfl rfl rfl (hp 2 (by decide));rw [e2] at hJ ⊢; clear e2;have e6 := hJ.pt 6 24 (.agg #[.bool py.1, .slice py.2.1 py.2.2.1 py.2.2.2]) rfl rfl rfl (hp 6 (by decide));rw [e6] at hJ ⊢; clear e6;have e10 := hJ.pt 10 28 (.agg #[.bool px.1, .slice px.2.1 px.2.2.1 px.2.2.2]) rfl rfl rfl (hp 10 (by decide));rw [e10] at hJ ⊢; clear e10;refine wps rfl fun K hK => ?_;go_simp;go_at_call 96;refine (IMulAdd_c _ _ _ k ys[m] cu[m] LA LB _ (show IntAt w' (LA) (.agg #[.bool kp.1, .slice kp.2.1 kp.2.2.1 kp.2.2.2]) (k) from hJ.base _ mm0) (show IntAt w' (LB) (.agg #[.bool py.1, .slice py.2.1 py.2.2.1 py.2.2.2]) (ys[m]) from hJ.base _ mm1) (show IntAt w' (17592186044415) (.agg #[.bool px.1, .slice px.2.1 px.2.2.1 px.2.2.2]) (cu[m]) from hJ.base _ mm2) hLab).mono ?_;rintro e w4 ⟨⟨v5, rfl, h5⟩, hb4⟩;try dsimp only
          exact hK _ _ ⟨_, by kernel_rfl, hJ.gC 11 rfl (by kernel_rfl) hb4 (OwnI.mono h5 (Nat.zero_le _)) (by omega)⟩
        · intro L fx w' hJ hL hp hcl;have e0 := hJ.pt 0 18 (.slice (some ⟨bx, 0, none⟩) xs.length cx) rfl rfl rfl (hp 0 (by decide));rw [e0] at hJ ⊢; clear e0;have e1 := hJ.pt 1 19 (.int .i64 (m : Int)) rfl rfl rfl (hp 1 (by decide));rw [e1] at hJ ⊢; clear e1;refine wps rfl fun K hK => ?_;go_simp;exact hJ.q hK (by kernel_rfl) rfl
      · intro L x' w3 hL hJ;have hfr : Below w2.drew.heap.size w2.drew w3 := hJ.fr;have e11 : OwnI w3 0 (x' 29) (k * ys[m] + cu[m]) := hJ.slot 11 (by show 11 < 13; decide) (hL 11 (by show 11 < 13; decide));have e12 : x' 30 = .pointer (some ⟨bx, m * 2, none⟩) := hJ.slot 12 (by show 12 < 13; decide) (hL 12 (by show 12 < 13; decide));obtain ⟨pz, hpz⟩ := NumAt.parts e11.num;rw [hpz] at e11;unfold av at hpz;rw [patchX (x := x') (d := 29) hpz];rw [patchX (x := updX x' 29 (.agg #[.bool pz.1, .slice pz.2.1 pz.2.2.1 pz.2.2.2])) (d := 30) (v := .pointer (some ⟨bx, m * 2, none⟩)) e12];clear hJ hL;have X3 := Lib.hid (RowN.below (w := w2.drew) X2.out hfr);have Y3 := Lib.hid (RowN.below (w := w2.drew) Y2.out hfr);have R3 := Lib.hid (RowAt.below (w := w2.drew) R2.out hfr R2.out.lt);have K3 := Lib.hid (IntAt.below (w := w2.drew) K2.out hfr);have C3 := Lib.hid (C2.out.drew.below hfr);obtain ⟨pq, q0, q1, _⟩ := X3.out.get hmx;have q2 := X3.out.free (m * 2);have q3 := X3.out.free (m * 2 + 1);refine wps rfl fun K hK => ?_;go_simp;refine hK _ _ ⟨⟨updX (updX x' 29 (.agg #[.bool pz.1, .slice pz.2.1 pz.2.2.1 pz.2.2.2])) 30 (.pointer (some ⟨bx, m * 2, none⟩)), by kernel_rfl⟩, ?_⟩;clear hK q0 q1 q2 q3;go_wp2;go_roundw
        case rel =>
         refine ⟨m + 1, _, by omega, by go_num, ?_, Lib.hid (X3.out.set m e11.num), Lib.hid (X3.out.keepRow Y3.out (fun e => hne e.symm) m pz), Lib.hid ((R3.out.other (by show w.heap.size ≠ bx; omega) _).other (by show w.heap.size ≠ bx; omega) _), Lib.hid (X3.out.keepInt K3.out m pz), Lib.hid ((C3.out.set rfl _).set rfl _)⟩;rw [HXE.out];exact HA.out.next hml Hl.out
        case measure => simp [intOf]; omega
  · obtain rfl : m = xs.length := by omega
    have he := HA.out.all Hl.out;have HE := Lib.hid he;clear he;go_wp2;refine bodyPost_end (results_none (by kernel_rfl) _ _ _) rfl ?_;rw [<- HE.out];exact ⟨rfl, hX.out, hC.out⟩
def CV.cells (cs : List Value) : CV := CV.free (fun _ v => v = cs) (fun h _ => h) (fun h _ _ _ _ _ _ => h)
def mixRow (a b : Int) (xs ys : List Int) : List Int := List.zipWith (fun u v => a * u + b * v) xs ys
def MixTo (a b : Int) (xs ys zs cu : List Int) (m : Nat) : Prop := cu.length = zs.length /\ (∀ j (h : j < cu.length) (h1 : j < xs.length) (h2 : j < ys.length), j < m -> cu[j] = a * xs[j] + b * ys[j]) /\ (∀ j (h : j < cu.length) (h1 : j < zs.length), m <= j -> cu[j] = zs[j])
theorem MixTo.start (a b : Int) (xs ys zs : List Int) : MixTo a b xs ys zs zs 0 := ⟨rfl, fun _ _ _ _ h => by omega, fun _ _ _ _ => rfl⟩
theorem MixTo.next {a b : Int} {xs ys zs cu : List Int} {m : Nat} (h : MixTo a b xs ys zs cu m) (hx : m < xs.length) (hy : m < ys.length) : MixTo a b xs ys zs (cu.set m (a * xs[m] + b * ys[m])) (m + 1) := by
 obtain ⟨h1, h2, h3⟩ := h;refine ⟨by simpa using h1, fun j hj hx hy hjm => ?_, fun j hj hx hjm => ?_⟩
 · rw [List.getElem_set];split
   · rename_i e; subst e; rfl
   · exact h2 j (by simpa using hj) hx hy (by omega)
 · rw [List.getElem_set, if_neg (by omega)];exact h3 j (by simpa using hj) hx (by omega)
theorem MixTo.all {a b : Int} {xs ys zs cu : List Int} (h : MixTo a b xs ys zs cu xs.length) (hl : xs.length = ys.length) (hz : xs.length = zs.length) : cu = mixRow a b xs ys := by
 obtain ⟨h1, h2, h3⟩ := h;refine List.ext_getElem (by simp [mixRow, h1, <- hl, hz]) fun j hj hj' => ?_;rw [h2 j hj (by omega) (by omega) (by omega)];simp [mixRow]
set_option maxRecDepth 100000 in
set_option maxHeartbeats 4000000 in
theorem LMix_c (bx by_ cx cy LA LB : Nat) (xs ys : List Int) (p q r s : P4) (a b c d : Int) (w : World) (hX : RowN w bx xs) (hY : RowN w by_ ys) (hA : IntAt w LA (av p) a) (hB : IntAt w LA (av q) b) (hC : IntAt w LA (av r) c) (hD : IntAt w LA (av s) d) (hne : bx ≠ by_) (hl : xs.length = ys.length)
 (hxL : ∀ x ∈ xs, wlen x.natAbs <= LB) (hyL : ∀ y ∈ ys, wlen y.natAbs <= LB) (hLab : LA + LB <= 17592186044415) (hlen : xs.length <= 4611686018427387903) :
 Calls Try.prog 91 #[.slice (some ⟨bx, 0, none⟩) xs.length cx, .slice (some ⟨by_, 0, none⟩) ys.length cy, .agg #[.bool p.1, .slice p.2.1 p.2.2.1 p.2.2.2, .bool q.1, .slice q.2.1 q.2.2.1 q.2.2.2, .bool r.1, .slice r.2.1 r.2.2.1 r.2.2.2, .bool s.1, .slice s.2.1 s.2.2.1 s.2.2.2]] w
  fun e w' => e = .returned (.tuple #[]) /\ RowN w' bx (mixRow a b xs ys) /\ RowN w' by_ (mixRow c d xs ys) /\ Chg (fun k => k = bx ∨ k = by_) w w' := by
 have HX := Lib.hid hX; clear hX;have HY := Lib.hid hY; clear hY;have HA := Lib.hid hA; clear hA;have HB := Lib.hid hB; clear hB;have HC := Lib.hid hC; clear hC;have HD := Lib.hid hD; clear hD;have HXL := Lib.hid hxL; clear hxL;have HYL := Lib.hid hyL; clear hyL;have Hl := Lib.hid hl; clear hl;go_enter Try.func91, Try.ntmps91;unfold av at *;go_wp2;have hb1 : Below w.heap.size w (w.alloc (.cells #[.bool p.1, .slice p.2.1 p.2.2.1 p.2.2.2, .bool q.1, .slice q.2.1 q.2.2.1 q.2.2.2, .bool r.1, .slice r.2.1 r.2.2.1 r.2.2.2, .bool s.1, .slice s.2.1 s.2.2.1 s.2.2.2] 109)) := (Below.refl _ _).alloc (Nat.le_refl _) _;have hr1 := RowAt.new w #[.bool p.1, .slice p.2.1 p.2.2.1 p.2.2.2, .bool q.1, .slice q.2.1 q.2.2.1 q.2.2.2, .bool r.1, .slice r.2.1 r.2.2.1 r.2.2.2, .bool s.1, .slice s.2.1 s.2.2.1 s.2.2.2] 109;generalize w.alloc (.cells #[.bool p.1, .slice p.2.1 p.2.2.1 p.2.2.2, .bool q.1, .slice q.2.1 q.2.2.1 q.2.2.2, .bool r.1, .slice r.2.1 r.2.2.1 r.2.2.2, .bool s.1, .slice s.2.1 s.2.2.1 s.2.2.2] 109) = w1 at *;have HB1 := Lib.hid (Chg.of_below (S := (fun k => k = bx ∨ k = by_)) hb1);have HX1 := Lib.hid (HX.out.below hb1);have HY1 := Lib.hid (HY.out.below hb1);have HI1 : Hid (IntAt w1 LA (av p) a /\ IntAt w1 LA (av q) b /\ IntAt w1 LA (av r) c /\ IntAt w1 LA (av s) d) := Lib.hid ⟨HA.out.below hb1, HB.out.below hb1, HC.out.below hb1, HD.out.below hb1⟩;have HR1 := Lib.hid hr1;have hs1 : w.heap.size < w1.heap.size := hr1.lt;have hbx := HX.out.lt;have hby := HY.out.lt;clear hr1 hb1;go_loopw [11] (fun i wr => ∃ (m : Nat) (cu cv : List Int), m <= xs.length /\ i = .int .i64 (m : Int) /\ Hid (MixTo a b xs ys xs cu m) /\ Hid (MixTo c d xs ys ys cv m) /\ Hid (RowN wr bx cu) /\ Hid (RowN wr by_ cv) /\ Hid (RowAt wr w.heap.size 109 [.bool p.1, .slice p.2.1 p.2.2.1 p.2.2.2, .bool q.1, .slice q.2.1 q.2.2.1 q.2.2.2, .bool r.1, .slice r.2.1 r.2.2.1 r.2.2.2, .bool s.1, .slice s.2.1 s.2.2.1 s.2.2.2]) /\ Hid (IntAt wr LA (av p) a /\ IntAt wr LA (av q) b /\ IntAt wr LA (av r) c /\ IntAt wr LA (av s) d) /\ Hid (Chg (fun k => k = bx ∨ k = by_) w wr)) (fun i _ => xs.length - (intOf i).toNat)
 case atStart => exact ⟨0, xs, ys, Nat.zero_le _, rfl, MixTo.start .., MixTo.start .., HX1, HY1, HR1, HI1, HB1⟩
 case round =>
  obtain ⟨m, cu, cv, hm, rfl, HU, HV, hX, hY, hR, hI, hC⟩ := hrel;by_cases hml : m < xs.length
  · have hmy : m < ys.length := by have := Hl.out; omega
    have hmx : m < cu.length := by rw [HU.out.1]; exact hml
    have hmv : m < cv.length := by rw [HV.out.1]; exact hmy
    have hm1 : (m : Int) < (ys.length : Int) := by omega
    have hm2 : (m : Int) < (xs.length : Int) := by omega
    go_wp2;obtain ⟨pu, cu0, cu1, hnu⟩ := hX.out.get hmx;obtain ⟨pv, cv0, cv1, hnv⟩ := hY.out.get hmv;have hxe : cu[m] = xs[m] := HU.out.2.2 m hmx hml (Nat.le_refl _);have hye : cv[m] = ys[m] := HV.out.2.2 m hmv hmy (Nat.le_refl _);rw [hxe] at hnu;rw [hye] at hnv;have hxw : wlen (xs[m]).natAbs <= LB := HXL.out _ (List.getElem_mem hml);have hyw : wlen (ys[m]).natAbs <= LB := HYL.out _ (List.getElem_mem hmy);have Hnu := Lib.hid (hnu.int hxw);have Hnv := Lib.hid (hnv.int hyw);clear hxe hye hnu hnv;have hbx2 := hX.out.lt;have hby2 := hY.out.lt;have hsk2 := hR.out.lt;have hswr := hC.out.size;refine wp_region_J ⟨12, fun q_ => [14, 15, 16, 17, 18, 19, 20, 21, 7, 8, 1010, 1011].getD q_ 0,
     fun q_ => [.val (.slice (some ⟨bx, 0, none⟩) xs.length cx), .val (.int .i64 (m : Int)), .val (.pointer (some ⟨bx, m * 2, none⟩)), .val (.agg #[.bool pu.1, .slice pu.2.1 pu.2.2.1 pu.2.2.2]), .val (.slice (some ⟨by_, 0, none⟩) ys.length cy), .val (.int .i64 (m : Int)), .val (.pointer (some ⟨by_, m * 2, none⟩)), .val (.agg #[.bool pv.1, .slice pv.2.1 pv.2.2.1 pv.2.2.2]), .ptr wr.heap.size 27 2, .ptr wr.heap.size 27 2, .any, .any].getD q_ .any,
     [],
     [],
     [],
     [(10, 7, 27, .cells [.bool pu.1, .slice pu.2.1 pu.2.2.1 pu.2.2.2]), (11, 8, 27, .cells [.bool pv.1, .slice pv.2.1 pv.2.2.1 pv.2.2.2])], [(⟨bx, m * 2, none⟩, .bool pu.1), (⟨bx, m * 2 + 1, none⟩, .slice pu.2.1 pu.2.2.1 pu.2.2.2), (⟨by_, m * 2, none⟩, .bool pv.1), (⟨by_, m * 2 + 1, none⟩, .slice pv.2.1 pv.2.2.1 pv.2.2.2)], [(8, 7), (9, 8)]⟩ [14, 15, 16, 17, 18, 19, 20, 21, 7, 8] (wr.heap.size) (by kernel_rfl) (by kernel_rfl) (by kernel_rfl) (by kernel_rfl) ?_ ?_ ?_ ?_ ?_ ?_
    · exact allz
    · exact allz
    · exact allq (⟨cu0, by dsimp only; omega, allz⟩) (allq (⟨cu1, by dsimp only; omega, allz⟩) (allq (⟨cv0, by dsimp only; omega, allz⟩) (allq (⟨cv1, by dsimp only; omega, allz⟩) allz)))
    · exact allz
    · refine allc ?_ (allc ?_ (allc ?_ (allc ?_ (allc ?_ (allc ?_ (allc ?_ (allc ?_ (allc ?_ (allc ?_ (allc ?_ (allc ?_ alln)))))))))));any_goals (first | (intro L fx w' hJ hL hp hcl; have _ := hp0 hp (by decide +kernel); refine wps rfl fun K hK => ?_; go_simp; exact hJ.q hK (by kernel_rfl) rfl) | fail)
      · intro L fx w' hJ hL hp hcl;have e0 := hJ.pt 0 14 (.slice (some ⟨bx, 0, none⟩) xs.length cx) rfl rfl rfl (hp 0 (by decide));rw [e0] at hJ ⊢; clear e0;have e1 := hJ.pt 1 15 (.int .i64 (m : Int)) rfl rfl rfl (hp 1 (by decide));rw [e1] at hJ ⊢; clear e1;refine wps rfl fun K hK => ?_;go_simp;exact hJ.q hK (by kernel_rfl) rfl
      · intro L fx w' hJ hL hp hcl;have e2 := hJ.pt 2 16 (.pointer (some ⟨bx, m * 2, none⟩)) rfl rfl rfl (hp 2 (by decide));rw [e2] at hJ ⊢; clear e2;refine wps rfl fun K hK => ?_;have cl0 := (hJ.cells _ mm0).1;have cl1 := (hJ.cells _ mm1).1;try dsimp only at cl0 cl1
        go_simp;exact hJ.q hK (by kernel_rfl) rfl
      · intro L fx w' hJ hL hp hcl;have e4 := hJ.pt 4 18 (.slice (some ⟨by_, 0, none⟩) ys.length cy) rfl rfl rfl (hp 4 (by decide));rw [e4] at hJ ⊢; clear e4;have e5 := hJ.pt 5 19 (.int .i64 (m : Int)) rfl rfl rfl (hp 5 (by decide));rw [e5] at hJ ⊢; clear e5;refine wps rfl fun K hK => ?_;go_simp;exact hJ.q hK (by kernel_rfl) rfl
      · intro L fx w' hJ hL hp hcl;have e6 := hJ.pt 6 20 (.pointer (some ⟨by_, m * 2, none⟩)) rfl rfl rfl (hp 6 (by decide));rw [e6] at hJ ⊢; clear e6;refine wps rfl fun K hK => ?_;have cl0 := (hJ.cells _ mm2).1;have cl1 := (hJ.cells _ mm3).1;try dsimp only at cl0 cl1
        go_simp;exact hJ.q hK (by kernel_rfl) rfl
      · intro L fx w' hJ hL hp hcl;have hg0 : wr.heap.size <= w'.heap.size := Nat.le_trans (by omega : wr.heap.size <= wr.heap.size) hJ.size;refine wps rfl fun K hK => ?_;go_simp;exact hK _ _ ⟨_, by kernel_rfl, hJ.grow 8 (by show 8 < 12; decide) _ (by kernel_rfl) (by kernel_rfl) (by intro t ht; rcases mc ht with rfl | ht; exact ⟨by show 10 ≠ 8; decide, fun _ => by cases hh : L 10 with | false => rfl | true => have := hcl 10 (by show 10 < 12; decide) hh 8 (by decide); rw [hL] at this; cases this⟩; rcases mc ht with rfl | ht; exact ⟨by show 11 ≠ 8; decide, fun h => absurd (show 8 = 7 from h) (by decide)⟩; cases ht) (by intro p hp; rcases mc hp with rfl | hp; exact ⟨⟨fun _ => rfl, fun _ => rfl⟩, fun _ q hq hne hLq => (by rcases mc hq with rfl | hq; exact absurd rfl hne; rcases mc hq with rfl | hq; (obtain ⟨g9, cs9, hx9, _, hr9, _⟩ := hJ.slot 9 (by show 9 < 12; decide) hLq; have hx9 : fx 8 = _ := hx9; show _ ≠ fx 8; rw [hx9]; intro e9; injection e9 with e9; injection e9 with e9; injection e9 with e9; exact absurd e9 (Nat.ne_of_gt hr9.lt)); cases hq)⟩; rcases mc hp with rfl | hp; exact ⟨⟨fun h => absurd (show 9 = 8 from h) (by decide), fun h => absurd (show 8 = 7 from h) (by decide)⟩, fun h => absurd (show 9 = 8 from h) (by decide)⟩; cases hp) ((Below.refl _ _).alloc (Nat.le_refl _) _) ⟨w'.heap.size, _, rfl, hJ.size, RowAt.new _ _ _, NoW.two _ _ _ _, rfl⟩ hg0⟩
      · intro L fx w' hJ hL hp hcl;have hg0 : wr.heap.size <= w'.heap.size := Nat.le_trans (by omega : wr.heap.size <= wr.heap.size) hJ.size;refine wps rfl fun K hK => ?_;go_simp;exact hK _ _ ⟨_, by kernel_rfl, hJ.grow 9 (by show 9 < 12; decide) _ (by kernel_rfl) (by kernel_rfl) (by intro t ht; rcases mc ht with rfl | ht; exact ⟨by show 10 ≠ 9; decide, fun h => absurd (show 7 = 8 from h) (by decide)⟩; rcases mc ht with rfl | ht; exact ⟨by show 11 ≠ 9; decide, fun _ => by cases hh : L 11 with | false => rfl | true => have := hcl 11 (by show 11 < 12; decide) hh 9 (by decide); rw [hL] at this; cases this⟩; cases ht) (by intro p hp; rcases mc hp with rfl | hp; exact ⟨⟨fun h => absurd (show 8 = 9 from h) (by decide), fun h => absurd (show 7 = 8 from h) (by decide)⟩, fun h => absurd (show 8 = 9 from h) (by decide)⟩; rcases mc hp with rfl | hp; exact ⟨⟨fun _ => rfl, fun _ => rfl⟩, fun _ q hq hne hLq => (by rcases mc hq with rfl | hq; (obtain ⟨g9, cs9, hx9, _, hr9, _⟩ := hJ.slot 8 (by show 8 < 12; decide) hLq; have hx9 : fx 7 = _ := hx9; show _ ≠ fx 7; rw [hx9]; intro e9; injection e9 with e9; injection e9 with e9; injection e9 with e9; exact absurd e9 (Nat.ne_of_gt hr9.lt)); rcases mc hq with rfl | hq; exact absurd rfl hne; cases hq)⟩; cases hp) ((Below.refl _ _).alloc (Nat.le_refl _) _) ⟨w'.heap.size, _, rfl, hJ.size, RowAt.new _ _ _, NoW.two _ _ _ _, rfl⟩ hg0⟩
      · intro L fx w' hJ hL hp hcl;have e8 := hJ.slot 8 (by show 8 < 12; decide) (hp 8 (by decide));have e3 := hJ.pt 3 17 (.agg #[.bool pu.1, .slice pu.2.1 pu.2.2.1 pu.2.2.2]) rfl rfl rfl (hp 3 (by decide));rw [e3] at hJ ⊢; clear e3;obtain ⟨g, cs, hx, hgB, hr0, hn0, hl0⟩ := e8;obtain ⟨z0, z1, rfl⟩ : ∃ z0 z1, cs = [z0, z1] := list2 hl0;have hf0 := RowAt.free hr0 0;have hc0 := RowAt.cell hr0 0;have hf1 := RowAt.free hr0 1;have hc1 := RowAt.cell hr0 1;try dsimp only at hf0 hc0 hf1 hc1
        have hx1 := hx;rw [patchX (x := (updX fx 17 (.agg #[.bool pu.1, .slice pu.2.1 pu.2.2.1 pu.2.2.2]))) (d := 7) hx] at hJ ⊢;refine wps rfl fun K hK => ?_;go_simp;exact hK _ _ ⟨_, by kernel_rfl, hJ.storeNew (us := [.bool pu.1, .slice pu.2.1 pu.2.2.1 pu.2.2.2]) 10 7 _ _ (by show 10 < 12; decide) rfl mm0 (by intro t ht h; rcases mc ht with rfl | ht; rfl; rcases mc ht with rfl | ht; exact absurd (show 11 = 10 from h) (by decide); cases ht) (by intro t ht hne hLt; rcases mc ht with rfl | ht; exact absurd rfl hne; rcases mc ht with rfl | ht; exact hJ.apart (9, 8) mm1 (8, 7) mm0 (by show 9 ≠ 8; decide) (hcl 11 (by show 11 < 12; decide) hLt 9 (by decide)) (hp 8 (by decide)); cases ht) (by kernel_rfl) (by kernel_rfl) (by decide) (by rfl) hgB hr0 hn0 rfl (NoW.two _ _ _ _) rfl (by omega)⟩
      · intro L fx w' hJ hL hp hcl;have e9 := hJ.slot 9 (by show 9 < 12; decide) (hp 9 (by decide));have e7 := hJ.pt 7 21 (.agg #[.bool pv.1, .slice pv.2.1 pv.2.2.1 pv.2.2.2]) rfl rfl rfl (hp 7 (by decide));rw [e7] at hJ ⊢; clear e7;obtain ⟨g, cs, hx, hgB, hr0, hn0, hl0⟩ := e9;obtain ⟨z0, z1, rfl⟩ : ∃ z0 z1, cs = [z0, z1] := list2 hl0;have hf0 := RowAt.free hr0 0;have hc0 := RowAt.cell hr0 0;have hf1 := RowAt.free hr0 1;have hc1 := RowAt.cell hr0 1;try dsimp only at hf0 hc0 hf1 hc1
        have hx1 := hx;rw [patchX (x := (updX fx 21 (.agg #[.bool pv.1, .slice pv.2.1 pv.2.2.1 pv.2.2.2]))) (d := 8) hx] at hJ ⊢;refine wps rfl fun K hK => ?_;go_simp;exact hK _ _ ⟨_, by kernel_rfl, hJ.storeNew (us := [.bool pv.1, .slice pv.2.1 pv.2.2.1 pv.2.2.2]) 11 8 _ _ (by show 11 < 12; decide) rfl mm1 (by intro t ht h; rcases mc ht with rfl | ht; exact absurd (show 10 = 11 from h) (by decide); rcases mc ht with rfl | ht; rfl; cases ht) (by intro t ht hne hLt; rcases mc ht with rfl | ht; exact hJ.apart (8, 7) mm0 (9, 8) mm1 (by show 8 ≠ 9; decide) (hcl 10 (by show 10 < 12; decide) hLt 8 (by decide)) (hp 9 (by decide)); rcases mc ht with rfl | ht; exact absurd rfl hne; cases ht) (by kernel_rfl) (by kernel_rfl) (by decide) (by rfl) hgB hr0 hn0 rfl (NoW.two _ _ _ _) rfl (by omega)⟩
    · intro L x' w3 hL hJ;have hfr : Below wr.drew.heap.size wr.drew w3 := hJ.fr;obtain ⟨g7, cs7, hx7, hg7, hr7, hcs7⟩ := hJ.new _ mm0 (hL 10 (by show 10 < 12; decide));obtain ⟨g8, cs8, hx8, hg8, hr8, hcs8⟩ := hJ.new _ mm1 (hL 11 (by show 11 < 12; decide));obtain rfl : cs7 = _ := hcs7;obtain rfl : cs8 = _ := hcs8;have hx7 : x' 7 = _ := hx7;have hx8 : x' 8 = _ := hx8;rw [patchX (x := x') (d := 7) hx7];rw [patchX (x := updX x' 7 (.pointer (some ⟨g7, 0, none⟩))) (d := 8) (v := .pointer (some ⟨g8, 0, none⟩)) hx8];have hg7 : wr.heap.size <= g7 := hg7;have hg8 : wr.heap.size <= g8 := hg8;have RG : Hid (RowAt w3 g7 27 [.bool pu.1, .slice pu.2.1 pu.2.2.1 pu.2.2.2]) := Lib.hid hr7;have RH : Hid (RowAt w3 g8 27 [.bool pv.1, .slice pv.2.1 pv.2.2.1 pv.2.2.2]) := Lib.hid hr8;clear hJ hL hx7 hx8 hr7 hr8 cu0 cu1 cv0 cv1;simp only [pN, Nat.reduceEqDiff, ↓reduceIte];go_wp2;have X3 := Lib.hid (RowN.below (w := wr.drew) hX.out hfr);have Y3 := Lib.hid (RowN.below (w := wr.drew) hY.out hfr);have R3 := Lib.hid (RowAt.below (w := wr.drew) hR.out hfr hR.out.lt);have A3 := Lib.hid (IntAt.below (w := wr.drew) hI.out.1 hfr);have B3 := Lib.hid (IntAt.below (w := wr.drew) hI.out.2.1 hfr);have D3 := Lib.hid (IntAt.below (w := wr.drew) hI.out.2.2.1 hfr);have E3 := Lib.hid (IntAt.below (w := wr.drew) hI.out.2.2.2 hfr);have U3 := Lib.hid (IntAt.below (w := wr.drew) Hnu.out hfr);have V3 := Lib.hid (IntAt.below (w := wr.drew) Hnv.out hfr);have C3 := Lib.hid (hC.out.drew.below hfr);have hs3 := hfr.size;have hs3' : wr.drew.heap.size = wr.heap.size := rfl;have hg7' := RG.out.lt;have hg8' := RH.out.lt;clear hX hY hR hI hC Hnu Hnv hfr;have hwb : wlen b.natAbs <= LA := HB.out.wlen;have hwd : wlen d.natAbs <= LA := HD.out.wlen;refine wp_region_K ⟨13, fun q_ => [22, 23, 24, 25, 26, 27, 28, 29, 30, 31, 32, 33, 34].getD q_ 0,
       fun q_ => [.val (.slice (some ⟨bx, 0, none⟩) xs.length cx), .val (.int .i64 (m : Int)), .val (.pointer (some ⟨w.heap.size, 0, none⟩)), .val (.pointer (some ⟨w.heap.size, 0, none⟩)), .val (.agg #[.bool p.1, .slice p.2.1 p.2.2.1 p.2.2.2]), .val (.agg #[.bool pu.1, .slice pu.2.1 pu.2.2.1 pu.2.2.2]), .val (.pointer (some ⟨w.heap.size, 0, none⟩)), .val (.pointer (some ⟨w.heap.size, 2, none⟩)), .val (.agg #[.bool q.1, .slice q.2.1 q.2.2.1 q.2.2.2]), .val (.agg #[.bool pv.1, .slice pv.2.1 pv.2.2.1 pv.2.2.2]), .int 0 (b * ys[m]), .int 0 (a * xs[m] + b * ys[m]), .val (.pointer (some ⟨bx, m * 2, none⟩))].getD q_ .any,
       [],
       [(.agg #[.bool p.1, .slice p.2.1 p.2.2.1 p.2.2.2], .at_ LA a), (.agg #[.bool q.1, .slice q.2.1 q.2.2.1 q.2.2.2], .at_ LA b), (.agg #[.bool pu.1, .slice pu.2.1 pu.2.2.1 pu.2.2.2], .at_ LB xs[m]), (.agg #[.bool pv.1, .slice pv.2.1 pv.2.2.1 pv.2.2.2], .at_ LB ys[m])],
       [(w.heap.size, 109, [.bool p.1, .slice p.2.1 p.2.2.1 p.2.2.2, .bool q.1, .slice q.2.1 q.2.2.1 q.2.2.2, .bool r.1, .slice r.2.1 r.2.2.1 r.2.2.2, .bool s.1, .slice s.2.1 s.2.2.1 s.2.2.2]), (g7, 27, [.bool pu.1, .slice pu.2.1 pu.2.2.1 pu.2.2.2]), (g8, 27, [.bool pv.1, .slice pv.2.1 pv.2.2.1 pv.2.2.2])],
       [], [], []⟩ [22, 23, 24, 25, 26, 27, 28, 29, 30, 31, 32, 33, 34] (w3.heap.size) (by kernel_rfl) (by kernel_rfl) (by kernel_rfl) (by kernel_rfl) (by kernel_rfl) ?_ ?_ ?_ ?_ ?_ ?_
      · exact allq (A3.out) (allq (B3.out) (allq (U3.out) (allq (V3.out) allz)))
      · exact allq (⟨R3.out, (R3.out).lt, allz⟩) (allq (⟨RG.out, (RG.out).lt, allz⟩) (allq (⟨RH.out, (RH.out).lt, allz⟩) allz))
      · exact allz
      · exact allz
      · refine allc ?_ (allc ?_ (allc ?_ (allc ?_ (allc ?_ (allc ?_ (allc ?_ (allc ?_ (allc ?_ (allc ?_ (allc ?_ (allc ?_ (allc ?_ alln))))))))))));any_goals (first | (intro L fx w' hJ hL hp hcl; have _ := hp0 hp (by decide +kernel); refine wps rfl fun K hK => ?_; go_simp; exact hJ.q hK (by kernel_rfl) rfl) | fail)
        · intro L fx w' hJ hL hp hcl;have e2 := hJ.pt 2 24 (.pointer (some ⟨w.heap.size, 0, none⟩)) rfl rfl rfl (hp 2 (by decide));rw [e2] at hJ ⊢; clear e2;refine wps rfl fun K hK => ?_;go_simp;exact hJ.q hK (by kernel_rfl) rfl
        · intro L fx w' hJ hL hp hcl;have e3 := hJ.pt 3 25 (.pointer (some ⟨w.heap.size, 0, none⟩)) rfl rfl rfl (hp 3 (by decide));rw [e3] at hJ ⊢; clear e3;refine wps rfl fun K hK => ?_;have rw0 := (hJ.rows _ mm0).1;have cl0 : w'.cell? ⟨w.heap.size, 0, none⟩ = some (.bool p.1) := rw0.cell 0;have cl1 : w'.cell? ⟨w.heap.size, 1, none⟩ = some (.slice p.2.1 p.2.2.1 p.2.2.2) := rw0.cell 1;go_simp;exact hJ.q hK (by kernel_rfl) rfl
        · intro L fx w' hJ hL hp hcl;refine wps rfl fun K hK => ?_;have rw0 := (hJ.rows _ mm1).1;have cl0 : w'.cell? ⟨g7, 0, none⟩ = some (.bool pu.1) := rw0.cell 0;have cl1 : w'.cell? ⟨g7, 1, none⟩ = some (.slice pu.2.1 pu.2.2.1 pu.2.2.2) := rw0.cell 1;go_simp;exact hJ.q hK (by kernel_rfl) rfl
        · intro L fx w' hJ hL hp hcl;have e6 := hJ.pt 6 28 (.pointer (some ⟨w.heap.size, 0, none⟩)) rfl rfl rfl (hp 6 (by decide));rw [e6] at hJ ⊢; clear e6;refine wps rfl fun K hK => ?_;go_simp;exact hJ.q hK (by kernel_rfl) rfl
        · intro L fx w' hJ hL hp hcl;have e7 := hJ.pt 7 29 (.pointer (some ⟨w.heap.size, 2, none⟩)) rfl rfl rfl (hp 7 (by decide));rw [e7] at hJ ⊢; clear e7;refine wps rfl fun K hK => ?_;have rw0 := (hJ.rows _ mm0).1;have cl0 : w'.cell? ⟨w.heap.size, 2, none⟩ = some (.bool q.1) := rw0.cell 2;have cl1 : w'.cell? ⟨w.heap.size, 3, none⟩ = some (.slice q.2.1 q.2.2.1 q.2.2.2) := rw0.cell 3;go_simp;exact hJ.q hK (by kernel_rfl) rfl
        · intro L fx w' hJ hL hp hcl;refine wps rfl fun K hK => ?_;have rw0 := (hJ.rows _ mm2).1;have cl0 : w'.cell? ⟨g8, 0, none⟩ = some (.bool pv.1) := rw0.cell 0;have cl1 : w'.cell? ⟨g8, 1, none⟩ = some (.slice pv.2.1 pv.2.2.1 pv.2.2.2) := rw0.cell 1;go_simp;exact hJ.q hK (by kernel_rfl) rfl
        · intro L fx w' hJ hL hp hcl;have e8 := hJ.pt 8 30 (.agg #[.bool q.1, .slice q.2.1 q.2.2.1 q.2.2.2]) rfl rfl rfl (hp 8 (by decide));rw [e8] at hJ ⊢; clear e8;have e9 := hJ.pt 9 31 (.agg #[.bool pv.1, .slice pv.2.1 pv.2.2.1 pv.2.2.2]) rfl rfl rfl (hp 9 (by decide));rw [e9] at hJ ⊢; clear e9;refine wps rfl fun K hK => ?_;go_simp;go_at_call 10;refine (IMul_c _ _ b ys[m] LA LB _ (show IntAt w' (LA) (.agg #[.bool q.1, .slice q.2.1 q.2.2.1 q.2.2.2]) (b) from hJ.base _ mm1) (show IntAt w' (LB) (.agg #[.bool pv.1, .slice pv.2.1 pv.2.2.1 pv.2.2.2]) (ys[m]) from hJ.base _ mm3) hLab).mono ?_;rintro e w4 ⟨⟨v5, rfl, h5⟩, hb4⟩;try dsimp only
          exact hK _ _ ⟨_, by kernel_rfl, hJ.gC 10 rfl (by kernel_rfl) hb4 (OwnI.mono h5 (Nat.zero_le _)) (by omega)⟩
        · intro L fx w' hJ hL hp hcl;have e10 := hJ.slot 10 (by show 10 < 13; decide) (hp 10 (by decide));have e4 := hJ.pt 4 26 (.agg #[.bool p.1, .slice p.2.1 p.2.2.1 p.2.2.2]) rfl rfl rfl (hp 4 (by decide));rw [e4] at hJ ⊢; clear e4;have e5 := hJ.pt 5 27 (.agg #[.bool pu.1, .slice pu.2.1 pu.2.2.1 pu.2.2.2]) rfl rfl rfl (hp 5 (by decide));rw [e5] at hJ ⊢; clear e5;refine wps rfl fun K hK => ?_;go_simp;go_at_call 96;refine (IMulAdd_c _ _ _ a xs[m] (b * ys[m]) LA LB _ (show IntAt w' (LA) (.agg #[.bool p.1, .slice p.2.1 p.2.2.1 p.2.2.2]) (a) from hJ.base _ mm0) (show IntAt w' (LB) (.agg #[.bool pu.1, .slice pu.2.1 pu.2.2.1 pu.2.2.2]) (xs[m]) from hJ.base _ mm2) (OwnI.int (show OwnI w' _ (fx 32) _ from e10) (by rw [Int.natAbs_mul]; exact Nat.le_trans (wlen_mul _ _) (Nat.le_trans (Nat.add_le_add hwb hyw) hLab))) hLab).mono ?_;rintro e w4 ⟨⟨v5, rfl, h5⟩, hb4⟩;try dsimp only
          exact hK _ _ ⟨_, by kernel_rfl, hJ.gC 11 rfl (by kernel_rfl) hb4 (OwnI.mono h5 (Nat.zero_le _)) (by omega)⟩
        · intro L fx w' hJ hL hp hcl;have e0 := hJ.pt 0 22 (.slice (some ⟨bx, 0, none⟩) xs.length cx) rfl rfl rfl (hp 0 (by decide));rw [e0] at hJ ⊢; clear e0;have e1 := hJ.pt 1 23 (.int .i64 (m : Int)) rfl rfl rfl (hp 1 (by decide));rw [e1] at hJ ⊢; clear e1;refine wps rfl fun K hK => ?_;go_simp;exact hJ.q hK (by kernel_rfl) rfl
      · intro L x' w3b hL hJ;have hfr : Below w3.drew.heap.size w3.drew w3b := hJ.fr;have e11 : OwnI w3b 0 (x' 33) (a * xs[m] + b * ys[m]) := hJ.slot 11 (by show 11 < 13; decide) (hL 11 (by show 11 < 13; decide));have e12 : x' 34 = .pointer (some ⟨bx, m * 2, none⟩) := hJ.slot 12 (by show 12 < 13; decide) (hL 12 (by show 12 < 13; decide));obtain ⟨pz3, hpz⟩ := NumAt.parts e11.num;rw [hpz] at e11;unfold av at hpz;rw [patchX (x := x') (d := 33) hpz];rw [patchX (x := updX x' 33 (.agg #[.bool pz3.1, .slice pz3.2.1 pz3.2.2.1 pz3.2.2.2])) (d := 34) (v := .pointer (some ⟨bx, m * 2, none⟩)) e12];clear hJ hL;have X4 := Lib.hid (RowN.below (w := w3.drew) X3.out hfr);have Y4 := Lib.hid (RowN.below (w := w3.drew) Y3.out hfr);have R4 := Lib.hid (RowAt.below (w := w3.drew) R3.out hfr R3.out.lt);have RG := Lib.hid (RowAt.below (w := w3.drew) RG.out hfr RG.out.lt);have RH := Lib.hid (RowAt.below (w := w3.drew) RH.out hfr RH.out.lt);have A4 := Lib.hid (IntAt.below (w := w3.drew) A3.out hfr);have B4 := Lib.hid (IntAt.below (w := w3.drew) B3.out hfr);have D4 := Lib.hid (IntAt.below (w := w3.drew) D3.out hfr);have E4 := Lib.hid (IntAt.below (w := w3.drew) E3.out hfr);have U4 := Lib.hid (IntAt.below (w := w3.drew) U3.out hfr);have V4 := Lib.hid (IntAt.below (w := w3.drew) V3.out hfr);have C4 := Lib.hid (C3.out.drew.below hfr);have hsz4 := hfr.size;have hsz4' : w3.drew.heap.size = w3.heap.size := rfl;clear X3 Y3 R3 A3 B3 D3 E3 U3 V3 C3;obtain ⟨pq, q0, q1, _⟩ := X4.out.get hmx;have q2 := X4.out.free (m * 2);have q3 := X4.out.free (m * 2 + 1);refine wps rfl fun K hK => ?_;go_simp;refine hK _ _ ⟨⟨updX (updX x' 33 (.agg #[.bool pz3.1, .slice pz3.2.1 pz3.2.2.1 pz3.2.2.2])) 34 (.pointer (some ⟨bx, m * 2, none⟩)), by kernel_rfl⟩, ?_⟩;clear hK q0 q1 q2 q3;have ZX := Lib.hid (X4.out.set m e11.num);have ZY := Lib.hid (X4.out.keepRow Y4.out (fun e => hne e.symm) m pz3);have ZR := Lib.hid ((R4.out.other (p := ⟨bx, m * 2, none⟩) (by show w.heap.size ≠ bx; omega) (.bool pz3.1)).other (p := ⟨bx, m * 2 + 1, none⟩) (by show w.heap.size ≠ bx; omega) (.slice pz3.2.1 pz3.2.2.1 pz3.2.2.2));have Z7 := Lib.hid ((RG.out.other (p := ⟨bx, m * 2, none⟩) (by show g7 ≠ bx; omega) (.bool pz3.1)).other (p := ⟨bx, m * 2 + 1, none⟩) (by show g7 ≠ bx; omega) (.slice pz3.2.1 pz3.2.2.1 pz3.2.2.2));have Z8 := Lib.hid ((RH.out.other (p := ⟨bx, m * 2, none⟩) (by show g8 ≠ bx; omega) (.bool pz3.1)).other (p := ⟨bx, m * 2 + 1, none⟩) (by show g8 ≠ bx; omega) (.slice pz3.2.1 pz3.2.2.1 pz3.2.2.2));have ZA := Lib.hid (X4.out.keepInt A4.out m pz3);have ZB := Lib.hid (X4.out.keepInt B4.out m pz3);have ZD := Lib.hid (X4.out.keepInt D4.out m pz3);have ZE := Lib.hid (X4.out.keepInt E4.out m pz3);have ZU := Lib.hid (X4.out.keepInt U4.out m pz3);have ZV := Lib.hid (X4.out.keepInt V4.out m pz3);have ZC := Lib.hid ((C4.out.set (p := ⟨bx, m * 2, none⟩) (Or.inl rfl) (.bool pz3.1)).set (p := ⟨bx, m * 2 + 1, none⟩) (Or.inl rfl) (.slice pz3.2.1 pz3.2.2.1 pz3.2.2.2));clear X4 Y4 R4 RG RH A4 B4 D4 E4 U4 V4 C4 e11 e12;have hszg : ((w3b.setCell ⟨bx, m * 2, none⟩ (.bool pz3.1)).setCell ⟨bx, m * 2 + 1, none⟩ (.slice pz3.2.1 pz3.2.2.1 pz3.2.2.2)).heap.size = w3b.heap.size := by simp
        generalize ((w3b.setCell ⟨bx, m * 2, none⟩ (.bool pz3.1)).setCell ⟨bx, m * 2 + 1, none⟩ (.slice pz3.2.1 pz3.2.2.1 pz3.2.2.2)) = w5 at *;have X6 := ZX;have Y6 := ZY;have R6 := ZR;have RG := Z7;have RH := Z8;have A6 := ZA;have B6 := ZB;have D6 := ZD;have E6 := ZE;have U6 := ZU;have V6 := ZV;have C6 := ZC;clear ZX ZY ZR Z7 Z8 ZA ZB ZD ZE ZU ZV ZC;go_wp2;refine wp_region_K ⟨13, fun q_ => [35, 36, 37, 38, 39, 40, 41, 42, 43, 44, 45, 46, 47].getD q_ 0,
         fun q_ => [.val (.slice (some ⟨by_, 0, none⟩) ys.length cy), .val (.int .i64 (m : Int)), .val (.pointer (some ⟨w.heap.size, 4, none⟩)), .val (.pointer (some ⟨w.heap.size, 4, none⟩)), .val (.agg #[.bool r.1, .slice r.2.1 r.2.2.1 r.2.2.2]), .val (.agg #[.bool pu.1, .slice pu.2.1 pu.2.2.1 pu.2.2.2]), .val (.pointer (some ⟨w.heap.size, 4, none⟩)), .val (.pointer (some ⟨w.heap.size, 6, none⟩)), .val (.agg #[.bool s.1, .slice s.2.1 s.2.2.1 s.2.2.2]), .val (.agg #[.bool pv.1, .slice pv.2.1 pv.2.2.1 pv.2.2.2]), .int 0 (d * ys[m]), .int 0 (c * xs[m] + d * ys[m]), .val (.pointer (some ⟨by_, m * 2, none⟩))].getD q_ .any,
         [],
         [(.agg #[.bool r.1, .slice r.2.1 r.2.2.1 r.2.2.2], .at_ LA c), (.agg #[.bool s.1, .slice s.2.1 s.2.2.1 s.2.2.2], .at_ LA d), (.agg #[.bool pu.1, .slice pu.2.1 pu.2.2.1 pu.2.2.2], .at_ LB xs[m]), (.agg #[.bool pv.1, .slice pv.2.1 pv.2.2.1 pv.2.2.2], .at_ LB ys[m])],
         [(w.heap.size, 109, [.bool p.1, .slice p.2.1 p.2.2.1 p.2.2.2, .bool q.1, .slice q.2.1 q.2.2.1 q.2.2.2, .bool r.1, .slice r.2.1 r.2.2.1 r.2.2.2, .bool s.1, .slice s.2.1 s.2.2.1 s.2.2.2]), (g7, 27, [.bool pu.1, .slice pu.2.1 pu.2.2.1 pu.2.2.2]), (g8, 27, [.bool pv.1, .slice pv.2.1 pv.2.2.1 pv.2.2.2])],
         [], [], []⟩ [35, 36, 37, 38, 39, 40, 41, 42, 43, 44, 45, 46, 47] (w5.heap.size) (by kernel_rfl) (by kernel_rfl) (by kernel_rfl) (by kernel_rfl) (by kernel_rfl) ?_ ?_ ?_ ?_ ?_ ?_
        · exact allq (D6.out) (allq (E6.out) (allq (U6.out) (allq (V6.out) allz)))
        · exact allq (⟨R6.out, (R6.out).lt, allz⟩) (allq (⟨RG.out, (RG.out).lt, allz⟩) (allq (⟨RH.out, (RH.out).lt, allz⟩) allz))
        · exact allz
        · exact allz
        · refine allc ?_ (allc ?_ (allc ?_ (allc ?_ (allc ?_ (allc ?_ (allc ?_ (allc ?_ (allc ?_ (allc ?_ (allc ?_ (allc ?_ (allc ?_ alln))))))))))));any_goals (first | (intro L fx w' hJ hL hp hcl; have _ := hp0 hp (by decide +kernel); refine wps rfl fun K hK => ?_; go_simp; exact hJ.q hK (by kernel_rfl) rfl) | fail)
          · intro L fx w' hJ hL hp hcl;have e2 := hJ.pt 2 37 (.pointer (some ⟨w.heap.size, 4, none⟩)) rfl rfl rfl (hp 2 (by decide));rw [e2] at hJ ⊢; clear e2;refine wps rfl fun K hK => ?_;go_simp;exact hJ.q hK (by kernel_rfl) rfl
          · intro L fx w' hJ hL hp hcl;have e3 := hJ.pt 3 38 (.pointer (some ⟨w.heap.size, 4, none⟩)) rfl rfl rfl (hp 3 (by decide));rw [e3] at hJ ⊢; clear e3;refine wps rfl fun K hK => ?_;have rw0 := (hJ.rows _ mm0).1;have cl0 : w'.cell? ⟨w.heap.size, 4, none⟩ = some (.bool r.1) := rw0.cell 4;have cl1 : w'.cell? ⟨w.heap.size, 5, none⟩ = some (.slice r.2.1 r.2.2.1 r.2.2.2) := rw0.cell 5;go_simp;exact hJ.q hK (by kernel_rfl) rfl
          · intro L fx w' hJ hL hp hcl;refine wps rfl fun K hK => ?_;have rw0 := (hJ.rows _ mm1).1;have cl0 : w'.cell? ⟨g7, 0, none⟩ = some (.bool pu.1) := rw0.cell 0;have cl1 : w'.cell? ⟨g7, 1, none⟩ = some (.slice pu.2.1 pu.2.2.1 pu.2.2.2) := rw0.cell 1;go_simp;exact hJ.q hK (by kernel_rfl) rfl
          · intro L fx w' hJ hL hp hcl;have e6 := hJ.pt 6 41 (.pointer (some ⟨w.heap.size, 4, none⟩)) rfl rfl rfl (hp 6 (by decide));rw [e6] at hJ ⊢; clear e6;refine wps rfl fun K hK => ?_;go_simp;exact hJ.q hK (by kernel_rfl) rfl
          · intro L fx w' hJ hL hp hcl;have e7 := hJ.pt 7 42 (.pointer (some ⟨w.heap.size, 6, none⟩)) rfl rfl rfl (hp 7 (by decide));rw [e7] at hJ ⊢; clear e7;refine wps rfl fun K hK => ?_;have rw0 := (hJ.rows _ mm0).1;have cl0 : w'.cell? ⟨w.heap.size, 6, none⟩ = some (.bool s.1) := rw0.cell 6;have cl1 : w'.cell? ⟨w.heap.size, 7, none⟩ = some (.slice s.2.1 s.2.2.1 s.2.2.2) := rw0.cell 7;go_simp;exact hJ.q hK (by kernel_rfl) rfl
          · intro L fx w' hJ hL hp hcl;refine wps rfl fun K hK => ?_;have rw0 := (hJ.rows _ mm2).1;have cl0 : w'.cell? ⟨g8, 0, none⟩ = some (.bool pv.1) := rw0.cell 0;have cl1 : w'.cell? ⟨g8, 1, none⟩ = some (.slice pv.2.1 pv.2.2.1 pv.2.2.2) := rw0.cell 1;go_simp;exact hJ.q hK (by kernel_rfl) rfl
          · intro L fx w' hJ hL hp hcl;have e8 := hJ.pt 8 43 (.agg #[.bool s.1, .slice s.2.1 s.2.2.1 s.2.2.2]) rfl rfl rfl (hp 8 (by decide));rw [e8] at hJ ⊢; clear e8;have e9 := hJ.pt 9 44 (.agg #[.bool pv.1, .slice pv.2.1 pv.2.2.1 pv.2.2.2]) rfl rfl rfl (hp 9 (by decide));rw [e9] at hJ ⊢; clear e9;refine wps rfl fun K hK => ?_;go_simp;go_at_call 10;refine (IMul_c _ _ d ys[m] LA LB _ (show IntAt w' (LA) (.agg #[.bool s.1, .slice s.2.1 s.2.2.1 s.2.2.2]) (d) from hJ.base _ mm1) (show IntAt w' (LB) (.agg #[.bool pv.1, .slice pv.2.1 pv.2.2.1 pv.2.2.2]) (ys[m]) from hJ.base _ mm3) hLab).mono ?_;rintro e w4 ⟨⟨v5, rfl, h5⟩, hb4⟩;try dsimp only
            exact hK _ _ ⟨_, by kernel_rfl, hJ.gC 10 rfl (by kernel_rfl) hb4 (OwnI.mono h5 (Nat.zero_le _)) (by omega)⟩
          · intro L fx w' hJ hL hp hcl;have e10 := hJ.slot 10 (by show 10 < 13; decide) (hp 10 (by decide));have e4 := hJ.pt 4 39 (.agg #[.bool r.1, .slice r.2.1 r.2.2.1 r.2.2.2]) rfl rfl rfl (hp 4 (by decide));rw [e4] at hJ ⊢; clear e4;have e5 := hJ.pt 5 40 (.agg #[.bool pu.1, .slice pu.2.1 pu.2.2.1 pu.2.2.2]) rfl rfl rfl (hp 5 (by decide));rw [e5] at hJ ⊢; clear e5;refine wps rfl fun K hK => ?_;go_simp;go_at_call 96;refine (IMulAdd_c _ _ _ c xs[m] (d * ys[m]) LA LB _ (show IntAt w' (LA) (.agg #[.bool r.1, .slice r.2.1 r.2.2.1 r.2.2.2]) (c) from hJ.base _ mm0) (show IntAt w' (LB) (.agg #[.bool pu.1, .slice pu.2.1 pu.2.2.1 pu.2.2.2]) (xs[m]) from hJ.base _ mm2) (OwnI.int (show OwnI w' _ (fx 45) _ from e10) (by rw [Int.natAbs_mul]; exact Nat.le_trans (wlen_mul _ _) (Nat.le_trans (Nat.add_le_add hwd hyw) hLab))) hLab).mono ?_;rintro e w4 ⟨⟨v5, rfl, h5⟩, hb4⟩;try dsimp only
            exact hK _ _ ⟨_, by kernel_rfl, hJ.gC 11 rfl (by kernel_rfl) hb4 (OwnI.mono h5 (Nat.zero_le _)) (by omega)⟩
          · intro L fx w' hJ hL hp hcl;have e0 := hJ.pt 0 35 (.slice (some ⟨by_, 0, none⟩) ys.length cy) rfl rfl rfl (hp 0 (by decide));rw [e0] at hJ ⊢; clear e0;have e1 := hJ.pt 1 36 (.int .i64 (m : Int)) rfl rfl rfl (hp 1 (by decide));rw [e1] at hJ ⊢; clear e1;refine wps rfl fun K hK => ?_;go_simp;exact hJ.q hK (by kernel_rfl) rfl
        · intro L x' w5b hL hJ;have hfr : Below w5.drew.heap.size w5.drew w5b := hJ.fr;have e11 : OwnI w5b 0 (x' 46) (c * xs[m] + d * ys[m]) := hJ.slot 11 (by show 11 < 13; decide) (hL 11 (by show 11 < 13; decide));have e12 : x' 47 = .pointer (some ⟨by_, m * 2, none⟩) := hJ.slot 12 (by show 12 < 13; decide) (hL 12 (by show 12 < 13; decide));obtain ⟨pz6, hpz⟩ := NumAt.parts e11.num;rw [hpz] at e11;unfold av at hpz;rw [patchX (x := x') (d := 46) hpz];rw [patchX (x := updX x' 46 (.agg #[.bool pz6.1, .slice pz6.2.1 pz6.2.2.1 pz6.2.2.2])) (d := 47) (v := .pointer (some ⟨by_, m * 2, none⟩)) e12];clear hJ hL;have X7 := Lib.hid (RowN.below (w := w5.drew) X6.out hfr);have Y7 := Lib.hid (RowN.below (w := w5.drew) Y6.out hfr);have R7 := Lib.hid (RowAt.below (w := w5.drew) R6.out hfr R6.out.lt);have RG := Lib.hid (RowAt.below (w := w5.drew) RG.out hfr RG.out.lt);have RH := Lib.hid (RowAt.below (w := w5.drew) RH.out hfr RH.out.lt);have A7 := Lib.hid (IntAt.below (w := w5.drew) A6.out hfr);have B7 := Lib.hid (IntAt.below (w := w5.drew) B6.out hfr);have D7 := Lib.hid (IntAt.below (w := w5.drew) D6.out hfr);have E7 := Lib.hid (IntAt.below (w := w5.drew) E6.out hfr);have U7 := Lib.hid (IntAt.below (w := w5.drew) U6.out hfr);have V7 := Lib.hid (IntAt.below (w := w5.drew) V6.out hfr);have C7 := Lib.hid (C6.out.drew.below hfr);have hsz7 := hfr.size;have hsz7' : w5.drew.heap.size = w5.heap.size := rfl;clear X6 Y6 R6 A6 B6 D6 E6 U6 V6 C6;obtain ⟨pq, q0, q1, _⟩ := Y7.out.get hmv;have q2 := Y7.out.free (m * 2);have q3 := Y7.out.free (m * 2 + 1);refine wps rfl fun K hK => ?_;go_simp;refine hK _ _ ⟨⟨updX (updX x' 46 (.agg #[.bool pz6.1, .slice pz6.2.1 pz6.2.2.1 pz6.2.2.2])) 47 (.pointer (some ⟨by_, m * 2, none⟩)), by kernel_rfl⟩, ?_⟩;clear hK q0 q1 q2 q3;have ZY := Lib.hid (Y7.out.set m e11.num);have ZX := Lib.hid (Y7.out.keepRow X7.out (fun e => hne e) m pz6);have ZR := Lib.hid ((R7.out.other (p := ⟨by_, m * 2, none⟩) (by show w.heap.size ≠ by_; omega) (.bool pz6.1)).other (p := ⟨by_, m * 2 + 1, none⟩) (by show w.heap.size ≠ by_; omega) (.slice pz6.2.1 pz6.2.2.1 pz6.2.2.2));have Z7 := Lib.hid ((RG.out.other (p := ⟨by_, m * 2, none⟩) (by show g7 ≠ by_; omega) (.bool pz6.1)).other (p := ⟨by_, m * 2 + 1, none⟩) (by show g7 ≠ by_; omega) (.slice pz6.2.1 pz6.2.2.1 pz6.2.2.2));have Z8 := Lib.hid ((RH.out.other (p := ⟨by_, m * 2, none⟩) (by show g8 ≠ by_; omega) (.bool pz6.1)).other (p := ⟨by_, m * 2 + 1, none⟩) (by show g8 ≠ by_; omega) (.slice pz6.2.1 pz6.2.2.1 pz6.2.2.2));have ZA := Lib.hid (Y7.out.keepInt A7.out m pz6);have ZB := Lib.hid (Y7.out.keepInt B7.out m pz6);have ZD := Lib.hid (Y7.out.keepInt D7.out m pz6);have ZE := Lib.hid (Y7.out.keepInt E7.out m pz6);have ZU := Lib.hid (Y7.out.keepInt U7.out m pz6);have ZV := Lib.hid (Y7.out.keepInt V7.out m pz6);have ZC := Lib.hid ((C7.out.set (p := ⟨by_, m * 2, none⟩) (Or.inr rfl) (.bool pz6.1)).set (p := ⟨by_, m * 2 + 1, none⟩) (Or.inr rfl) (.slice pz6.2.1 pz6.2.2.1 pz6.2.2.2));clear X7 Y7 R7 RG RH A7 B7 D7 E7 U7 V7 C7 e11 e12;go_wp2;go_roundw
          case rel =>
           exact ⟨m + 1, _, _, by omega, by go_num, HU.out.next hml hmy, HV.out.next hml hmy, ZX, ZY, ZR, Lib.hid ⟨ZA.out, ZB.out, ZD.out, ZE.out⟩, ZC⟩
          case measure => simp [intOf]; omega
  · obtain rfl : m = xs.length := by omega
    have he := HU.out.all Hl.out rfl;have he2 := HV.out.all Hl.out Hl.out;have HE := Lib.hid he;have HE2 := Lib.hid he2;clear he he2;go_wp2;refine bodyPost_end (results_none (by kernel_rfl) _ _ _) rfl ?_;rw [<- HE.out, <- HE2.out];exact ⟨rfl, hX.out, hY.out, hC.out⟩
structure Hd where
 blk : Nat
 cap : Nat
 xs : List Int
def Hd.hdr (h : Hd) : Value := .slice (some ⟨h.blk, 0, none⟩) h.xs.length h.cap
theorem NoW_hdrs : ∀ R : List Hd, NoW (R.map Hd.hdr)
 | [] => NoW.nil
 | h :: R => NoW.slice (NoW_hdrs R)
def RowP (w : World) (b : Nat) (t : TypeId) (cs : List Value) : Prop := ∃ tl, NoW tl /\ RowAt w b t (cs ++ tl)
theorem RowAt.pre {w : World} {b : Nat} {t : TypeId} {cs : List Value} (h : RowAt w b t cs) : RowP w b t cs := ⟨[], NoW.nil, by rw [List.append_nil]; exact h⟩
theorem RowP.lt {w : World} {b : Nat} {t : TypeId} {cs : List Value} (h : RowP w b t cs) : b < w.heap.size := by obtain ⟨_, _, h⟩ := h; exact h.lt
theorem RowP.free {w : World} {b : Nat} {t : TypeId} {cs : List Value} (h : RowP w b t cs) (i : Nat) : w.frozen? ⟨b, i, none⟩ = false := by obtain ⟨_, _, h⟩ := h; exact h.free i
theorem RowP.below {w w' : World} {b B : Nat} {t : TypeId} {cs : List Value} (h : RowP w b t cs) (hb : Below B w w') (hB : b < B) : RowP w' b t cs := by obtain ⟨tl, n, h⟩ := h; exact ⟨tl, n, h.below hb hB⟩
theorem RowP.other {w : World} {b : Nat} {t : TypeId} {cs : List Value} (h : RowP w b t cs) {p : Addr} (hp : b ≠ p.block) (v : Value) : RowP (w.setCell p v) b t cs := by obtain ⟨tl, n, h⟩ := h; exact ⟨tl, n, h.other hp v⟩
theorem RowP.set {w : World} {b : Nat} {t : TypeId} {cs : List Value} (h : RowP w b t cs) {i : Nat} (hi : i < cs.length) (v : Value) : RowP (w.setCell ⟨b, i, none⟩ v) b t (cs.set i v) := by
 obtain ⟨tl, n, h⟩ := h;have := h.set i v;rw [List.set_append_left _ _ hi] at this;exact ⟨tl, n, this⟩
theorem RowP.cell {w : World} {b : Nat} {t : TypeId} {cs : List Value} (h : RowP w b t cs) {i : Nat} (hi : i < cs.length) : w.cell? ⟨b, i, none⟩ = cs[i]? := by
 obtain ⟨tl, n, h⟩ := h; rw [h.cell, List.getElem?_append_left hi]
theorem RowP.chg {S : Nat -> Prop} {w w' : World} {b : Nat} {t : TypeId} {cs : List Value} (h : RowP w b t cs) (hc : Chg S w w') (hb : ¬ S b) : RowP w' b t cs := by obtain ⟨tl, n, h⟩ := h; exact ⟨tl, n, hc.row h hb⟩
structure MatN (w : World) (o : Nat) (R : List Hd) : Prop where
 out : RowP w o 22 (R.map Hd.hdr)
 row : ∀ h ∈ R, RowN w h.blk h.xs
 nd : (R.map Hd.blk).Nodup
theorem MatN.below {w w' : World} {o : Nat} {R : List Hd} (h : MatN w o R) (hb : Below w.heap.size w w') : MatN w' o R :=
 ⟨h.out.below hb h.out.lt, fun r hr => (h.row r hr).below hb, h.nd⟩
theorem MatN.ne {w : World} {o : Nat} {R : List Hd} (h : MatN w o R) {r : Hd} (hr : r ∈ R) : r.blk ≠ o := by
 intro e;obtain ⟨ps, tl, nt, hp, _⟩ := h.row r hr;obtain ⟨tl, _, ho⟩ := h.out;unfold RowAt at hp ho;rw [e, ho] at hp;simp only [Option.some.injEq, Obj.cells.injEq] at hp;exact absurd hp.2.1 (by decide)
theorem MatN.hdr {w : World} {o : Nat} {R : List Hd} (h : MatN w o R) {i : Nat} (hi : i < R.length) : w.cell? ⟨o, i, none⟩ = some (R[i]).hdr := by
 rw [h.out.cell (by simpa using hi)]; simp [hi]
theorem MatN.lt {w : World} {o : Nat} {R : List Hd} (h : MatN w o R) : o < w.heap.size := h.out.lt
theorem MatN.setOther {w : World} {o : Nat} {R : List Hd} (h : MatN w o R) {g : Nat} {t : TypeId} {cs : List Value} (hr : RowAt w g t cs) (hn : NoW cs) (ho : o ≠ g) (hb : ∀ r ∈ R, r.blk ≠ g) (i : Nat) (u : Value) : MatN (w.setCell ⟨g, i, none⟩ u) o R :=
 ⟨h.out.other ho u, fun r hr' => (h.row r hr').other (hb r hr') hr hn i u, h.nd⟩
structure TwoS where
 o : Nat
 g : Nat
 g3 : Nat
 cap : Nat
 cs : Nat
 own : Nat -> Prop
 fit : List Hd -> Prop
 rel : List Hd -> List Hd -> Prop
structure LSt where
 lb : Nat
 o : Nat
 sb : Nat
 g : Nat
 cap : Nat
 R : List Hd
 two : Option TwoS
def LSt.rws (S : LSt) (k : Nat) : Prop := k = S.o ∨ ∃ h ∈ S.R, h.blk = k
def LSt.own (S : LSt) (k : Nat) : Prop := S.rws k ∨ ∃ t, S.two = some t /\ t.own k
def LSt.withR (S : LSt) (R : List Hd) : LSt := ⟨S.lb, S.o, S.sb, S.g, S.cap, R, S.two⟩
def LSt.ns (S : LSt) : Nat := match S.two with | none => 1 | some _ => 2
def LSt.cs (S : LSt) : Nat := match S.two with | none => 1 | some t => t.cs
def TwoS.st (t : TwoS) (V : List Hd) : LSt := ⟨0, t.o, 0, t.g, t.cap, V, none⟩
def LSt.hdr (S : LSt) : Value := .slice (some ⟨S.o, 0, none⟩) S.R.length S.cap
def likeF (g : Nat) : List Value := [.func (.func 85) #[] #[.pointer (some ⟨g, 0, none⟩)], .func (.func 86) #[] #[.pointer (some ⟨g, 0, none⟩)], .func (.func 88) #[] #[.pointer (some ⟨g, 0, none⟩)], .func (.func 90) #[] #[.pointer (some ⟨g, 0, none⟩)]]
def agF (g g3 : Nat) : List Value := [.func (.func 85) #[] #[.pointer (some ⟨g, 0, none⟩)], .func (.func 86) #[] #[.pointer (some ⟨g, 0, none⟩)], .func (.func 88) #[] #[.pointer (some ⟨g3, 0, none⟩)], .func (.func 90) #[] #[.pointer (some ⟨g3, 0, none⟩)]]
def LSt.more (S : LSt) : List Value := match S.two with | none => [] | some t => agF t.g t.g3
theorem run_store_fn (P : Program) (w : World) (p : Addr) (f : Fn) (a b : Array Value) (m : Mode) : (store p (.func f a b) m).run P w = stored P w p (.func f a b) m := run_store P w p _ m rfl
attribute [local go_sem] run_store_fn
theorem results_side {fn : Func} {p : Tmp} (h : fn.results = #[.cell p 99]) (tmps : Array Value) (w : World) (g : Nat) (a b c d : Value) (hp : tmps.getD p undef = .pointer (some ⟨g, 0, none⟩)) (hr : RowAt w g 99 [a, b, c, d]) :
 (results fn tmps).run Try.prog w = .ok (.agg #[a, b, c, d]) w :=
 results_cell_row h tmps w g 99 #[a, b, c, d] (0, 0) _ hp hr Try.underlying99 rfl (by kernel_rfl)
set_option maxRecDepth 100000 in
set_option maxHeartbeats 4000000 in
theorem Like_c (ao : Option Addr) (n cap : Nat) (w : World) :
 Calls Try.prog 71 #[.slice ao n cap] w fun e w' => e = .returned (.agg (likeF w.heap.size).toArray) /\ RowAt w' w.heap.size 64 [.slice ao n cap] /\ Below w.heap.size w w' := by
 go_enter Try.func71, Try.ntmps71;go_wp2;obtain ⟨r1, r2, hb⟩ := two_new w #[.slice ao n cap] (likeF w.heap.size).toArray 64 99;simp only [likeF] at r1 r2 hb;refine bodyPost_ret (results_side (p := 2) (by kernel_rfl) _ _ (w.heap.size + 1) _ _ _ _ rfl r2) rfl ?_;exact ⟨rfl, r1, hb⟩
structure SdAt (w : World) (S : LSt) : Prop where
 box : RowAt w S.g 64 [S.hdr]
 mat : MatN w S.o S.R
theorem SdAt.below {w w' : World} {S : LSt} (h : SdAt w S) (hb : Below w.heap.size w w') : SdAt w' S := ⟨h.box.below hb h.box.lt, h.mat.below hb⟩
structure TwoAt (w : World) (S : LSt) (t : TwoS) (V : List Hd) : Prop where
 sd : SdAt w (t.st V)
 box3 : RowAt w t.g3 64 [(t.st V).hdr]
 rel : t.rel S.R V
 own : ∀ k, t.own k ↔ (t.st V).rws k
 apart : ∀ k, t.own k -> ¬ S.rws k
structure LadAt (w : World) (S : LSt) : Prop where
 lad : RowAt w S.lb 82 [S.hdr, .slice (some ⟨S.sb, 0, none⟩) S.ns S.cs]
 sides : RowP w S.sb 99 (likeF S.g ++ S.more)
 box : RowAt w S.g 64 [S.hdr]
 mat : MatN w S.o S.R
 ext : ∀ t, S.two = some t -> ∃ V, TwoAt w S t V
theorem LadAt.sd {w : World} {S : LSt} (h : LadAt w S) : SdAt w S := ⟨h.box, h.mat⟩
set_option maxRecDepth 100000 in
set_option maxHeartbeats 4000000 in
theorem New_c (o cap : Nat) (R : List Hd) (w : World) (hM : MatN w o R) :
 Calls Try.prog 58 #[.slice (some ⟨o, 0, none⟩) R.length cap] w fun e w' => (∃ lb sb g, e = .returned (.pointer (some ⟨lb, 0, none⟩)) /\ LadAt w' ⟨lb, o, sb, g, cap, R, none⟩ /\ w.heap.size <= lb /\ w.heap.size <= sb /\ w.heap.size <= g) /\ Below w.heap.size w w' := by
 have HM := Lib.hid hM;have HM0 := Lib.hid hM; clear hM;go_enter Try.func58, Try.ntmps58;go_wp2_with fail
 have hb1 : Below w.heap.size w (w.alloc (.cells #[.slice (some ⟨o, 0, none⟩) R.length cap, .slice none 0 0] 82)) := (Below.refl _ _).alloc (Nat.le_refl _) _;have hr1 := RowAt.new w #[.slice (some ⟨o, 0, none⟩) R.length cap, .slice none 0 0] 82;generalize w.alloc (.cells #[.slice (some ⟨o, 0, none⟩) R.length cap, .slice none 0 0] 82) = w1 at *;refine (Like_c _ _ _ _).mono ?_;rintro e w2 ⟨rfl, hbox, hb2⟩;simp only [likeF];have hr2 := hr1.below hb2 hr1.lt;have hM2 := (HM.out.below hb1).below hb2;have hbw : Below w.heap.size w w2 := hb1.trans (hb2.mono hb1.size);have hs1 : w.heap.size < w1.heap.size := hr1.lt;have hs2 : w1.heap.size < w2.heap.size := hbox.lt;have hb3 : Below w2.heap.size w2 (w2.alloc (.cells (likeF w1.heap.size).toArray 99)) := (Below.refl _ _).alloc (Nat.le_refl _) _;have hr3 := RowAt.new w2 (likeF w1.heap.size).toArray 99;have hr4 := hr2.below hb3 hr2.lt;have hbox3 := hbox.below hb3 hbox.lt;have hM3 := hM2.below hb3;have hbw3 := hbw.trans (hb3.mono hbw.size);have f1 := hr4.free 1;have c1 := hr4.cell 1;simp only [likeF] at hr3 f1 c1;have HR3 := Lib.hid hr3;have HR4 := Lib.hid hr4;have HM3 := Lib.hid hM3;have HB3 := Lib.hid hbw3;have HX3 := Lib.hid hbox3;clear hr1 hr2 hr3 hr4 hM2 hM3 hbw hbw3 hb1 hb2 hb3 hbox hbox3 HM;go_wp2;go_ret;have ho := HM0.out.lt;refine ⟨⟨w.heap.size, rfl, w2.heap.size, w1.heap.size, ⟨?_, ?_, ?_, ?_, fun t h => by cases h⟩, Nat.le_refl _, by omega, by omega⟩, ?_⟩
 · exact HR4.out.set 1 (.slice (some ⟨w2.heap.size, 0, none⟩) 1 1)
 · exact (RowAt.other (p := ⟨w.heap.size, 1, none⟩) HR3.out (by show w2.heap.size ≠ w.heap.size; omega) _).pre
 · exact RowAt.other (p := ⟨w.heap.size, 1, none⟩) HX3.out (by show w1.heap.size ≠ w.heap.size; omega) _
 · exact HM3.out.setOther HR4.out (NoW.slice (NoW.slice NoW.nil)) (by show o ≠ w.heap.size; omega) (fun r hr => by have := (HM0.out.row r hr).lt; omega) 1 _
 · exact HB3.out.setCell (p := ⟨w.heap.size, 1, none⟩) (Nat.le_refl _) _
theorem RowAt.ne {w : World} {a b : Nat} {t t' : TypeId} {cs cs' : List Value} (h : RowAt w a t cs) (h' : RowAt w b t' cs') (ht : t ≠ t') : a ≠ b := by
 rintro rfl;unfold RowAt at h h';rw [h] at h';simp only [Option.some.injEq, Obj.cells.injEq] at h';exact ht h'.2.1
theorem RowAt.neP {w : World} {a b : Nat} {t t' : TypeId} {cs cs' : List Value} (h : RowAt w a t cs) (h' : RowP w b t' cs') (ht : t ≠ t') : a ≠ b := by obtain ⟨_, _, h'⟩ := h'; exact h.ne h' ht
def setXs (R : List Hd) (i : Nat) (xs : List Int) : List Hd := R.modify i (fun h => ⟨h.blk, h.cap, xs⟩)
theorem setXs_length (R : List Hd) (i : Nat) (xs : List Int) : (setXs R i xs).length = R.length := by simp [setXs]
theorem setXs_get {R : List Hd} {i : Nat} {xs : List Int} {j : Nat} (hj : j < R.length) : (setXs R i xs)[j]'(by rw [setXs_length]; exact hj) = if i = j then ⟨R[j].blk, R[j].cap, xs⟩ else R[j] := by
 unfold setXs; rw [List.getElem_modify]
theorem setXs_blk (R : List Hd) (i : Nat) (xs : List Int) : (setXs R i xs).map Hd.blk = R.map Hd.blk := by
 refine List.ext_getElem (by simp [setXs_length]) fun j h1 h2 => ?_;simp only [List.getElem_map];rw [setXs_get (by simpa using h2)];split <;> rfl
theorem setXs_hdr {R : List Hd} {i : Nat} {xs : List Int} (hi : i < R.length) (hl : xs.length = R[i].xs.length) : (setXs R i xs).map Hd.hdr = R.map Hd.hdr := by
 refine List.ext_getElem (by simp [setXs_length]) fun j h1 h2 => ?_;simp only [List.getElem_map];rw [setXs_get (by simpa using h2)];split
 · rename_i e; subst e; unfold Hd.hdr; rw [hl]
 · rfl
theorem blk_ne {R : List Hd} (hn : (R.map Hd.blk).Nodup) {i j : Nat} (hi : i < R.length) (hj : j < R.length) (h : i ≠ j) : R[i].blk ≠ R[j].blk := by
 intro e;have h1 : (R.map Hd.blk)[i]'(by simpa using hi) = (R.map Hd.blk)[j]'(by simpa using hj) := by simpa using e
 have hp := List.pairwise_iff_getElem.1 hn;rcases Nat.lt_or_gt_of_ne h with hlt | hlt
 · exact hp i j (by simpa using hi) (by simpa using hj) hlt h1
 · exact hp j i (by simpa using hj) (by simpa using hi) hlt h1.symm
theorem MatN.setXs {w w' : World} {o : Nat} {R : List Hd} (h : MatN w o R) {i : Nat} (hi : i < R.length) {xs : List Int} (hl : xs.length = R[i].xs.length) (hc : Chg (· = R[i].blk) w w') (hr : RowN w' R[i].blk xs) : MatN w' o (setXs R i xs) := by
 have hw : Wordless (· = R[i].blk) w := (h.row _ (List.getElem_mem hi)).wordless;refine ⟨by rw [setXs_hdr hi hl]; exact h.out.chg hc (fun e => h.ne (List.getElem_mem hi) e.symm), fun r hr' => ?_, by rw [setXs_blk]; exact h.nd⟩;obtain ⟨j, hj, rfl⟩ := List.getElem_of_mem hr';rw [setXs_length] at hj;rw [setXs_get hj];split
 · rename_i e; subst e; exact hr
 · rename_i e; exact hc.rowN hw (h.row _ (List.getElem_mem hj)) (blk_ne h.nd hj hi (fun e' => e e'.symm))
theorem addRow_length {k : Int} {xs ys : List Int} (h : xs.length = ys.length) : (addRow k xs ys).length = xs.length := by simp [addRow, h]
theorem mixRow_length {a b : Int} {xs ys : List Int} (h : xs.length = ys.length) : (mixRow a b xs ys).length = xs.length := by simp [mixRow, h]
theorem SdAt.keep {w w' : World} {S : LSt} (h : SdAt w S) (hc : Chg S.rws w w') {b : Nat} {t : TypeId} {cs : List Value} (hb : RowAt w b t cs) (h1 : t ≠ 27) (h2 : t ≠ 22) : RowAt w' b t cs := by
 refine hc.row hb ?_;rintro (rfl | ⟨r, hr, rfl⟩)
 · exact hb.neP h.mat.out h2 rfl
 · obtain ⟨ps, tl, nt, hp, _⟩ := h.mat.row r hr;exact hb.ne hp h1 rfl
theorem SdAt.rows {w w' : World} {S : LSt} (h : SdAt w S) {R : List Hd} (hc : Chg S.rws w w') (hM : MatN w' S.o R) (hl : R.length = S.R.length) : SdAt w' (S.withR R) := by
 have e : LSt.hdr (S.withR R) = S.hdr := by unfold LSt.hdr LSt.withR; rw [hl]
 exact ⟨by rw [e]; exact h.keep hc h.box (by decide) (by decide), hM⟩
def addR (R : List Hd) (i j : Nat) (k : Int) (hi : i < R.length) (hj : j < R.length) : List Hd := setXs R i (addRow k R[i].xs R[j].xs)
set_option maxRecDepth 100000 in
set_option maxHeartbeats 4000000 in
theorem LikeAdd_c (S : LSt) (i j : Nat) (kv : Value) (k : Int) (LA LB : Nat) (w : World) (h : SdAt w S) (hi : i < S.R.length) (hj : j < S.R.length) (hij : i ≠ j) (hK : IntAt w LA kv k) (hl : S.R[i].xs.length = S.R[j].xs.length)
 (hxL : ∀ x ∈ S.R[i].xs, wlen x.natAbs <= 17592186044415) (hyL : ∀ y ∈ S.R[j].xs, wlen y.natAbs <= LB) (hLab : LA + LB <= 17592186044415) (hlen : S.R[i].xs.length <= 4611686018427387903) :
 Calls Try.prog 88 #[.int .i64 (i : Int), .int .i64 (j : Int), kv, .pointer (some ⟨S.g, 0, none⟩)] w fun e w' => e = .returned (.tuple #[]) /\ SdAt w' (S.withR (addR S.R i j k hi hj)) /\ Chg S.rws w w' := by
 obtain ⟨kp, rfl⟩ := hK.parts;have HL := Lib.hid h; clear h;have HK := Lib.hid hK; clear hK;have HXL := Lib.hid hxL; clear hxL;have HYL := Lib.hid hyL; clear hyL;have Hl := Lib.hid hl; clear hl;go_enter Try.func88, Try.ntmps88;unfold av at *;go_wp2;have hb1 : Below w.heap.size w (w.alloc (.cells #[.bool kp.1, .slice kp.2.1 kp.2.2.1 kp.2.2.2] 27)) := (Below.refl _ _).alloc (Nat.le_refl _) _;have hr1 := RowAt.new w #[.bool kp.1, .slice kp.2.1 kp.2.2.1 kp.2.2.2] 27;generalize w.alloc (.cells #[.bool kp.1, .slice kp.2.1 kp.2.2.1 kp.2.2.2] 27) = w1 at *;have hbox := HL.out.box.below hb1 HL.out.box.lt;have hM1 := HL.out.mat.below hb1;have hK1 := HK.out.below hb1;have HX1 := Lib.hid (hM1.row _ (List.getElem_mem hi));have HY1 := Lib.hid (hM1.row _ (List.getElem_mem hj));have hne := blk_ne hM1.nd hi hj hij;have cg : w1.cell? ⟨S.g, 0, none⟩ = some (.slice (some ⟨S.o, 0, none⟩) S.R.length S.cap) := hbox.cell 0;have ci : w1.cell? ⟨S.o, i, none⟩ = some (.slice (some ⟨S.R[i].blk, 0, none⟩) S.R[i].xs.length S.R[i].cap) := hM1.hdr hi;have cj : w1.cell? ⟨S.o, j, none⟩ = some (.slice (some ⟨S.R[j].blk, 0, none⟩) S.R[j].xs.length S.R[j].cap) := hM1.hdr hj;have ck0 : w1.cell? ⟨w.heap.size, 0, none⟩ = some (.bool kp.1) := hr1.cell 0;have ck1 : w1.cell? ⟨w.heap.size, 1, none⟩ = some (.slice kp.2.1 kp.2.2.1 kp.2.2.2) := hr1.cell 1;have hs0 : S.g < w1.heap.size := hbox.lt;have hs1 : S.o < w1.heap.size := hM1.out.lt;have hs2 : w.heap.size < w1.heap.size := hr1.lt;have hi' : (i : Int) < (S.R.length : Int) := by omega
 have hj' : (j : Int) < (S.R.length : Int) := by omega
 have HM1 := Lib.hid hM1; clear hM1;have HK1 := Lib.hid hK1; clear hK1;have HB1 := Lib.hid hb1; clear hb1;clear hr1 hbox;refine wp_region_K ⟨9, fun q_ => [7, 8, 9, 10, 11, 12, 13, 14, 15].getD q_ 0,
  fun q_ => [.val (.slice (some ⟨S.o, 0, none⟩) S.R.length S.cap), .val (.int .i64 (i : Int)), .val (.pointer (some ⟨S.o, i, none⟩)), .val (.slice (some ⟨S.R[i].blk, 0, none⟩) S.R[i].xs.length S.R[i].cap), .val (.slice (some ⟨S.o, 0, none⟩) S.R.length S.cap), .val (.int .i64 (j : Int)), .val (.pointer (some ⟨S.o, j, none⟩)), .val (.slice (some ⟨S.R[j].blk, 0, none⟩) S.R[j].xs.length S.R[j].cap), .val (.agg #[.bool kp.1, .slice kp.2.1 kp.2.2.1 kp.2.2.2])].getD q_ .any,
  [],
  [],
  [],
  [], [(⟨S.g, 0, none⟩, .slice (some ⟨S.o, 0, none⟩) S.R.length S.cap), (⟨S.o, i, none⟩, .slice (some ⟨S.R[i].blk, 0, none⟩) S.R[i].xs.length S.R[i].cap), (⟨S.o, j, none⟩, .slice (some ⟨S.R[j].blk, 0, none⟩) S.R[j].xs.length S.R[j].cap), (⟨w.heap.size, 0, none⟩, .bool kp.1), (⟨w.heap.size, 1, none⟩, .slice kp.2.1 kp.2.2.1 kp.2.2.2)], []⟩ [7, 8, 9, 10, 11, 12, 13, 14, 15, 16] (w1.heap.size) (by kernel_rfl) (by kernel_rfl) (by kernel_rfl) (by kernel_rfl) (by kernel_rfl) ?_ ?_ ?_ ?_ ?_ ?_
 · intro p hp;cases hp
 · intro p hp;cases hp
 · intro p hp;rcases mc hp with rfl | hp
   · refine ⟨cg, by show S.g < w1.heap.size; omega, ?_⟩;intro t ht;cases ht
   rcases mc hp with rfl | hp
   · refine ⟨ci, by show S.o < w1.heap.size; omega, ?_⟩;intro t ht;cases ht
   rcases mc hp with rfl | hp
   · refine ⟨cj, by show S.o < w1.heap.size; omega, ?_⟩;intro t ht;cases ht
   rcases mc hp with rfl | hp
   · refine ⟨ck0, by show w.heap.size < w1.heap.size; omega, ?_⟩;intro t ht;cases ht
   rcases mc hp with rfl | hp
   · refine ⟨ck1, by show w.heap.size < w1.heap.size; omega, ?_⟩;intro t ht;cases ht
   cases hp
 · intro t ht;cases ht
 · refine allc ?_ (allc ?_ (allc ?_ (allc ?_ (allc ?_ (allc ?_ (allc ?_ (allc ?_ (allc ?_ alln))))))));any_goals (first | (intro L fx w' hJ hL hp hcl; have _ := hp0 hp (by decide +kernel); refine wps rfl fun K hK => ?_; go_simp; exact hJ.q hK (by kernel_rfl) rfl) | fail)
   · intro L fx w' hJ hL hp hcl;refine wps rfl fun K hK => ?_;have cl0 := (hJ.cells _ mm0).1;try dsimp only at cl0
     go_simp;exact hJ.q hK (by kernel_rfl) rfl
   · intro L fx w' hJ hL hp hcl;have e0 := hJ.pt 0 7 (.slice (some ⟨S.o, 0, none⟩) S.R.length S.cap) rfl rfl rfl (hp 0 (by decide));rw [e0] at hJ ⊢; clear e0;have e1 := hJ.pt 1 8 (.int .i64 (i : Int)) rfl rfl rfl (hp 1 (by decide));rw [e1] at hJ ⊢; clear e1;refine wps rfl fun K hK => ?_;go_simp;exact hJ.q hK (by kernel_rfl) rfl
   · intro L fx w' hJ hL hp hcl;have e2 := hJ.pt 2 9 (.pointer (some ⟨S.o, i, none⟩)) rfl rfl rfl (hp 2 (by decide));rw [e2] at hJ ⊢; clear e2;refine wps rfl fun K hK => ?_;have cl0 := (hJ.cells _ mm1).1;try dsimp only at cl0
     go_simp;exact hJ.q hK (by kernel_rfl) rfl
   · intro L fx w' hJ hL hp hcl;refine wps rfl fun K hK => ?_;have cl0 := (hJ.cells _ mm0).1;try dsimp only at cl0
     go_simp;exact hJ.q hK (by kernel_rfl) rfl
   · intro L fx w' hJ hL hp hcl;have e4 := hJ.pt 4 11 (.slice (some ⟨S.o, 0, none⟩) S.R.length S.cap) rfl rfl rfl (hp 4 (by decide));rw [e4] at hJ ⊢; clear e4;have e5 := hJ.pt 5 12 (.int .i64 (j : Int)) rfl rfl rfl (hp 5 (by decide));rw [e5] at hJ ⊢; clear e5;refine wps rfl fun K hK => ?_;go_simp;exact hJ.q hK (by kernel_rfl) rfl
   · intro L fx w' hJ hL hp hcl;have e6 := hJ.pt 6 13 (.pointer (some ⟨S.o, j, none⟩)) rfl rfl rfl (hp 6 (by decide));rw [e6] at hJ ⊢; clear e6;refine wps rfl fun K hK => ?_;have cl0 := (hJ.cells _ mm2).1;try dsimp only at cl0
     go_simp;exact hJ.q hK (by kernel_rfl) rfl
   · intro L fx w' hJ hL hp hcl;refine wps rfl fun K hK => ?_;have cl0 := (hJ.cells _ mm3).1;have cl1 := (hJ.cells _ mm4).1;try dsimp only at cl0 cl1
     go_simp;exact hJ.q hK (by kernel_rfl) rfl
 · intro L x' w3 hL hJ;have hfr : Below w1.drew.heap.size w1.drew w3 := hJ.fr;have e3 : x' 10 = .slice (some ⟨S.R[i].blk, 0, none⟩) S.R[i].xs.length S.R[i].cap := hJ.slot 3 (by show 3 < 9; decide) (hL 3 (by show 3 < 9; decide));have e7 : x' 14 = .slice (some ⟨S.R[j].blk, 0, none⟩) S.R[j].xs.length S.R[j].cap := hJ.slot 7 (by show 7 < 9; decide) (hL 7 (by show 7 < 9; decide));have e8 : x' 15 = .agg #[.bool kp.1, .slice kp.2.1 kp.2.2.1 kp.2.2.2] := hJ.slot 8 (by show 8 < 9; decide) (hL 8 (by show 8 < 9; decide));rw [patchX (x := x') (d := 10) (v := .slice (some ⟨S.R[i].blk, 0, none⟩) S.R[i].xs.length S.R[i].cap) e3];rw [patchX (x := (updX x' 10 (.slice (some ⟨S.R[i].blk, 0, none⟩) S.R[i].xs.length S.R[i].cap))) (d := 14) (v := .slice (some ⟨S.R[j].blk, 0, none⟩) S.R[j].xs.length S.R[j].cap) e7];rw [patchX (x := (updX (updX x' 10 (.slice (some ⟨S.R[i].blk, 0, none⟩) S.R[i].xs.length S.R[i].cap)) 14 (.slice (some ⟨S.R[j].blk, 0, none⟩) S.R[j].xs.length S.R[j].cap))) (d := 15) (v := .agg #[.bool kp.1, .slice kp.2.1 kp.2.2.1 kp.2.2.2]) e8];clear hJ hL e3 e7 e8 cg ci cj ck0 ck1;refine wps rfl fun K hK => ?_;go_simp;go_at_call 89;refine (LAdd_c _ _ _ _ LA LB _ _ _ k _ (RowN.below (w := w1.drew) HX1.out hfr) (RowN.below (w := w1.drew) HY1.out hfr) (IntAt.below (w := w1.drew) HK1.out hfr) hne Hl.out HXL.out HYL.out hLab hlen).mono ?_;rintro e w4 ⟨rfl, hR4, hC4⟩;try dsimp only
   refine hK _ _ ⟨⟨updX (updX (updX (updX x' 10 (.slice (some ⟨S.R[i].blk, 0, none⟩) S.R[i].xs.length S.R[i].cap)) 14 (.slice (some ⟨S.R[j].blk, 0, none⟩) S.R[j].xs.length S.R[j].cap)) 15 (.agg #[.bool kp.1, .slice kp.2.1 kp.2.2.1 kp.2.2.2])) 16 (.tuple #[]), by kernel_rfl⟩, ?_⟩;clear hK;go_wp2;refine bodyPost_end (results_none (by kernel_rfl) _ _ _) rfl ?_;have hC0 : Chg S.rws w w3 := (Chg.of_below HB1.out).drew.below hfr;have hs3 := hfr.size;have hs4 : w1.drew.heap.size = w1.heap.size := rfl;have hCs : Chg (· = S.R[i].blk) w w4 := ((Chg.of_below HB1.out).drew.below hfr).trans (hC4.mono (fun k _ e => e));have hCo : Chg S.rws w w4 := hCs.mono (fun k _ e => .inr ⟨S.R[i], List.getElem_mem hi, e.symm⟩);have hM4 := HL.out.mat.setXs hi (addRow_length Hl.out) hCs hR4;exact ⟨rfl, HL.out.rows hCo hM4 (by unfold addR; rw [setXs_length]), hCo⟩
theorem matN_setXs2 {w w' : World} {o : Nat} {R : List Hd} (h : MatN w o R) {i j : Nat} (hi : i < R.length) (hj : j < R.length) (hij : i ≠ j) {xs ys : List Int} (hl : xs.length = R[i].xs.length) (hl2 : ys.length = R[j].xs.length) (hc : Chg (fun k => k = R[i].blk ∨ k = R[j].blk) w w') (hr : RowN w' R[i].blk xs) (hr2 : RowN w' R[j].blk ys) : MatN w' o (setXs (setXs R i xs) j ys) := by
 have hw : Wordless (fun k => k = R[i].blk ∨ k = R[j].blk) w := by
  rintro g (rfl | rfl)
  · exact (h.row _ (List.getElem_mem hi)).wordless _ rfl
  · exact (h.row _ (List.getElem_mem hj)).wordless _ rfl
 have hj' : j < (setXs R i xs).length := by rw [setXs_length]; exact hj
 have ej : (setXs R i xs)[j].xs = R[j].xs := by rw [setXs_get hj, if_neg hij]
 refine ⟨?_, fun r hr' => ?_, by rw [setXs_blk, setXs_blk]; exact h.nd⟩
 · rw [setXs_hdr hj' (by rw [ej]; exact hl2), setXs_hdr hi hl];exact h.out.chg hc (fun e => e.elim (fun e => h.ne (List.getElem_mem hi) e.symm) (fun e => h.ne (List.getElem_mem hj) e.symm))
 · obtain ⟨m, hm, rfl⟩ := List.getElem_of_mem hr';rw [setXs_length] at hm;have hm2 : m < R.length := by rw [setXs_length] at hm; exact hm
   rw [setXs_get hm];split
   · rename_i e;subst e;have : (setXs R i xs)[j].blk = R[j].blk := by rw [setXs_get hj, if_neg hij]
     simp only [this]; exact hr2
   · rename_i hjm;rw [setXs_get hm2];split
     · rename_i e; subst e; exact hr
     · rename_i him;exact hc.rowN hw (h.row _ (List.getElem_mem hm2)) (fun e => e.elim (blk_ne h.nd hm2 hi (fun e' => him e'.symm)) (blk_ne h.nd hm2 hj (fun e' => hjm e'.symm)))
def mixR (R : List Hd) (i j : Nat) (a b c d : Int) (hi : i < R.length) (hj : j < R.length) : List Hd := setXs (setXs R i (mixRow a b R[i].xs R[j].xs)) j (mixRow c d R[i].xs R[j].xs)
set_option maxRecDepth 100000 in
set_option maxHeartbeats 4000000 in
theorem LikeMix_c (S : LSt) (i j : Nat) (mp mq mr ms : P4) (a b c d : Int) (LA LB : Nat) (w : World) (h : SdAt w S) (hi : i < S.R.length) (hj : j < S.R.length) (hij : i ≠ j) (hA : IntAt w LA (av mp) a) (hB : IntAt w LA (av mq) b) (hC : IntAt w LA (av mr) c) (hD : IntAt w LA (av ms) d) (hl : S.R[i].xs.length = S.R[j].xs.length)
 (hxL : ∀ x ∈ S.R[i].xs, wlen x.natAbs <= LB) (hyL : ∀ y ∈ S.R[j].xs, wlen y.natAbs <= LB) (hLab : LA + LB <= 17592186044415) (hlen : S.R[i].xs.length <= 4611686018427387903) :
 Calls Try.prog 90 #[.int .i64 (i : Int), .int .i64 (j : Int), .agg #[.bool mp.1, .slice mp.2.1 mp.2.2.1 mp.2.2.2, .bool mq.1, .slice mq.2.1 mq.2.2.1 mq.2.2.2, .bool mr.1, .slice mr.2.1 mr.2.2.1 mr.2.2.2, .bool ms.1, .slice ms.2.1 ms.2.2.1 ms.2.2.2], .pointer (some ⟨S.g, 0, none⟩)] w fun e w' => e = .returned (.tuple #[]) /\ SdAt w' (S.withR (mixR S.R i j a b c d hi hj)) /\ Chg S.rws w w' := by
 have HL := Lib.hid h; clear h;have HA := Lib.hid hA; clear hA;have HB := Lib.hid hB; clear hB;have HC := Lib.hid hC; clear hC;have HD := Lib.hid hD; clear hD;have HXL := Lib.hid hxL; clear hxL;have HYL := Lib.hid hyL; clear hyL;have Hl := Lib.hid hl; clear hl;go_enter Try.func90, Try.ntmps90;unfold av at *;go_wp2;have hb1 : Below w.heap.size w (w.alloc (.cells #[.bool mp.1, .slice mp.2.1 mp.2.2.1 mp.2.2.2, .bool mq.1, .slice mq.2.1 mq.2.2.1 mq.2.2.2, .bool mr.1, .slice mr.2.1 mr.2.2.1 mr.2.2.2, .bool ms.1, .slice ms.2.1 ms.2.2.1 ms.2.2.2] 109)) := (Below.refl _ _).alloc (Nat.le_refl _) _;have hr1 := RowAt.new w #[.bool mp.1, .slice mp.2.1 mp.2.2.1 mp.2.2.2, .bool mq.1, .slice mq.2.1 mq.2.2.1 mq.2.2.2, .bool mr.1, .slice mr.2.1 mr.2.2.1 mr.2.2.2, .bool ms.1, .slice ms.2.1 ms.2.2.1 ms.2.2.2] 109;generalize w.alloc (.cells #[.bool mp.1, .slice mp.2.1 mp.2.2.1 mp.2.2.2, .bool mq.1, .slice mq.2.1 mq.2.2.1 mq.2.2.2, .bool mr.1, .slice mr.2.1 mr.2.2.1 mr.2.2.2, .bool ms.1, .slice ms.2.1 ms.2.2.1 ms.2.2.2] 109) = w1 at *;have hbox := HL.out.box.below hb1 HL.out.box.lt;have hM1 := HL.out.mat.below hb1;have HA1 := Lib.hid (HA.out.below hb1);have HB1' := Lib.hid (HB.out.below hb1);have HC1 := Lib.hid (HC.out.below hb1);have HD1 := Lib.hid (HD.out.below hb1);have HX1 := Lib.hid (hM1.row _ (List.getElem_mem hi));have HY1 := Lib.hid (hM1.row _ (List.getElem_mem hj));have hne := blk_ne hM1.nd hi hj hij;have cg : w1.cell? ⟨S.g, 0, none⟩ = some (.slice (some ⟨S.o, 0, none⟩) S.R.length S.cap) := hbox.cell 0;have ci : w1.cell? ⟨S.o, i, none⟩ = some (.slice (some ⟨S.R[i].blk, 0, none⟩) S.R[i].xs.length S.R[i].cap) := hM1.hdr hi;have cj : w1.cell? ⟨S.o, j, none⟩ = some (.slice (some ⟨S.R[j].blk, 0, none⟩) S.R[j].xs.length S.R[j].cap) := hM1.hdr hj;have HR1 := Lib.hid hr1;have hs0 : S.g < w1.heap.size := hbox.lt;have hs1 : S.o < w1.heap.size := hM1.out.lt;have hs2 : w.heap.size < w1.heap.size := hr1.lt;have hi' : (i : Int) < (S.R.length : Int) := by omega
 have hj' : (j : Int) < (S.R.length : Int) := by omega
 have HM1 := Lib.hid hM1; clear hM1;have HB1 := Lib.hid hb1; clear hb1;clear hr1 hbox;refine wp_region_K ⟨9, fun q_ => [7, 8, 9, 10, 11, 12, 13, 14, 15].getD q_ 0,
  fun q_ => [.val (.slice (some ⟨S.o, 0, none⟩) S.R.length S.cap), .val (.int .i64 (i : Int)), .val (.pointer (some ⟨S.o, i, none⟩)), .val (.slice (some ⟨S.R[i].blk, 0, none⟩) S.R[i].xs.length S.R[i].cap), .val (.slice (some ⟨S.o, 0, none⟩) S.R.length S.cap), .val (.int .i64 (j : Int)), .val (.pointer (some ⟨S.o, j, none⟩)), .val (.slice (some ⟨S.R[j].blk, 0, none⟩) S.R[j].xs.length S.R[j].cap), .val (.agg #[.bool mp.1, .slice mp.2.1 mp.2.2.1 mp.2.2.2, .bool mq.1, .slice mq.2.1 mq.2.2.1 mq.2.2.2, .bool mr.1, .slice mr.2.1 mr.2.2.1 mr.2.2.2, .bool ms.1, .slice ms.2.1 ms.2.2.1 ms.2.2.2])].getD q_ .any,
  [],
  [],
  [(w.heap.size, 109, [.bool mp.1, .slice mp.2.1 mp.2.2.1 mp.2.2.2, .bool mq.1, .slice mq.2.1 mq.2.2.1 mq.2.2.2, .bool mr.1, .slice mr.2.1 mr.2.2.1 mr.2.2.2, .bool ms.1, .slice ms.2.1 ms.2.2.1 ms.2.2.2])],
  [], [(⟨S.g, 0, none⟩, .slice (some ⟨S.o, 0, none⟩) S.R.length S.cap), (⟨S.o, i, none⟩, .slice (some ⟨S.R[i].blk, 0, none⟩) S.R[i].xs.length S.R[i].cap), (⟨S.o, j, none⟩, .slice (some ⟨S.R[j].blk, 0, none⟩) S.R[j].xs.length S.R[j].cap)], []⟩ [7, 8, 9, 10, 11, 12, 13, 14, 15, 16] (w1.heap.size) (by kernel_rfl) (by kernel_rfl) (by kernel_rfl) (by kernel_rfl) (by kernel_rfl) ?_ ?_ ?_ ?_ ?_ ?_
 · intro p hp;cases hp
 · intro p hp;rcases mc hp with rfl | hp
   · refine ⟨HR1.out, by show w.heap.size < w1.heap.size; omega, ?_⟩;intro t ht;cases ht
   cases hp
 · intro p hp;rcases mc hp with rfl | hp
   · refine ⟨cg, by show S.g < w1.heap.size; omega, ?_⟩;intro t ht;cases ht
   rcases mc hp with rfl | hp
   · refine ⟨ci, by show S.o < w1.heap.size; omega, ?_⟩;intro t ht;cases ht
   rcases mc hp with rfl | hp
   · refine ⟨cj, by show S.o < w1.heap.size; omega, ?_⟩;intro t ht;cases ht
   cases hp
 · intro t ht;cases ht
 · refine allc ?_ (allc ?_ (allc ?_ (allc ?_ (allc ?_ (allc ?_ (allc ?_ (allc ?_ (allc ?_ alln))))))));any_goals (first | (intro L fx w' hJ hL hp hcl; have _ := hp0 hp (by decide +kernel); refine wps rfl fun K hK => ?_; go_simp; exact hJ.q hK (by kernel_rfl) rfl) | fail)
   · intro L fx w' hJ hL hp hcl;refine wps rfl fun K hK => ?_;have cl0 := (hJ.cells _ mm0).1;try dsimp only at cl0
     go_simp;exact hJ.q hK (by kernel_rfl) rfl
   · intro L fx w' hJ hL hp hcl;have e0 := hJ.pt 0 7 (.slice (some ⟨S.o, 0, none⟩) S.R.length S.cap) rfl rfl rfl (hp 0 (by decide));rw [e0] at hJ ⊢; clear e0;have e1 := hJ.pt 1 8 (.int .i64 (i : Int)) rfl rfl rfl (hp 1 (by decide));rw [e1] at hJ ⊢; clear e1;refine wps rfl fun K hK => ?_;go_simp;exact hJ.q hK (by kernel_rfl) rfl
   · intro L fx w' hJ hL hp hcl;have e2 := hJ.pt 2 9 (.pointer (some ⟨S.o, i, none⟩)) rfl rfl rfl (hp 2 (by decide));rw [e2] at hJ ⊢; clear e2;refine wps rfl fun K hK => ?_;have cl0 := (hJ.cells _ mm1).1;try dsimp only at cl0
     go_simp;exact hJ.q hK (by kernel_rfl) rfl
   · intro L fx w' hJ hL hp hcl;refine wps rfl fun K hK => ?_;have cl0 := (hJ.cells _ mm0).1;try dsimp only at cl0
     go_simp;exact hJ.q hK (by kernel_rfl) rfl
   · intro L fx w' hJ hL hp hcl;have e4 := hJ.pt 4 11 (.slice (some ⟨S.o, 0, none⟩) S.R.length S.cap) rfl rfl rfl (hp 4 (by decide));rw [e4] at hJ ⊢; clear e4;have e5 := hJ.pt 5 12 (.int .i64 (j : Int)) rfl rfl rfl (hp 5 (by decide));rw [e5] at hJ ⊢; clear e5;refine wps rfl fun K hK => ?_;go_simp;exact hJ.q hK (by kernel_rfl) rfl
   · intro L fx w' hJ hL hp hcl;have e6 := hJ.pt 6 13 (.pointer (some ⟨S.o, j, none⟩)) rfl rfl rfl (hp 6 (by decide));rw [e6] at hJ ⊢; clear e6;refine wps rfl fun K hK => ?_;have cl0 := (hJ.cells _ mm2).1;try dsimp only at cl0
     go_simp;exact hJ.q hK (by kernel_rfl) rfl
   · intro L fx w' hJ hL hp hcl;refine wps rfl fun K hK => ?_;have rw0 := (hJ.rows _ mm0).1;have cl0 : w'.cell? ⟨w.heap.size, 0, none⟩ = some (.bool mp.1) := rw0.cell 0;have cl1 : w'.cell? ⟨w.heap.size, 1, none⟩ = some (.slice mp.2.1 mp.2.2.1 mp.2.2.2) := rw0.cell 1;have cl2 : w'.cell? ⟨w.heap.size, 2, none⟩ = some (.bool mq.1) := rw0.cell 2;have cl3 : w'.cell? ⟨w.heap.size, 3, none⟩ = some (.slice mq.2.1 mq.2.2.1 mq.2.2.2) := rw0.cell 3;have cl4 : w'.cell? ⟨w.heap.size, 4, none⟩ = some (.bool mr.1) := rw0.cell 4;have cl5 : w'.cell? ⟨w.heap.size, 5, none⟩ = some (.slice mr.2.1 mr.2.2.1 mr.2.2.2) := rw0.cell 5;have cl6 : w'.cell? ⟨w.heap.size, 6, none⟩ = some (.bool ms.1) := rw0.cell 6;have cl7 : w'.cell? ⟨w.heap.size, 7, none⟩ = some (.slice ms.2.1 ms.2.2.1 ms.2.2.2) := rw0.cell 7;go_simp;exact hJ.q hK (by kernel_rfl) rfl
 · intro L x' w3 hL hJ;have hfr : Below w1.drew.heap.size w1.drew w3 := hJ.fr;have e3 : x' 10 = .slice (some ⟨S.R[i].blk, 0, none⟩) S.R[i].xs.length S.R[i].cap := hJ.slot 3 (by show 3 < 9; decide) (hL 3 (by show 3 < 9; decide));have e7 : x' 14 = .slice (some ⟨S.R[j].blk, 0, none⟩) S.R[j].xs.length S.R[j].cap := hJ.slot 7 (by show 7 < 9; decide) (hL 7 (by show 7 < 9; decide));have e8 : x' 15 = .agg #[.bool mp.1, .slice mp.2.1 mp.2.2.1 mp.2.2.2, .bool mq.1, .slice mq.2.1 mq.2.2.1 mq.2.2.2, .bool mr.1, .slice mr.2.1 mr.2.2.1 mr.2.2.2, .bool ms.1, .slice ms.2.1 ms.2.2.1 ms.2.2.2] := hJ.slot 8 (by show 8 < 9; decide) (hL 8 (by show 8 < 9; decide));rw [patchX (x := x') (d := 10) (v := .slice (some ⟨S.R[i].blk, 0, none⟩) S.R[i].xs.length S.R[i].cap) e3];rw [patchX (x := (updX x' 10 (.slice (some ⟨S.R[i].blk, 0, none⟩) S.R[i].xs.length S.R[i].cap))) (d := 14) (v := .slice (some ⟨S.R[j].blk, 0, none⟩) S.R[j].xs.length S.R[j].cap) e7];rw [patchX (x := (updX (updX x' 10 (.slice (some ⟨S.R[i].blk, 0, none⟩) S.R[i].xs.length S.R[i].cap)) 14 (.slice (some ⟨S.R[j].blk, 0, none⟩) S.R[j].xs.length S.R[j].cap))) (d := 15) (v := .agg #[.bool mp.1, .slice mp.2.1 mp.2.2.1 mp.2.2.2, .bool mq.1, .slice mq.2.1 mq.2.2.1 mq.2.2.2, .bool mr.1, .slice mr.2.1 mr.2.2.1 mr.2.2.2, .bool ms.1, .slice ms.2.1 ms.2.2.1 ms.2.2.2]) e8];clear hJ hL e3 e7 e8 cg ci cj;refine wps rfl fun K hK => ?_;go_simp;go_at_call 91;refine (LMix_c _ _ _ _ LA LB _ _ mp mq mr ms a b c d _ (RowN.below (w := w1.drew) HX1.out hfr) (RowN.below (w := w1.drew) HY1.out hfr) (IntAt.below (w := w1.drew) HA1.out hfr) (IntAt.below (w := w1.drew) HB1'.out hfr) (IntAt.below (w := w1.drew) HC1.out hfr) (IntAt.below (w := w1.drew) HD1.out hfr) hne Hl.out HXL.out HYL.out hLab hlen).mono ?_;rintro e w4 ⟨rfl, hR4, hR4', hC4⟩;try dsimp only
   refine hK _ _ ⟨⟨updX (updX (updX (updX x' 10 (.slice (some ⟨S.R[i].blk, 0, none⟩) S.R[i].xs.length S.R[i].cap)) 14 (.slice (some ⟨S.R[j].blk, 0, none⟩) S.R[j].xs.length S.R[j].cap)) 15 (.agg #[.bool mp.1, .slice mp.2.1 mp.2.2.1 mp.2.2.2, .bool mq.1, .slice mq.2.1 mq.2.2.1 mq.2.2.2, .bool mr.1, .slice mr.2.1 mr.2.2.1 mr.2.2.2, .bool ms.1, .slice ms.2.1 ms.2.2.1 ms.2.2.2])) 16 (.tuple #[]), by kernel_rfl⟩, ?_⟩;clear hK;go_wp2;refine bodyPost_end (results_none (by kernel_rfl) _ _ _) rfl ?_;have hC0 : Chg S.rws w w3 := (Chg.of_below HB1.out).drew.below hfr;have hs3 := hfr.size;have hs4 : w1.drew.heap.size = w1.heap.size := rfl;have hCs : Chg (fun k => k = S.R[i].blk ∨ k = S.R[j].blk) w w4 := ((Chg.of_below HB1.out).drew.below hfr).trans (hC4.mono (fun k _ e => e));have hCo : Chg S.rws w w4 := hCs.mono (fun k _ e => .inr (e.elim (fun e => ⟨S.R[i], List.getElem_mem hi, e.symm⟩) (fun e => ⟨S.R[j], List.getElem_mem hj, e.symm⟩)));have hM4 := matN_setXs2 HL.out.mat hi hj hij (mixRow_length Hl.out) ((mixRow_length Hl.out).trans Hl.out) hCs hR4 hR4';exact ⟨rfl, HL.out.rows hCo hM4 (by unfold mixR; rw [setXs_length, setXs_length]), hCo⟩
end Go.Proofs.Ytibogfdgdnedpaa
