/- Part 3 of 9 of the proof that the law GroupSmith returns true for every input of bulk at most 1048576 and leaves its arguments as they were. -/
import Derived.Deep.AppendSrc
import Derived.Deep.Upon
import Derived.Test.YtbgecfleamckcaaGreatGsB
set_option linter.all false
set_option maxRecDepth 100000
set_option maxHeartbeats 4000000
namespace Go.Proofs.YtbgecfleamckcaaGreat
open Go.RowKit
section
variable {P : Program} {Q : Exit -> Act -> World -> Prop} {ds : List Deferred} {S0 : Nat -> Prop} {w0 : World} {n : Nat} {ls : List (Nat × Value)} {es : List En} {c : Code}
theorem wordW {ws : List Nat} {b o : Nat} (i : Nat) (hm : En.j3 (some ⟨b, o, none⟩) ws ∈ es) (hi : i < ws.length) (k : fJ ds P n S0 w0 c Q ls (.cell ⟨b, o + i, none⟩ (.int .u64 ((gw ws i : Nat) : Int)) :: es)) : fJ ds P n S0 w0 c Q ls es := fun a w ha hw => by
 have hA : cU w (some ⟨b, o, none⟩) ws := hw.all _ hm;obtain ⟨b', o', e, hb, hc⟩ := hA.2 (by omega);cases e;refine k a w ha (hw.cons (e := .cell ⟨b, o + i, none⟩ (.int .u64 ((gw ws i : Nat) : Int))) (hc i hi) (fun e' he' => ⟨(fun h => nomatch h), fun hwr g hg hg' => ?_⟩) (fun h => nomatch h));have hg' : g = b := hg';subst hg';obtain ⟨l1, l2, rfl⟩ := List.append_of_mem hm;have hS : (En.j3 (some ⟨g, o, none⟩) ws).S g := ⟨by omega, o, rfl⟩;have hp := List.pairwise_append.1 hw.sep;rcases List.mem_append.1 he' with h | h
 . exact (hp.2.2 e' h _ (List.mem_cons_self ..)).1 hwr g hg hS
 . rcases List.mem_cons.1 h with rfl | h
   . cases hwr
   . exact ((List.pairwise_cons.1 hp.2.1).1 e' h).2 hwr g hg hS
theorem iq {es' : List En} (k : fJ ds P n S0 w0 c Q ls es') (h : Pk es es' := by repeat (first | exact Pk.n | refine Pk.c (by repeat (first | exact Rm.z | apply Rm.s)) ?_)) : fJ ds P n S0 w0 c Q ls es := fun a w ha hw => k a w ha (hw.pick h)
end
section
variable {P : Program} {ops : Array Oper} {Q : Exit -> Act -> World -> Prop} {ds : List Deferred} {S0 : Nat -> Prop} {w0 : World} {E0 : List En} {hd : List (List Nat)} {n j s : Nat} {l : List Nat} {G E : List En} {ls : List (Nat × Value)} {op : Op} {ty : TypeId} {pos : String} {af : Array Edge} {v v' : Value}
theorem dE (hv : v' = v) (k : dZ ds ⟨P, ops, Q, S0, w0, E0, []⟩ n l G E ((s, v) :: ls))
 (ho : ops[j]? = some ⟨some s, op, ty, pos, af, none⟩ := by rfl) (hk : (bY op && et ls op && Nat.blt s n) = true := by kernel_rfl)
 (hr : ∀ w, (qK op = true -> Fr S0 w0 w E0) -> (execOp (dJ ls) ⟨some s, op, ty, pos, af, none⟩).run P w = .ok (.value v') w := by intro w H; (first | (have c := (H rfl).c; try simp only [uc, cl, List.cons_append, List.nil_append] at c) | skip); clear H; go_simp <;> with_reducible rfl) : dZ ds ⟨P, ops, Q, S0, w0, E0, []⟩ n (j :: l) G E ls :=
 dW (v := v) k ho hk (by rw [<- hv]; exact hr)
theorem dB (b : Bool) (k : dZ ds ⟨P, ops, Q, S0, w0, E0, []⟩ n l G E ((s, .bool b) :: ls))
 (ho : ops[j]? = some ⟨some s, op, ty, pos, af, none⟩ := by rfl) (hk : (bY op && et ls op && Nat.blt s n) = true := by kernel_rfl)
 (hr : ∀ w, (qK op = true -> Fr S0 w0 w E0) -> (execOp (dJ ls) ⟨some s, op, ty, pos, af, none⟩).run P w = .ok (.value v') w := by intro w H; (first | (have c := (H rfl).c; try simp only [uc, cl, List.cons_append, List.nil_append] at c) | skip); clear H; go_simp <;> with_reducible rfl)
 (hv : v' = .bool b := by first | rfl | (simp [*]; done) | (simp; omega)) : dZ ds ⟨P, ops, Q, S0, w0, E0, []⟩ n (j :: l) G E ls :=
 dE hv k ho hk hr
theorem gU (b : Bool) {sg g : Nat} {want : Bool} (k : dZ ds ⟨P, ops, Q, S0, w0, E0, []⟩ n l G E ((s, .bool b) :: ls))
 (ho : ops[j]? = some ⟨some s, op, ty, pos, af, some (g, want)⟩ := by rfl) (hk : (bY op && et ls op && Nat.blt s n) = true := by kernel_rfl)
 (hg : (ops[g]?).bind (·.dst) = some sg := by rfl) (hi : eG ls (.tmp sg) = true := by kernel_rfl) (hb : dJ ls (.tmp sg) = .bool want := by (simp only [cJ, Nat.reduceEqDiff, ↓reduceIte]) <;> first | rfl | simp [*])
 (hr : ∀ w, (qK op = true -> Fr S0 w0 w E0) -> (execOp (dJ ls) ⟨some s, op, ty, pos, af, some (g, want)⟩).run P w = .ok (.value v') w := by intro w H; (first | (have c := (H rfl).c; try simp only [uc, cl, List.cons_append, List.nil_append] at c) | skip); clear H; go_simp <;> with_reducible rfl)
 (hv : v' = .bool b := by first | rfl | (simp [*]; done) | (simp; omega)) : dZ ds ⟨P, ops, Q, S0, w0, E0, []⟩ n (j :: l) G E ls :=
 dG k ho hk hg hi hb (by rw [<- hv]; exact hr)
end
theorem Fr.apart {S0 : Nat -> Prop} {w0 w : World} {es : List En} (h : Fr S0 w0 w es) {e e1 : En} (he : e ∈ es) (he1 : e1 ∈ es) (hw : e.wr = true) (hw1 : e1.wr = false) {b : Nat} (hb : e.S b) : ¬ e1.S b := fun hb1 => by
 obtain ⟨l1, l2, rfl⟩ := List.append_of_mem he1;have hp := List.pairwise_append.1 h.sep;rcases List.mem_append.1 he with h | h
 . exact (hp.2.2 e h _ (List.mem_cons_self ..)).1 hw b hb hb1
 . rcases List.mem_cons.1 h with rfl | h
   . rw [hw] at hw1; cases hw1
   . exact ((List.pairwise_cons.1 hp.2.1).1 e h).2 hw b hb hb1
section
variable {P : Program} {ops : Array Oper} {Q : Exit -> Act -> World -> Prop} {ds : List Deferred} {S0 : Nat -> Prop} {w0 : World} {E0 : List En} {hd : List (List Nat)} {n j s sg g : Nat} {l : List Nat} {G E : List En} {ls : List (Nat × Value)} {op : Op} {ty : TypeId} {pos : String} {af : Array Edge} {f : FuncId} {args : Array Value} {want : Bool}
end
theorem cW {xs : List Int} {i : Nat} (h : i < xs.length) : gi xs i = xs[i] := by simp [gi, h]
theorem jb {ps : List P4} {i : Nat} (h : i < ps.length) : gp ps i = ps[i] := by simp [gp, h]
theorem gX {xs : List Int} {i : Nat} (h : i < xs.length) : gi xs i ∈ xs := by rw [cW h]; exact List.getElem_mem h
theorem r7 {xs : List Int} {i j : Nat} (h : i < xs.length) (x : Int) : gi (xs.set i x) j = if j = i then x else gi xs j := by
 unfold gi;rw [List.getD_eq_getElem?_getD, List.getElem?_set, List.getD_eq_getElem?_getD];by_cases e : i = j
 . subst e; simp [h]
 . have e2 : ¬ j = i := fun q => e q.symm;simp [e, e2]
theorem Bf {ps : List P4} {i : Nat} (tl : List Value) (h : i < ps.length) : (rn ps tl)[i * 2]? = some (.bool (gp ps i).1) := by
 have := bL ps;rw [jb h, rn, List.getElem?_append_left (by omega)]; exact jM ps i h
theorem Bi {ps : List P4} {i : Nat} (tl : List Value) (h : i < ps.length) : (rn ps tl)[i * 2 + 1]? = some (.slice (gp ps i).2.1 (gp ps i).2.2.1 (gp ps i).2.2.2) := by
 have := bL ps;rw [jb h, rn, List.getElem?_append_left (by omega)]; exact jQ ps i h
theorem BL {ps : List P4} {i : Nat} (tl : List Value) (h : i < ps.length) (p : P4) : iZ (rn ps tl) (i * 2) [.bool p.1, .slice p.2.1 p.2.2.1 p.2.2.2] = rn (ps.set i p) tl := by
 have hl := bL ps;simp only [iZ, rn];rw [List.set_append_left _ _ (by omega), List.set_append_left _ _ (by rw [List.length_set]; omega), nB]
theorem aK.rn {ps : List P4} {tl : List Value} (h : aK tl) : aK (rn ps tl) := fK h
theorem dA.set {w : World} {ps : List P4} {xs : List Int} (h : dA w ps xs) (i : Nat) {p : P4} {x : Int} (hp : aN w (av p) x) : dA w (ps.set i p) (xs.set i x) := by
 refine ⟨by simp [h.1], fun j hj => ?_⟩;rw [List.length_set] at hj;have h1 := h.1;by_cases e : i = j
 . subst e;rw [jb (by simpa using hj), cW (by simp; omega)];simpa using hp
 . have := h.2 j hj;rw [jb hj, cW (by omega)] at this;rw [jb (by simpa using hj), cW (by simp; omega)];simpa [e] using this
theorem dA.snoc {w : World} {ps : List P4} {xs : List Int} (h : dA w ps xs) {p : P4} {x : Int} (hp : aN w (av p) x) : dA w (ps ++ [p]) (xs ++ [x]) := by
 refine ⟨by simp [h.1], fun j hj => ?_⟩;have h1 := h.1;rw [jb hj, cW (by simp at hj |-; omega)];by_cases e : j < ps.length
 . have := h.2 j e;rw [jb e, cW (by omega)] at this;rw [List.getElem_append_left e, List.getElem_append_left (by omega)]; exact this
 . have e1 : j = ps.length := by simp at hj; omega
   subst e1;simpa [h1] using hp
theorem dA.nil (w : World) : dA w [] [] := ⟨rfl, fun i h => absurd h (by simp)⟩
theorem dA.tj (w : World) (n : Nat) : dA w (List.replicate n p0) (List.replicate n 0) := ⟨by simp, fun i h => by
 have h : i < n := by simpa using h
 rw [jb (by simpa using h), cW (by simpa using h)]; simp; exact aN.zero w⟩
theorem aJ.mk' {w : World} {b : Nat} {ps : List P4} {tl : List Value} {xs : List Int} (h : a6 w b 40 (rn ps tl)) (ht : aK tl) (hn : dA w ps xs) : aJ w b xs :=
 ⟨ps, tl, ht, h, hn.1, fun i h1 h2 => by have := hn.2 i h1; rw [jb h1, cW h2] at this; exact this⟩
theorem Fr.l {S0 : Nat -> Prop} {w0 w : World} {es : List En} (h : Fr S0 w0 w es) {L : Nat} {ao : Option Addr} {xs : List Int} (hx : bc w L ao xs) (hS : ∀ e ∈ es, e.wr = false) : Fr S0 w0 w (.ls L ao xs :: es) :=
 h.cons hx (fun e he => ⟨(fun q => nomatch q), fun q => by rw [hS e he] at q; cases q⟩) (fun q => nomatch q)
section
variable {P : Program} {Q : Exit -> Act -> World -> Prop} {ds : List Deferred} {S0 : Nat -> Prop} {w0 : World} {n : Nat} {ls : List (Nat × Value)} {es : List En} {c : Code}
theorem Fr.cellOf {w : World} {e : En} {a : Addr} {v : Value} (h : Fr S0 w0 w es) (hm : e ∈ es) (hwr : e.wr = false) (hS : e.S a.block) (hc : w.cell? a = some v) : Fr S0 w0 w (.cell a v :: es) :=
 h.cons (e := .cell a v) hc (fun e' he' => ⟨(fun q => nomatch q), fun q g hg hg' => by
  obtain rfl : g = a.block := hg';exact h.apart he' hm q hwr hg hS⟩) (fun q => nomatch q)
theorem ou {L : Nat} {xs : List Int} {b o : Nat} (i : Nat) (hm : En.ls L (some ⟨b, o, none⟩) xs ∈ es) (hi : i < xs.length) (k : ∀ p : P4, fJ ds P n S0 w0 c Q ls (.cell ⟨b, o + i * 2, none⟩ (.bool p.1) :: .cell ⟨b, o + i * 2 + 1, none⟩ (.slice p.2.1 p.2.2.1 p.2.2.2) :: .at L (av p) (gi xs i) :: es)) : fJ ds P n S0 w0 c Q ls es := fun a w ha hw => by
 have hA : bc w L (some ⟨b, o, none⟩) xs := hw.all _ hm;obtain ⟨b', o', e, hb, hc⟩ := hA (by omega);cases e;obtain ⟨p, h0, h1, hx⟩ := hc i hi;rw [<- cW hi] at hx;have hS : (En.ls L (some ⟨b, o, none⟩) xs).S b := ⟨by omega, o, rfl⟩;exact k p a w ha (((hw.pure (e := .at L (av p) (gi xs i)) hx (fun _ h => h)).cellOf (List.mem_cons_of_mem _ hm) rfl hS h1).cellOf (List.mem_cons_of_mem _ (List.mem_cons_of_mem _ hm)) rfl hS h0)
theorem wX {e : En} (he : ∀ w, Fr S0 w0 w es -> e.F w) (k : fJ ds P n S0 w0 c Q ls (e :: es)) (hS : ∀ b, ¬ e.S b := by intro b h; exact h) : fJ ds P n S0 w0 c Q ls es := fun a w ha hw => k a w ha (hw.pure (he w hw) hS)
end
section
variable {ops : Array Oper} {Q : Exit -> Act -> World -> Prop} {ds : List Deferred} {S0 : Nat -> Prop} {w0 : World} {E0 : List En} {hd : List (List Nat)} {n j s : Nat} {l : List Nat} {G E : List En} {ls : List (Nat × Value)} {op : Op} {ty : TypeId} {pos : String} {af : Array Edge}
theorem mN {sl sc : Operand} {a b : Int} {kl kc : IntKind} (x y : Nat) (hx : a = x) (hy : b = y) (hxy : x <= y) (hb : y <= 8796093022208) (k : ∀ g, dZ ds ⟨Tryz.prog, ops, Q, S0, w0, E0, hd⟩ n l (.row g 40 (rn (List.replicate y p0) []) :: G) E ((s, .slice (some ⟨g, 0, none⟩) x y) :: ls))
 (ho : ops[j]? = some ⟨some s, .makeSlice 22 sl sc, ty, pos, af, none⟩ := by rfl) (hk : (et ls (.makeSlice 22 sl sc) && Nat.blt s n) = true := by kernel_rfl)
 (h1 : dJ ls sl = .int kl a := by (simp only [cJ, Nat.reduceEqDiff, ↓reduceIte]) <;> rfl) (h2 : dJ ls sc = .int kc b := by (simp only [cJ, Nat.reduceEqDiff, ↓reduceIte]) <;> rfl) : dZ ds ⟨Tryz.prog, ops, Q, S0, w0, E0, hd⟩ n (j :: l) G E ls := fun A hA => by
 simp only [Bool.and_eq_true] at hk;refine ⟨_, ho, .inr (.inl ⟨rfl, rfl, fun g => .slice (some ⟨g, 0, none⟩) x y, 40, rn (List.replicate y p0) [], ⟨rfl, fun w => ?_⟩, fun g => k g _ (hA.put (Nat.le_of_ble_eq_true hk.2) _)⟩)⟩;rw [hA.exec (o := ⟨some s, .makeSlice 22 sl sc, ty, pos, af, none⟩) hk.1];obtain ⟨i, hi, hz, hs, hbt⟩ := info_parts kW;subst hx hy;have hr := run_make (P := Tryz.prog) w 22 40 i (.agg #[.bool false, .slice none 0 0]) Tryz.underlying22 hi hz kl kc x y (by omega) (by omega) (by rw [hbt]; omega) (by omega);simp only [Int.toNat_natCast] at hr;have e : madeCells (Value.agg #[.bool false, .slice none 0 0]).cells (y * i.size) = (rn (List.replicate y p0) []).toArray := by
  have := pZ y;rw [hs, rn, List.append_nil, <- this]
 simp [execOp, h1, h2, hr, Result.andThen, e]
theorem sN {b i : Nat} {ps ps' : List P4} {tl : List Value} {ad x : Operand} {sty : TypeId} {E' : List En} (q : Nat) (p : P4) (hq : q < ps.length) (ht : aK tl) (hs : ps.set q p = ps')
 (k' : dZ ds ⟨Tryz.prog, ops, Q, S0, w0, E0, hd⟩ n l G E' ls)
 (ho : ops[j]? = some ⟨none, .store sty ad x, ty, pos, af, none⟩ := by rfl) (hk : et ls (.store sty ad x) = true := by kernel_rfl)
 (ha : dJ ls ad = .pointer (some ⟨b, q * 2, none⟩) := by (simp only [cJ, Nat.reduceEqDiff, ↓reduceIte]) <;> rfl)
 (hv : dJ ls x = .agg #[.bool p.1, .slice p.2.1 p.2.2.1 p.2.2.2] := by (simp only [cJ, Nat.reduceEqDiff, ↓reduceIte, av]) <;> rfl)
 (hE : Up (.row b 40 (rn ps tl)) (.row b 40 (rn ps' tl)) i E E' := by repeat first | exact .z | apply Up.s)
 (hr : ∀ w u v, w.cell? ⟨b, q * 2, none⟩ = some u -> w.cell? ⟨b, q * 2 + 1, none⟩ = some v -> w.frozen? ⟨b, q * 2, none⟩ = false -> w.frozen? ⟨b, q * 2 + 1, none⟩ = false -> (execOp (dJ ls) ⟨none, .store sty ad x, ty, pos, af, none⟩).run Tryz.prog w = .ok .skip (qB w b (q * 2) [.bool p.1, .slice p.2.1 p.2.2.1 p.2.2.2]) := by intro w u v c0 c1 f0 f1; (try simp only [av]); go_simp <;> rfl)
 (hst : fV ops hd j [i] = true := by kernel_rfl) : dZ ds ⟨Tryz.prog, ops, Q, S0, w0, E0, hd⟩ n (j :: l) G E ls := fun a hA => by
 subst hs;refine ⟨_, ho, .inr (.inr ⟨rfl, rfl, Unit, fun _ => undef, fun _ => G, fun _ => E', [i], ⟨()⟩, fun X w hX hw => ?_, hst, fun _ r hr => hE.other (by simpa using hr), fun _ => k' _ (hA.BC _)⟩)⟩;obtain ⟨m, h1, h2⟩ := hE.right' X G;have hrow : a6 w b 40 (rn ps tl) := (hw.perm h1).all _ (List.mem_cons_self ..);refine AN rfl ?_;show oU _ _ ((execOp a.eval _).run _ w);rw [hA.exec (o := ⟨none, .store sty ad x, ty, pos, af, none⟩) hk, hr w _ _ ((hrow.cell _).trans (Bf tl hq)) ((hrow.cell _).trans (Bi tl hq)) (hrow.free _) (hrow.free _)];exact ⟨(), rfl, hw.st (t := 40) _ _ (.inl ⟨aK.rn ht, by decide⟩) h1 (by rw [BL tl hq]; exact h2)⟩
end
theorem Fr.conv {S0 : Nat -> Prop} {w0 w : World} {es : List En} {e e' : En} (h : Fr S0 w0 w (e :: es)) (h1 : e.F w -> e'.F w) (h2 : ∀ b, e'.S b -> e.S b) (h3 : e'.wr = true -> e.wr = true) : Fr S0 w0 w (e' :: es) := by
 have hp := List.pairwise_cons.1 h.sep;exact h.tl.cons (h1 h.m0) (fun x hx => ⟨fun q b hb => (hp.1 x hx).1 (h3 q) b (h2 b hb), fun q b hb hb' => (hp.1 x hx).2 q b hb (h2 b hb')⟩) (fun q b hb => h.own e (List.mem_cons_self ..) (h3 q) b (h2 b hb))
section
variable {P : Program} {Q : Exit -> Act -> World -> Prop} {ds : List Deferred} {S0 : Nat -> Prop} {w0 : World} {n : Nat} {ls : List (Nat × Value)} {es : List En} {c : Code}
end
theorem Ag {ps : List P4} {tl : List Value} {cap : Nat} (hl : (rn ps tl).length = cap * 2) (h : ps.length < cap) (p : P4) : iZ (rn ps tl) (ps.length * 2) [.bool p.1, .slice p.2.1 p.2.2.1 p.2.2.2] = rn (ps ++ [p]) (tl.drop 2) := by
 have hf := bL ps;obtain ⟨a, b, t, rfl⟩ : ∃ a b t, tl = a :: b :: t := by
  rw [rn, List.length_append] at hl;match tl, hl with
  | [], h => simp at h; omega
  | [_], h => simp at h; omega
  | a :: b :: t, _ => exact ⟨a, b, t, rfl⟩
 simp only [iZ, rn];rw [List.set_append_right _ _ (by omega), List.set_append_right _ _ (by omega), jw, show ps.length * 2 - (flat ps).length = 0 by omega, show ps.length * 2 + 1 - (flat ps).length = 1 by omega];simp [flat]
theorem aO.yT (T : Nat -> Prop) (w : World) (o : Obj) : aO T w (w.drew.alloc o) := aO.bF ⟨rfl, rfl, rfl, by simp, fun q hq => tM w _ hq⟩
theorem zZ {w : World} {ty : TypeId} {ao : Option Addr} {k cap : Nat} {ps : List P4} (h : uD ao k cap ps w) (hb : k <= 100000000) {ad : Addr} {c : Nat} {p : P4} (h0 : w.cell? ad = some (.bool p.1)) (h1 : w.cell? (ad.add 1) = some (.slice p.2.1 p.2.2.1 p.2.2.2)) :
 ∃ ao' cap' w', (Builtin.append_ #[22, 22] ty #[.slice ao k cap, .slice (some ad) 1 c]).run Tryz.prog w = .ok (.slice ao' (k + 1) cap') w' /\ uD ao' (k + 1) cap' (ps ++ [p]) w' /\ aO (fun g => ∃ o, ao = some ⟨g, o, none⟩) w w' /\ ∀ g, (∃ o, ao' = some ⟨g, o, none⟩) -> (∃ o, ao = some ⟨g, o, none⟩) \/ w.heap.size <= g := by
 obtain ⟨i, hi, hz, hsz, hby⟩ := info_parts kW;have hn : ∀ j u, [Value.bool p.1, .slice p.2.1 p.2.2.1 p.2.2.2][j]? = some u -> w.cell? (ad.add j) = some u := fun j u hj => by
  match j, hj with
  | 0, hj => cases hj; simpa [Addr.add] using h0
  | 1, hj => cases hj; exact h1
 have hsrc : Src Tryz.prog i.size 22 (.slice (some ad) 1 c) 1 [Value.bool p.1, .slice p.2.1 p.2.2.1 p.2.2.2] w := Src.ofSlice w Tryz.underlying22 ad 1 c _ (by rw [hsz]; rfl) hn (by simp [Value.oneCell']);obtain ⟨hk, hkc, hrow⟩ := h;by_cases hroom : k < cap
 . obtain ⟨_, h⟩ | ⟨b, tl, rfl, ht, hr, hl⟩ := hrow
   . omega
   subst hk;have hex : ∀ j, j < cap * 2 -> (w.cell? ⟨b, j, none⟩).isSome = true := fun j hj => by rw [hr.cell, List.getElem?_eq_getElem (by omega)]; rfl
   refine ⟨_, _, _, run_append_room_src w 22 22 ty 40 i Tryz.underlying22 hi b 0 ps.length cap _ 1 _ hsrc (by omega) (fun j hj => hex _ ?_) (fun j _ => hr.free _), ?_, ?_, fun g hg => .inl hg⟩
   . rw [hsz]; simp at hj; omega
   . rw [hsz, Nat.zero_add];have h2 := hr.qB [.bool p.1, .slice p.2.1 p.2.2.1 p.2.2.2] (ps.length * 2);rw [Ag hl hroom] at h2;refine ⟨by simp, by omega, .inr ⟨b, tl.drop 2, rfl, fun v hv => ht v (List.mem_of_mem_drop hv), h2, ?_⟩⟩;have hf := bL ps;rw [rn, List.length_append] at hl;rw [rn, List.length_append, bL]; simp; omega
   . rw [hsz, Nat.zero_add];exact (aO.qB [.bool p.1, .slice p.2.1 p.2.2.1 p.2.2.2] (ps.length * 2) (aO.refl (· = b) w)).mono (fun g _ e => by obtain rfl : g = b := e; exact ⟨0, rfl⟩)
 . obtain rfl : k = cap := by omega
   have hf := bL ps;have hold : (Builtin.firstCells i.size k (.slice ao k k)).run Tryz.prog w.drew = .ok (flat ps).toArray w.drew := by
    obtain ⟨rfl, h⟩ | ⟨b, tl, rfl, ht, hr, hl⟩ := hrow
    . obtain rfl : ps = [] := List.eq_nil_of_length_eq_zero (by omega);exact run_firstCells_none w.drew i.size k k k
    . refine run_firstCells_some w.drew i.size k _ k k (flat ps) (by rw [hsz]; omega) fun j v hj => ?_;have e : w.drew.cell? ((⟨b, 0, none⟩ : Addr).add j) = w.cell? ⟨b, j, none⟩ := by simp only [Addr.add]; by_cases hj0 : j = 0 <;> simp [hj0]
      rw [e, hr.cell, rn, List.getElem?_append_left (List.getElem?_eq_some_iff.1 hj).1]; exact hj
   refine ⟨_, _, _, run_append_grow_src w 22 22 ty 40 i (.agg #[.bool false, .slice none 0 0]) Tryz.underlying22 hi hz ao k k (flat ps) hold _ 1 _ hsrc (by omega) (by omega) (growslice_fits (by omega) (by rw [hby]; omega)), ⟨by simp [hk], grownCap_ge .., .inr ⟨_, (Builtin.zeroCells (Value.agg #[.bool false, .slice none 0 0]).cells (grownCap w (k + 1) k 40 - (k + 1))).toList, rfl, wC _, ?_, ?_⟩⟩, aO.yT _ w _, fun g ⟨o, e⟩ => by cases e; exact .inr (Nat.le_refl _)⟩
   . have hnew := a6.new w.drew ((flat ps ++ [Value.bool p.1, .slice p.2.1 p.2.2.1 p.2.2.2]).toArray ++ Builtin.zeroCells (Value.agg #[.bool false, .slice none 0 0]).cells (grownCap w (k + 1) k 40 - (k + 1))) 40;rw [rn, jw];simpa [flat] using hnew
   . have hge := grownCap_ge w (k + 1) k 40;have hz2 : (Builtin.zeroCells (Value.agg #[.bool false, .slice none 0 0]).cells (grownCap w (k + 1) k 40 - (k + 1))).toList.length = (grownCap w (k + 1) k 40 - (k + 1)) * 2 := by rw [Array.length_toList, size_zeroCells]; rfl
     rw [rn, List.length_append, bL, List.length_append, hz2]; simp; omega
section
variable {ops : Array Oper} {Q : Exit -> Act -> World -> Prop} {ds : List Deferred} {S0 : Nat -> Prop} {w0 : World} {E0 : List En} {hd : List (List Nat)} {n j s : Nat} {l : List Nat} {G E : List En} {ls : List (Nat × Value)} {op : Op} {ty : TypeId} {pos : String} {af : Array Edge}
theorem appN {i k cap g : Nat} {ao : Option Addr} {ps : List P4} {t : TypeId} {c : Nat} (p : P4) {sa xa : Operand} {E' : Option Addr × Nat -> List En} (hb : k <= 100000000)
 (hm : En.row g t [.bool p.1, .slice p.2.1 p.2.2.1 p.2.2.2] ∈ G ++ E)
 (k' : ∀ q, dZ ds ⟨Tryz.prog, ops, Q, S0, w0, E0, hd⟩ n l G (E' q) ((s, .slice q.1 (k + 1) q.2) :: ls))
 (ho : ops[j]? = some ⟨some s, .call { callee := Callee.builtin Builtin.append, args := #[sa, xa], argTypes := #[22, 22] }, ty, pos, af, none⟩ := by rfl) (hk : (et ls (.call { callee := Callee.builtin Builtin.append, args := #[sa, xa], argTypes := #[22, 22] }) && Nat.blt s n) = true := by kernel_rfl)
 (ha : dJ ls sa = .slice ao k cap := by (simp only [cJ, Nat.reduceEqDiff, ↓reduceIte]) <;> rfl)
 (hv : dJ ls xa = .slice (some ⟨g, 0, none⟩) 1 c := by (simp only [cJ, Nat.reduceEqDiff, ↓reduceIte, av]) <;> rfl)
 (hE : ∀ q, Up (.vZ ao k cap ps) (.vZ q.1 (k + 1) q.2 (ps ++ [p])) i E (E' q) := by intro q; repeat first | exact .z | apply Up.s)
 (hst : fV ops hd j [i] = true := by kernel_rfl) : dZ ds ⟨Tryz.prog, ops, Q, S0, w0, E0, hd⟩ n (j :: l) G E ls := fun a hA => by
 simp only [Bool.and_eq_true] at hk;refine ⟨_, ho, .inr (.inr ⟨rfl, rfl, Option Addr × Nat, fun q => .slice q.1 (k + 1) q.2, fun _ => G, E', [i], ⟨(none, 0)⟩, fun X w hX hw => ?_, hst, fun q r hr => (hE q).other (by simpa using hr), fun q => k' q _ (hA.put (Nat.le_of_ble_eq_true hk.2) _)⟩)⟩;have hrow : a6 w g t [.bool p.1, .slice p.2.1 p.2.2.1 p.2.2.2] := hw.all _ (List.mem_append_right _ hm);have hl : uD ao k cap ps w := by
  obtain ⟨m, h1, h2⟩ := (hE (none, 0)).right' X G;exact (hw.perm h1).all _ (List.mem_cons_self ..)
 obtain ⟨ao', cap', w', hrun, h1', hc, hS⟩ := zZ (ty := ty) hl hb (ad := ⟨g, 0, none⟩) (c := c) (hrow.cell 0) (hrow.cell 1);obtain ⟨m, h1, h2⟩ := (hE (ao', cap')).right' X G;refine AN rfl ?_;show oU _ _ ((execOp a.eval _).run _ w);rw [hA.exec (o := ⟨some s, .call { callee := Callee.builtin Builtin.append, args := #[sa, xa], argTypes := #[22, 22] }, ty, pos, af, none⟩) hk.1];have e : (execOp (dJ ls) ⟨some s, .call { callee := Callee.builtin Builtin.append, args := #[sa, xa], argTypes := #[22, 22] }, ty, pos, af, none⟩).run Tryz.prog w = .ok (.value (.slice ao' (k + 1) cap')) w' := by
  simp [execOp, resolve, invoke, builtin, ha, hv, hrun, Result.andThen]
 rw [e];refine ⟨(ao', cap'), rfl, Fr.perm ((hw.perm h1).dm (e := .vZ ao k cap ps) (e' := .vZ ao' (k + 1) cap' (ps ++ [p])) rfl hc (fun x hx _ => ?_) (fun _ h => h) h1' hS) h2.symm⟩;rintro b ⟨o, rfl⟩;obtain ⟨_, _, ⟨h, _⟩ | ⟨b', tl, h, ht, hr, _⟩⟩ := hl
 . cases h
 . cases h; exact ⟨_, _, hr, aK.rn ht, by decide⟩
end
theorem ct.aB {w : World} {B : Nat} {ao : Option Addr} {len cap : Nat} {ws : List Nat} (h : ct w B ao len cap ws) {g o : Nat} (e : ao = some ⟨g, o, none⟩) : B <= g := by
 obtain ⟨_, _, _, ⟨h4, _⟩ | ⟨g', c, cur, hv, hb, _⟩⟩ := h
 . cases h4; cases e
 . cases hv; cases e; exact hb
section
variable {P : Program} {ops : Array Oper} {Q : Exit -> Act -> World -> Prop} {ds : List Deferred} {S0 : Nat -> Prop} {w0 : World} {E0 : List En} {hd : List (List Nat)} {n j s : Nat} {l : List Nat} {G E : List En} {ls : List (Nat × Value)} {op : Op} {ty : TypeId} {pos : String} {af : Array Edge} {f : FuncId} {args : Array Value}
theorem cW1 {m : Nat} (c : ∀ w, Fr S0 w0 w (G ++ E) -> Calls P f args w fun e w' => (∃ ao cap, e = .returned (.slice ao (aa m) cap) /\ ct w' w.heap.size ao (aa m) cap (ew m)) /\ Below w.heap.size w w')
 (k : ∀ ao cap, dZ ds ⟨P, ops, Q, S0, w0, E0, hd⟩ n l (.ow w0.heap.size ao m cap :: .j3 ao (ew m) :: G) E ((s, .slice ao (aa m) cap) :: ls))
 (ho : ops[j]? = some ⟨some s, op, ty, pos, af, none⟩ := by rfl) (hk : (!bY op && !dx op && et ls op && Nat.blt s n) = true := by kernel_rfl)
 (hr : ∀ w, (execOp (dJ ls) ⟨some s, op, ty, pos, af, none⟩).run P w = .ok (.enter f args) w := by intro w; (try simp only [av]); go_simp <;> with_reducible rfl)
 (hst : fV ops hd j [] = true := by kernel_rfl) : dZ ds ⟨P, ops, Q, S0, w0, E0, hd⟩ n (j :: l) G E ls := by
 refine cG (α := Option Addr × Nat) (mk := fun p => .slice p.1 (aa m) p.2) (ens := fun p => [.ow w0.heap.size p.1 m p.2, .j3 p.1 (ew m)]) (fun w hw => (c w hw).mono ?_) (fun p => k p.1 p.2) ho hk hr ⟨(none, 0)⟩ hst;rintro e w' ⟨⟨ao, cap, rfl, hv⟩, hb⟩;exact ⟨(ao, cap), rfl, hb, fun e he => by
  rcases List.mem_cons.1 he with rfl | he
  . exact ⟨hv.mono hw.size, fun _ h => h.elim⟩
  . rcases List.mem_singleton.1 he with rfl;exact ⟨hv.at_, fun b ⟨_, o, e⟩ => hv.aB e⟩, List.pairwise_pair.2 ⟨(fun h => nomatch h), (fun h => nomatch h)⟩⟩
end
section
variable {P : Program} {Q : Exit -> Act -> World -> Prop} {ds : List Deferred} {S0 : Nat -> Prop} {w0 : World} {n : Nat} {ls : List (Nat × Value)} {es : List En} {c : Code}
theorem posW {ao : Option Addr} {ws : List Nat} (hm : En.j3 ao ws ∈ es) (hl : 0 < ws.length) (k : ∀ b o, ao = some ⟨b, o, none⟩ -> fJ ds P n S0 w0 c Q ls es) : fJ ds P n S0 w0 c Q ls es := fun a w ha hw => by
 have hA : cU w ao ws := hw.all _ hm;obtain ⟨b, o, e, _⟩ := hA.2 hl;exact k b o e a w ha hw
theorem vB {ws : List Nat} {b o : Nat} (hm : En.j3 (some ⟨b, o, none⟩) ws ∈ es) (hi : 0 < ws.length) (k : fJ ds P n S0 w0 c Q ls (.cell ⟨b, o, none⟩ (.int .u64 ((gw ws 0 : Nat) : Int)) :: es)) : fJ ds P n S0 w0 c Q ls es :=
 wordW 0 hm hi k
end
section
variable {P : Program} {ops : Array Oper} {Q : Exit -> Act -> World -> Prop} {ds : List Deferred} {S0 : Nat -> Prop} {w0 : World} {E0 : List En} {hd : List (List Nat)} {n j s : Nat} {l : List Nat} {G E : List En} {ls : List (Nat × Value)} {op : Op} {ty : TypeId} {pos : String} {af : Array Edge} {f : FuncId} {args : Array Value}
theorem bW {t : TypeId} {cs : List Value} {m : Nat} (k : ∀ g, dZ ds ⟨P, ops, Q, S0, w0, E0, hd⟩ n l (.row g t cs :: G) E ((s, .slice (some ⟨g, 0, none⟩) m m) :: ls))
 (ho : ops[j]? = some ⟨some s, op, ty, pos, af, none⟩ := by rfl) (hk : (!bY op && dx op && et ls op && Nat.blt s n) = true := by kernel_rfl)
 (hr : ∀ w, (execOp (dJ ls) ⟨some s, op, ty, pos, af, none⟩).run P w = .ok (.value (.slice (some ⟨w.heap.size, 0, none⟩) m m)) (w.alloc (.cells cs.toArray t (0, 0))) := by intro w; (try simp only [av]); go_simp <;> with_reducible rfl) : dZ ds ⟨P, ops, Q, S0, w0, E0, hd⟩ n (j :: l) G E ls := fun a ha => by
 simp only [Bool.and_eq_true, Bool.not_eq_true'] at hk;refine ⟨_, ho, .inr (.inl ⟨hk.1.1.1, hk.1.1.2, fun g => .slice (some ⟨g, 0, none⟩) m m, t, cs, ⟨rfl, fun w => ?_⟩, fun g => k g _ (ha.put (Nat.le_of_ble_eq_true hk.2) _)⟩)⟩;rw [ha.exec hk.1.2];exact hr w
theorem cW2 {m q : Nat} {z : Value} (c : ∀ w, Fr S0 w0 w (G ++ E) -> Calls P f args w fun e w' => (∃ ao ca bo cb, e = .returned (.tuple #[.slice ao (aa m) ca, .slice bo (aa q) cb, z]) /\ ct w' w.heap.size ao (aa m) ca (ew m) /\ ct w' w.heap.size bo (aa q) cb (ew q)) /\ Below w.heap.size w w')
 (k : ∀ ao ca bo cb, dZ ds ⟨P, ops, Q, S0, w0, E0, hd⟩ n l (.ow w0.heap.size ao m ca :: .j3 ao (ew m) :: .ow w0.heap.size bo q cb :: .j3 bo (ew q) :: G) E ((s, .tuple #[.slice ao (aa m) ca, .slice bo (aa q) cb, z]) :: ls))
 (ho : ops[j]? = some ⟨some s, op, ty, pos, af, none⟩ := by rfl) (hk : (!bY op && !dx op && et ls op && Nat.blt s n) = true := by kernel_rfl)
 (hr : ∀ w, (execOp (dJ ls) ⟨some s, op, ty, pos, af, none⟩).run P w = .ok (.enter f args) w := by intro w; (try simp only [av]); go_simp <;> with_reducible rfl)
 (hst : fV ops hd j [] = true := by kernel_rfl) : dZ ds ⟨P, ops, Q, S0, w0, E0, hd⟩ n (j :: l) G E ls := by
 refine cG (α := (Option Addr × Nat) × Option Addr × Nat) (mk := fun p => .tuple #[.slice p.1.1 (aa m) p.1.2, .slice p.2.1 (aa q) p.2.2, z]) (ens := fun p => [.ow w0.heap.size p.1.1 m p.1.2, .j3 p.1.1 (ew m), .ow w0.heap.size p.2.1 q p.2.2, .j3 p.2.1 (ew q)]) (fun w hw => (c w hw).mono ?_) (fun p => k p.1.1 p.1.2 p.2.1 p.2.2) ho hk hr ⟨((none, 0), (none, 0))⟩ hst;rintro e w' ⟨⟨ao, ca, bo, cb, rfl, hv, hv'⟩, hb⟩;refine ⟨((ao, ca), (bo, cb)), rfl, hb, fun e he => ?_, ?_⟩
 . simp only [List.mem_cons, List.not_mem_nil, or_false] at he;rcases he with rfl | rfl | rfl | rfl
   . exact ⟨hv.mono hw.size, fun _ h => h.elim⟩
   . exact ⟨hv.at_, fun b ⟨_, o, e⟩ => hv.aB e⟩
   . exact ⟨hv'.mono hw.size, fun _ h => h.elim⟩
   . exact ⟨hv'.at_, fun b ⟨_, o, e⟩ => hv'.aB e⟩
 . refine (List.pairwise_of_forall_mem_list (r := Ap) (l := [En.ow w0.heap.size ao m ca, .j3 ao (ew m), .ow w0.heap.size bo q cb, .j3 bo (ew q)]) fun a ha b hb => ?_);simp only [List.mem_cons, List.not_mem_nil, or_false] at ha hb;rcases ha with rfl | rfl | rfl | rfl <;> rcases hb with rfl | rfl | rfl | rfl <;> exact ⟨(fun h => nomatch h), (fun h => nomatch h)⟩
end
theorem l6 {ws : List Nat} (h : Ok ws) : aa (a7 ws) <= ws.length := by rw [bU h]; exact aH ws
theorem Cr {B m cap : Nat} {ao : Option Addr} {w : World} (h : ct w B ao (aa m) cap (ew m)) : ae w B (.agg #[.bool false, .slice ao (aa m) cap]) (m : Int) := ae.mk false h
theorem bc.pos {w : World} {L : Nat} {ao : Option Addr} {xs : List Int} (h : bc w L ao xs) {i : Nat} (hi : i < xs.length) : ∃ b o, ao = some ⟨b, o, none⟩ := by
 obtain ⟨b, o, e, _⟩ := h (by omega);exact ⟨b, o, e⟩
theorem vo {w : World} {ao : Option Addr} {k cap : Nat} {ps : List P4} {xs : List Int} (h : uD ao k cap ps w) (hn : dA w ps xs) : dw w ao xs := fun hl => by
 obtain ⟨h1, _, ⟨_, h2⟩ | ⟨b, tl, rfl, ht, hr, _⟩⟩ := h
 . have := hn.1; omega
 . exact (aJ.mk' hr ht hn).x4 hl
theorem xc {ls : List (Nat × Value)} {w : World} {t b : Nat} {x y z : Value} (h : a6 w b 24 [x, y, z]) (h1 : eG ls (.tmp t) = true := by kernel_rfl) (h2 : dJ ls (.tmp t) = .pointer (some ⟨b, 0, none⟩) := by (simp only [cJ, Nat.reduceEqDiff, ↓reduceIte]) <;> rfl) : jH Tryz.prog ls w (.cell t 24) (.agg #[x, y, z]) :=
 ⟨h1, _, h2, run_loadVar_row w b 24 24 #[x, y, z] (0, 0) _ h Tryz.underlying24 rfl (by kernel_rfl)⟩
theorem Cu (v u : Value) (x y : Nat) (w : World) (hA : a8 w 17592186044415 v x) (hB : a8 w 17592186044415 u y) (hy : y ≠ 0) :
 Calls Tryz.prog 84 #[v, u] w fun e w' => (∃ v' u', e = .returned (.tuple #[v', u', .int .i64 0]) /\ ae w' w.heap.size v' ((x / y : Nat) : Int) /\ ae w' w.heap.size u' ((x % y : Nat) : Int)) /\ Below w.heap.size w w' :=
 nN v u x y w hA hB (by omega)
theorem wW {x : Int} (h : aP x < 0) : x < 0 := by
 unfold aP at h; split at h
 . assumption
 . split at h <;> omega
structure ExtX where
 r : Nat
 k : Nat
 m : Int
 l : Int
 p : P4
 q : P4
 s : P4
 t : P4
theorem Cm (v u : Value) (a b : Int) (w : World) (hA : a8 w 4398046511103 v a) (hB : a8 w 4398046511103 u b) :
 Calls Tryz.prog 118 #[v, u] w fun e w' => (∃ g x y vg vx vy, e = .returned (.tuple #[vg, vx, vy]) /\ fM a b g x y /\ ae w' w.heap.size vg g /\ ae w' w.heap.size vx x /\ ae w' w.heap.size vy y) /\ Below w.heap.size w w' := by
 have hla := hA.aa;have hlb := hB.aa;obtain ⟨p, rfl⟩ := hA.parts;obtain ⟨q, rfl⟩ := hB.parts;have hA0 := hA;have hA := hA.mono (L' := 17592186044415) (by omega);have hB := hB.mono (L' := 17592186044415) (by omega);have hsa := mG a;refine bJ (S0 := fun _ => False) Tryz.func118 (((Fr.nil _ w).i hA).i hB) ?_;refine ak ?_;refine aW fun g2 => ?_;refine aW fun g3 => ?_;refine aW fun g4 => ?_;refine aW fun g5 => ?_;refine aW fun g6 => ?_;refine eW ?_;refine ak ?_;refine dW ?_;refine cV (fun w H => cw _ b w H.m5) ?_;refine az ?_;refine lF (fun h => ?_) (fun h => ?_)
 . refine kR ?_;refine rW [[], [], [], [], [], [1, 2]] ?_;refine dH ?_;refine cN (fun w H => kK _ a w H.m6) fun p1 => ?_;refine dH ?_;refine cV (fun w H => cw _ a w H.m7) ?_;refine cN (fun w H => iA (aP a) w (by omega) (by omega)) fun p2 => ?_;refine dH ?_;(iterate 3 refine sW ?_);refine fg ?_;refine oK fun w H => ?_;obtain rfl : b = 0 := cK.1 (by simpa using h);exact ⟨_, _, _, ka H.m4, ka H.m3, ka H.m2, ⟨_, _, _, _, _, _, rfl, ue a, H.m1, H.m0, ae.zero _ _⟩, H.below⟩
 refine ak ?_;refine dW ?_;refine cN (fun w H => kK _ a w H.m6) fun p1 => ?_;refine dW ?_;refine cN (fun w H => kK _ b w H.m6) fun p2 => ?_;refine dW ?_;refine aW fun g7 => ?_;refine sG ?_;refine eW ?_;refine ak ?_;refine cN (fun w H => iA 1 w (by omega) (by omega)) fun p3 => ?_;refine cN (fun w H => iA 0 w (by omega) (by omega)) fun p4 => ?_;refine dW ?_;refine aW fun g8 => ?_;refine sG ?_;refine fg ?_;have hb0 : b ≠ 0 := fun e => by rw [cK.2 e] at h; cases h
 refine di (X := ExtX) (fun x => mY a.natAbs b x.r x.k x.m x.l /\ x.r <= max a.natAbs b.natAbs /\ x.k <= max a.natAbs b.natAbs) (·.k) (fun _ => [(8, .pointer (some ⟨g8, 0, none⟩)), (7, .pointer (some ⟨g7, 0, none⟩)), (6, .pointer (some ⟨g6, 0, none⟩)), (5, .pointer (some ⟨g5, 0, none⟩)), (4, .pointer (some ⟨g4, 0, none⟩)), (3, .pointer (some ⟨g3, 0, none⟩)), (2, .pointer (some ⟨g2, 0, none⟩))])
  (fun x => [.row g8 160 (cl x.s ++ cl x.t), .own w.heap.size (av x.t) x.l, .own w.heap.size (av x.s) x.m, .row g7 160 (cl x.p ++ cl x.q), .own w.heap.size (av x.q) x.k, .own w.heap.size (av x.p) x.r, .row g6 40 (cl p0), .row g5 40 (cl p0), .row g4 40 (cl p0), .row g3 40 (cl q), .row g2 40 (cl p), .at 17592186044415 (av q) b, .at 17592186044415 (av p) a])
  ⟨a.natAbs, b.natAbs, 1, 0, p1, p2, p3, p4⟩ ⟨mY.start _ hb0, Nat.le_max_left .., Nat.le_max_right ..⟩ (fun x hx => ?_)
 . have hmx : aa (max a.natAbs b.natAbs) <= 4398046511103 := by rcases Nat.le_total a.natAbs b.natAbs with h | h <;> simp [Nat.max_eq_left, Nat.max_eq_right, h, hla, hlb]
   obtain ⟨hE, hr, hk⟩ := hx;have br : aa ((x.r : Nat) : Int).natAbs <= 4398046511103 := Nat.le_trans (aF hr) hmx;have bk : aa ((x.k : Nat) : Int).natAbs <= 4398046511103 := Nat.le_trans (aF hk) hmx;have bm : aa x.m.natAbs <= 4398046511103 := Nat.le_trans (aF hE.k0) hlb;have bl : aa x.l.natAbs <= 4398046511103 := Nat.le_trans (aF hE.k1) hlb;refine ak ?_;refine dr ?_;refine cV (fun w H => cw _ x.k w (ae.int H.m4 (by omega))) ?_;refine az ?_;refine lF (fun h => ?_) (fun h => ?_)
   . have hk0 : x.k ≠ 0 := fun e => by rw [e] at h; cases h
     refine ak ?_;refine aI ?_;refine dW ?_;refine cN2 (fun w H => Cu _ _ x.r x.k w (ae.int H.m5 (by omega)) (ae.int H.m4 (by omega)) (by omega)) fun p5 p6 => ?_;refine aI ?_;refine dW ?_;refine aW fun g9 => ?_;refine aW fun g10 => ?_;refine sG ?_;refine sG ?_;refine az ?_;refine rW [] ?_;refine aI ?_;refine dr ?_;have hs := hE.step hk0;have bq : aa ((x.r / x.k : Nat) : Int).natAbs <= 4398046511103 := Nat.le_trans (aF (Nat.le_trans (Nat.div_le_self ..) hr)) hmx;have bn := Nat.le_trans (aF hs.k1) hlb;refine cN (x := ((x.r / x.k : Nat) : Int) * x.l) (fun w H => ie _ _ _ _ 4398046511103 4398046511103 w (ae.int H.m2 bq) (ae.int H.m5 bl) (by omega)) fun p7 => ?_;refine cN (fun w H => mg _ _ _ _ w (ae.int H.m7 (by omega)) (ae.int H.m0 (Nat.le_trans (by rw [Int.natAbs_mul]; exact eO ..) (by omega : _ <= 17592186044415)))) fun p8 => ?_;refine aW fun g12 => ?_;refine sG ?_;refine eW ?_;refine ak ?_;refine aI ?_;refine dW ?_;refine sW ?_;refine eW ?_;refine ak ?_;refine aI ?_;refine dW ?_;refine sW ?_;refine fg ?_;refine cI ⟨x.k, x.r % x.k, x.l, x.m - ((x.r / x.k : Nat) : Int) * x.l, x.q, p6, x.t, p8⟩ ⟨⟨hs, hk, Nat.le_trans (Nat.le_of_lt (Nat.mod_lt _ (by omega))) hk⟩, Nat.mod_lt _ (by omega)⟩
   . have hk0 : x.k = 0 := by
      have := cK.1 (by simpa using h : aP x.k = 0);omega
     rw [hk0] at hE;obtain ⟨hg, hd⟩ := hE.done hb0;have hmb := hE.k0;refine kR ?_;refine rW [[], [], [8], [8]] ?_;(iterate 4 refine dH ?_);refine sW ?_;refine sW ?_;refine eW ?_;refine ak ?_;refine dW ?_;refine cV (fun w H => cw _ a w H.m12) ?_;refine az ?_;refine xt (X := P4 × Int) (fun z => b ∣ (x.r : Int) - z.2 * a /\ aa z.2.natAbs <= 4398046511103) (fun _ => [(6, .pointer (some ⟨g6, 0, none⟩)), (5, .pointer (some ⟨g5, 0, none⟩)), (4, .pointer (some ⟨g4, 0, none⟩)), (3, .pointer (some ⟨g3, 0, none⟩)), (2, .pointer (some ⟨g2, 0, none⟩))])
      (fun z => [.own w.heap.size (av z.1) z.2, .own w.heap.size (av x.p) x.r, .row g6 40 (cl p0), .row g5 40 (cl z.1), .row g4 40 (cl x.p), .row g3 40 (cl q), .row g2 40 (cl p), .at 17592186044415 (av q) b, .at 17592186044415 (av p) a]) ?_ (fun z hz => ?_)
     . refine lF (fun h => ?_) (fun h => ?_)
       . have ha := wW (by simpa using h);rw [if_pos ha] at hd;refine ak ?_;refine dW ?_;refine cN (fun w H => iW _ x.m w (ae.int H.m2 (by omega))) fun p9 => ?_;refine sW ?_;refine fg ?_;exact oc (p9, -x.m) ⟨hd, by simpa using bm⟩
       . have ha : ¬ a < 0 := fun e => by
          have : aP a = -1 := by unfold aP; rw [if_pos e]
          rw [this] at h; cases h
         rw [if_neg ha] at hd;refine kR ?_;exact oc (x.s, x.m) ⟨hd, bm⟩
     . obtain ⟨pm, m⟩ := z;obtain ⟨h1, h2, h3, h4⟩ := ss hb0 hg hz.1;have bz : aa m.natAbs <= 4398046511103 := hz.2;have hr0 : (x.r : Int) ≠ 0 := fun e => hb0 (Int.zero_dvd.1 (e ▸ h1));have bq : aa (b / (x.r : Int)).natAbs <= 4398046511103 := Nat.le_trans (aF (Int.natAbs_ediv_le_natAbs _ _)) hlb;have bx : aa (m % (b / (x.r : Int))).natAbs <= 4398046511103 := Nat.le_trans (aF (by have := Int.emod_nonneg m h2; have := Int.emod_lt m h2; omega)) bq;refine ak ?_;refine dr ?_;refine Bx (fun w H => iN _ _ b x.r w H.m7 (ae.int H.m1 (by omega)) hr0 h1) fun p9 => ?_;refine aI ?_;refine aW fun g13 => ?_;refine sG ?_;refine az ?_;refine rW [[], [], [], [], [], [5]] ?_;refine dH ?_;refine dH ?_;refine Bx (fun w H => CT _ _ m _ w (ae.int H.m2 (by omega)) (ae.int H.m1 (by omega)) h2) fun p10 => ?_;(iterate 3 refine dH ?_);refine sW ?_;refine fg ?_;refine rW [[], [], [], [], [], [], [], [], [], [5]] ?_;(iterate 3 refine dH ?_);refine cN (fun w H => ie _ _ a _ 4398046511103 4398046511103 w (a8.below hA0 H.below) (ae.int H.m0 bx) (by omega)) fun p11 => ?_;have bp : aa (a * (m % (b / (x.r : Int)))).natAbs <= 8796093022206 := Nat.le_trans (by rw [Int.natAbs_mul]; exact eO ..) (by omega : _ <= 8796093022206);refine cN (fun w H => mg _ _ _ _ w (ae.int H.m5 (by omega)) (ae.int H.m0 (by omega))) fun p12 => ?_;refine dH ?_;have bs : aa ((x.r : Int) - a * (m % (b / (x.r : Int)))).natAbs <= 17592186044415 := by
        have h5 := aF (Int.natAbs_sub_le (x.r : Int) (a * (m % (b / (x.r : Int)))));have h6 := oA (x.r : Int).natAbs (a * (m % (b / (x.r : Int)))).natAbs;have h7 : max (aa (x.r : Int).natAbs) (aa (a * (m % (b / (x.r : Int)))).natAbs) <= 8796093022206 := Nat.max_le.2 ⟨by omega, bp⟩;omega
       refine Bx (fun w H => iN _ _ _ b w (ae.int H.m0 bs) H.m12 hb0 h3) fun p13 => ?_;(iterate 3 refine dH ?_);refine sW ?_;refine fg ?_;refine rW [[], [10], [10, 9]] ?_;(iterate 3 refine dH ?_);(iterate 3 refine sW ?_);refine fg ?_;refine oK fun w H => ?_;exact ⟨_, _, _, ka H.m10, ka H.m9, ka H.m8, ⟨_, _, _, _, _, _, rfl, h4, H.m7, H.m3, H.m0⟩, H.below⟩
theorem remGW (a b : Nat) : Value.int .u64 ((a : Int).tmod (b : Int)) = .int .u64 ((a % b : Nat) : Int) := by
 rw [Int.tmod_eq_emod_of_nonneg (Int.natCast_nonneg a), Int.natCast_emod]
theorem rq {n : Nat} (h0 : 0 < n) (h : n < W) : ew n = [n] := by
 have e := iC (Ok.one h);have hv : a7 [n] = n := by simp [a7]
 have hw : aa n = 1 := by
  have e1 : aa n ≠ 0 := fun e => by have := da.1 e; omega
  have e2 : aa n <= 1 := an (by simpa using h);omega
 have ht := bU (Ok.one h);rw [hv, hw] at ht;rw [hv, <- ht] at e;simpa using e
theorem n9 {n : Nat} (h0 : 0 < n) (h : n < W) : aa n = 1 := by
 have e1 : aa n ≠ 0 := fun e => by have := da.1 e; omega
 have e2 : aa n <= 1 := an (by simpa using h);omega
structure WdX where
 x : Nat
 y : Nat
structure WdI (g : Nat) (z : WdX) : Prop where
 hx : z.x < W
 hy : z.y < W
 h0 : 0 < g
 gcd : Nat.gcd z.x z.y = g
theorem xL (x y : Nat) (w : World) (hx : x < W) (hy : y < W) (h0 : 0 < Nat.gcd x y) :
 Calls Tryz.prog 101 #[.int .u64 (x : Int), .int .u64 (y : Int)] w fun e w' => (∃ o c, e = .returned (.slice o (aa (Nat.gcd x y)) c) /\ ct w' w.heap.size o (aa (Nat.gcd x y)) c (ew (Nat.gcd x y))) /\ Below w.heap.size w w' := by
 obtain ⟨g, hg⟩ : ∃ g, Nat.gcd x y = g := ⟨_, rfl⟩;rw [hg] at h0 |-;refine bJ (S0 := fun _ => False) Tryz.func101 (Fr.nil _ w) ?_;refine ak ?_;refine az ?_;refine di (X := WdX) (WdI g) (fun z => z.y) (fun z => [(0, .int .u64 (z.x : Int)), (1, .int .u64 (z.y : Int))]) (fun _ => []) ⟨x, y⟩ ⟨hx, hy, h0, hg⟩ fun z hz => ?_;obtain ⟨x, y⟩ := z;obtain ⟨hx, hy, h0, hg⟩ := hz;have hx : x < W := hx;have hy : y < W := hy;have hg : Nat.gcd x y = g := hg;by_cases hy0 : y = 0
 . subst hy0;obtain rfl : x = g := by rw [<- hg, Nat.gcd_zero_right]
   refine ak ?_;refine dW ?_;refine gY ?_;refine ak ?_;refine dW ?_;refine bW (m := 1) fun g12 => ?_;refine az ?_;refine cd fun w' H => ?_;rw [n9 h0 hx, rq h0 hx];exact ⟨_, cH, ⟨_, _, rfl, a6.own (ws := [x]) H.m0 (Ok.one hx) (H.own _ (List.mem_cons_self ..) rfl _ rfl |>.elim (fun h => h.elim) id) (by simp) rfl (by unfold maxLen; simp)⟩, H.below⟩
 . refine ak ?_;refine dW ?_;refine ix ?_;refine ak ?_;refine aI ?_;refine dE (remGW x y) ?_;refine dW ?_;refine az ?_;exact cI (⟨y, x % y⟩ : WdX) ⟨⟨hy, Nat.lt_of_lt_of_le (Nat.mod_lt _ (by omega)) (Nat.le_of_lt hy), h0, by show Nat.gcd y (x % y) = g; rw [<- hg, Nat.gcd_comm x y, Nat.gcd_rec y x, Nat.gcd_comm]⟩, Nat.mod_lt _ (by omega)⟩
structure GcX where
 xo : Option Addr
 cx : Nat
 x : Nat
 yo : Option Addr
 cy : Nat
 y : Nat
structure GcI (g : Nat) (z : GcX) : Prop where
 hx : aa z.x <= 17592186044415
 hy : aa z.y <= 17592186044415
 gcd : Nat.gcd z.x z.y = g
theorem Cx (ao bo : Option Addr) (la lb ca cb : Nat) (us vs : List Nat) (w : World) (hA : cU w ao us) (hB : cU w bo vs) (hla : la = us.length) (hlb : lb = vs.length) (hma : la <= 17592186044415) (hmb : lb <= 17592186044415) :
 Calls Tryz.prog 80 #[.slice ao la ca, .slice bo lb cb] w fun e w' => (∃ o c, e = .returned (.slice o (aa (Nat.gcd (a7 us) (a7 vs))) c) /\ ct w' w.heap.size o (aa (Nat.gcd (a7 us) (a7 vs))) c (ew (Nat.gcd (a7 us) (a7 vs)))) /\ Below w.heap.size w w' := by
 obtain ⟨g, hg⟩ : ∃ g, Nat.gcd (a7 us) (a7 vs) = g := ⟨_, rfl⟩;have wx : aa (a7 us) <= 17592186044415 := Nat.le_trans (l6 hA.ok) (hla ▸ hma);have wy : aa (a7 vs) <= 17592186044415 := Nat.le_trans (l6 hB.ok) (hlb ▸ hmb);rw [hg];refine bJ (S0 := fun _ => False) Tryz.func80 (Fr.nil _ w) ?_;refine ak ?_;refine az ?_;refine c9 ?_;refine cW1 (fun w' H => eC ao la ca us w' (hA.below H.below) hla (by omega)) fun xo cx => ?_;refine dW ?_;refine cW1 (fun w' H => eC bo lb cb vs w' (hB.below H.below) hlb (by omega)) fun yo cy => ?_;refine dW ?_;refine az ?_;refine di (X := GcX) (GcI g) (fun z => z.y) (fun z => [(6, .slice z.yo (aa z.y) z.cy), (5, .slice z.xo (aa z.x) z.cx)]) (fun z => [.ow w.heap.size z.xo z.x z.cx, .j3 z.xo (ew z.x), .ow w.heap.size z.yo z.y z.cy, .j3 z.yo (ew z.y)]) ⟨xo, cx, a7 us, yo, cy, a7 vs⟩ ⟨wx, wy, hg⟩ fun z hz => ?_;clear hg wx wy;obtain ⟨xo, cx, x, yo, cy, y⟩ := z;obtain ⟨hx, hy, hg⟩ := hz;have hx : aa x <= 17592186044415 := hx;have hy : aa y <= 17592186044415 := hy;have hg : Nat.gcd x y = g := hg;by_cases hy0 : y = 0
 . subst hy0;obtain rfl : x = g := by rw [<- hg, Nat.gcd_zero_right]
   clear hg;have hz := bg;refine ak ?_;refine dr ?_;refine gY ?_;refine ak ?_;refine dW ?_;refine az ?_;refine cd fun w' H => ?_;exact ⟨_, cH, ⟨_, _, rfl, H.m0⟩, H.below⟩
 . have hyl : 0 < aa y := by
    rcases Nat.eq_zero_or_pos (aa y) with h | h
    . exact absurd (da.1 h) hy0
    . exact h
   have HG := H5 hg;clear hg;refine ak ?_;refine dr ?_;refine ix ?_;by_cases h1 : aa x = 1 /\ aa y = 1
   . obtain ⟨h1, h2⟩ := h1;have hxW : x < W := by have := bK x; rw [h1] at this; simpa using this
     have hyW : y < W := by have := bK y; rw [h2] at this; simpa using this
     have hx0 : 0 < x := by
      rcases Nat.eq_zero_or_pos x with h | h
      . subst h; rw [bg] at h1; omega
      . exact h
     have ex := rq hx0 hxW;have ey := rq (Nat.pos_of_ne_zero hy0) hyW;rw [ex, ey, h1, h2];refine ak ?_;refine aI ?_;refine dW ?_;refine mB ?_;refine az ?_;refine mR ?_;refine posW (ao := xo) (ws := [x]) (by simp) (by simp) fun bx ox e => ?_;subst e;refine posW (ao := yo) (ws := [y]) (by simp) (by simp) fun b_ oy e => ?_;subst e;refine vB (ws := [x]) (b := bx) (o := ox) (by simp) (by simp) ?_;refine vB (ws := [y]) (b := b_) (o := oy) (by simp) (by simp) ?_;rw [show gw [x] 0 = x by simp [gw], show gw [y] 0 = y by simp [gw]];refine ak ?_;refine aI ?_;refine aI ?_;refine cW1 (m := g) (fun w' H => by have := xL x y w' hxW hyW (Nat.gcd_pos_of_pos_left _ hx0); rw [HG.out] at this; exact this) fun o c => ?_;refine az ?_;refine cd fun w' H => ?_;exact ⟨_, cH, ⟨_, _, rfl, H.m0⟩, H.below⟩
   . refine ak ?_;refine dr ?_;rcases (Decidable.em (aa x = 1)) with h2 | h2
     case' inl =>
      have h3 : ¬ aa y = 1 := fun h => h1 ⟨h2, h⟩;refine dB true ?_;refine dW ?_;refine dG ?_;refine dG ?_;refine gU false ?_;refine dW ?_
     case' inr =>
      refine dB false ?_;refine dW ?_;(iterate 3 refine uG ?_);refine dW ?_
     all_goals
      refine fg ?_;refine gM ?_;refine ak ?_;refine dr ?_;refine cW2 (m := x / y) (q := x % y) (fun w' H => by
       have := oe xo yo (aa x) (aa y) cx cy (ew x) (ew y) w' H.m1 H.m3 (ec x).symm (ec y).symm hx hy (by rw [cM]; exact hy0);simp only [cM] at this;exact this) fun qo cq ro cr => ?_
      refine aI ?_;refine aI ?_;refine az ?_;refine rW [] ?_;refine aI ?_;refine az ?_;exact cI (⟨yo, cy, y, ro, cr, x % y⟩ : GcX) ⟨⟨hy, Nat.le_trans (aF (Nat.mod_le ..)) hx, by show Nat.gcd y (x % y) = g; rw [<- HG.out, Nat.gcd_comm x y, Nat.gcd_rec y x, Nat.gcd_comm]⟩, Nat.mod_lt _ (by omega)⟩
theorem xY (v u : Value) (x y : Int) (w : World) (hA : a8 w 17592186044415 v x) (hB : a8 w 17592186044415 u y) :
 Calls Tryz.prog 50 #[v, u] w fun e w' => (∃ v', e = .returned v' /\ ae w' w.heap.size v' (Int.gcd x y : Int)) /\ Below w.heap.size w w' := by
 obtain ⟨n, ao, len, cap, ws, rfl, hW, hl, hL1, hc, hx⟩ := hA;obtain ⟨n2, ao2, len2, cap2, ws2, rfl, hW2, hl2, hL2, hc2, hx2⟩ := hB;have hg : Int.gcd x y = Nat.gcd (a7 ws) (a7 ws2) := by rw [hx, hx2]; unfold Int.gcd; rw [fQ, fQ]
 rw [hg];refine bJ (S0 := fun _ => False) Tryz.func50 (Fr.nil _ w) ?_;refine ak ?_;refine aW fun g2 => ?_;refine aW fun g3 => ?_;refine aW fun g4 => ?_;refine eW ?_;refine ak ?_;refine aI ?_;refine dW ?_;refine cW1 (fun w' H => Cx ao ao2 len len2 cap cap2 ws ws2 w' (hW.below H.below) (hW2.below H.below) hl hl2 hL1 hL2) fun o c => ?_;refine dW ?_;refine sW ?_;refine fg ?_;refine cd fun w' H => ?_;exact ⟨_, ka H.m2, ⟨_, rfl, Cr H.m0⟩, H.below⟩
theorem eh {x : Int} : aP x = 0 ↔ x = 0 := by
 unfold aP;constructor
 . intro h; split at h <;> first | omega | (split at h <;> omega)
 . rintro rfl; rfl
theorem zl (x y : Int) : ((x / (Int.gcd x y : Int) * y).natAbs : Int) = (Int.lcm x y : Int) := by
 congr 1;have hd : (Int.gcd x y : Int) ∣ x := Int.gcd_dvd_left ..;rw [Int.natAbs_mul, Int.natAbs_ediv_of_dvd hd, Int.natAbs_natCast];unfold Int.lcm Nat.lcm;have h2 : Int.gcd x y ∣ x.natAbs := Nat.gcd_dvd_left ..;show _ = x.natAbs * y.natAbs / Int.gcd x y;rw [Nat.mul_comm x.natAbs, Nat.mul_div_assoc _ h2, Nat.mul_comm]
theorem Cb (v u : Value) (x y : Int) (L : Nat) (w : World) (hA : a8 w L v x) (hB : a8 w L u y) (hL : L <= 8796093022207) :
 Calls Tryz.prog 51 #[v, u] w fun e w' => (∃ v', e = .returned v' /\ ae w' w.heap.size v' (Int.lcm x y : Int)) /\ Below w.heap.size w w' := by
 have hlx := hA.aa;obtain ⟨p, rfl⟩ := hA.parts;obtain ⟨q, rfl⟩ := hB.parts;have hd : (Int.gcd x y : Int) ∣ x := Int.gcd_dvd_left ..;have hlc := zl x y;have h00 : (Int.gcd x y : Int) = 0 -> Int.lcm x y = 0 := fun h => by
  have : Int.gcd x y = 0 := by omega
  have h1 := (Int.gcd_eq_zero_iff.1 this).1;subst h1; simp
 have hgl : aa (Int.gcd x y) <= 17592186044415 := by
  rcases Nat.eq_zero_or_pos x.natAbs with h | h
  . have : x = 0 := by omega
    subst this;rw [Int.gcd_zero_left]; have := hB.aa; omega
  . exact Nat.le_trans (aF (Nat.gcd_le_left _ h)) (by omega)
 have hql : aa (x / (Int.gcd x y : Int)).natAbs <= L := Nat.le_trans (aF (by rw [Int.natAbs_ediv_of_dvd hd]; exact Nat.div_le_self ..)) hlx;have hml : aa (x / (Int.gcd x y : Int) * y).natAbs <= 17592186044415 := by
  rw [Int.natAbs_mul]; exact Nat.le_trans (eO ..) (by have := hB.aa; omega)
 refine bJ (S0 := fun _ => False) Tryz.func51 (((Fr.nil _ w).i hB).i hA) ?_;refine ak ?_;refine aW fun g2 => ?_;refine aW fun g3 => ?_;refine aW fun g4 => ?_;refine eW ?_;refine ak ?_;refine dr ?_;refine cN (fun w H => xY _ _ x y w (H.m3.mono (by omega)) (H.m4.mono (by omega))) fun p10 => ?_;refine aW fun g5 => ?_;refine sG ?_;refine eW ?_;refine ak ?_;refine dW ?_;refine cV (fun w H => cw _ _ w (ae.int H.m1 hgl)) ?_;obtain ⟨g, hg⟩ : ∃ g : Int, (Int.gcd x y : Int) = g := ⟨_, rfl⟩;have hgl' : aa g.natAbs <= 17592186044415 := by rw [<- hg]; exact hgl
 rw [hg] at hd hlc h00 hql hml |-;clear hg hgl;by_cases h0 : g = 0
 . have hz : aP g = 0 := eh.2 h0;rw [h00 h0];refine ix ?_;refine ak ?_;refine dW ?_;refine sW ?_;refine fg ?_;refine cd fun w' H => ?_;exact ⟨_, ka H.m2, ⟨_, rfl, ae.zero _ _⟩, H.below⟩
 . have hz : ¬ aP g = 0 := fun h => h0 (eh.1 h);rw [<- hlc];refine gY ?_;refine ak ?_;refine dr ?_;refine Bx (fun w H => iN _ _ x g w (H.m5.mono (by omega)) (ae.int H.m1 hgl') h0 hd) fun p18 => ?_;refine aI ?_;refine aW fun g6 => ?_;refine sG ?_;refine az ?_;refine c9 ?_;refine dW ?_;refine cN (fun w H => ie _ _ _ y L L w (ae.int H.m1 hql) H.m8 (by omega)) fun p23 => ?_;refine cN (fun w H => kK _ _ w (ae.int H.m0 hml)) fun p24 => ?_;refine sW ?_;refine fg ?_;refine cd fun w' H => ?_;exact ⟨_, ka H.m6, ⟨_, rfl, H.m0⟩, H.below⟩
end Go.Proofs.YtbgecfleamckcaaGreat
namespace Go.Proofs.YtbgecfleamckcaaGreat
def bT : Nat -> List Nat -> Nat × List Nat
 | g, [] => (g, [])
 | g, y :: l => ((bT (Nat.gcd g y) l).1, Nat.lcm g y :: (bT (Nat.gcd g y) l).2)
theorem dS : ∀ (l : List Nat) (g : Nat), (bT g l).2.length = l.length
 | [], _ => rfl
 | y :: l, g => by simp [bT, dS l]
def aC : List Nat -> List Nat
 | [] => []
 | x :: l => (bT x l).1 :: aC (bT x l).2
termination_by l => l.length
decreasing_by simp [dS]
def mF : Nat -> List Nat -> List Nat
 | x, [] => [x]
 | x, c :: cs => Nat.gcd c x :: mF (Nat.lcm c x) cs
def rM (l : List Nat) : List Nat := l.foldl (fun c x => mF x c) []
theorem kd : ∀ (l : List Nat) (g x : Nat), bT g (l ++ [x]) = (Nat.gcd (bT g l).1 x, (bT g l).2 ++ [Nat.lcm (bT g l).1 x])
 | [], g, x => by simp [bT]
 | y :: l, g, x => by
  simp only [List.cons_append, bT, kd l (Nat.gcd g y) x]
theorem ph : ∀ (n : Nat) (l : List Nat) (x : Nat), l.length = n -> aC (l ++ [x]) = mF x (aC l) := by
 intro n;induction n with
 | zero =>
  intro l x h;obtain rfl := List.eq_nil_of_length_eq_zero h;simp [aC, bT, mF]
 | succ n ih =>
  intro l x h;cases l with
  | nil => simp at h
  | cons y l =>
   rw [List.cons_append, aC, kd, aC];simp only [mF];rw [ih (bT y l).2 _ (by rw [dS]; simpa using h)]
theorem fB (l : List Nat) : aC l = rM l := by
 have key : ∀ n (l : List Nat), l.length = n -> aC l = rM l := by
  intro n;induction n with
  | zero => intro l h; obtain rfl := List.eq_nil_of_length_eq_zero h; simp [aC, rM]
  | succ n ih =>
   intro l h;have hne : l ≠ [] := by intro e; subst e; simp at h
   have e := List.dropLast_concat_getLast hne;have hl : l.dropLast.length = n := by simp [h]
   rw [<- e, ph _ _ _ rfl, ih _ hl];simp [rM, List.foldl_append]
 exact key _ l rfl
def kU (pre : List Nat) (g : Nat) (cC suf : List Nat) : List Nat := pre ++ (bT g suf).1 :: aC (cC ++ (bT g suf).2)
theorem tt (pre : List Nat) (x : Nat) (l : List Nat) : kU pre x [] l = pre ++ aC (x :: l) := by rw [kU, aC]; rfl
theorem u3 (pre : List Nat) (g y : Nat) (cC suf : List Nat) : kU pre (Nat.gcd g y) (cC ++ [Nat.lcm g y]) suf = kU pre g cC (y :: suf) := by simp [kU, bT]
theorem wT (pre : List Nat) (g : Nat) (cC : List Nat) : kU pre g cC [] = (pre ++ [g]) ++ aC cC := by simp [kU, bT]
def du : List Nat -> Nat
 | [] => 1
 | x :: l => (if x = 0 then 1 else x) * du l
def Dv (P x : Nat) : Prop := x = 0 \/ x ∣ P
theorem gE : ∀ l : List Nat, 0 < du l
 | [] => Nat.one_pos
 | x :: l => Nat.mul_pos (by split <;> omega) (gE l)
theorem Dv.oD : ∀ {l : List Nat} {x : Nat}, x ∈ l -> Dv (du l) x
 | y :: l, x, h => by
  rcases List.mem_cons.1 h with rfl | h
  . by_cases h0 : x = 0
    . exact .inl h0
    . rw [du, if_neg h0]; exact .inr (Nat.dvd_mul_right ..)
  . rcases Dv.oD h with h0 | h0
    . exact .inl h0
    . exact .inr (Nat.dvd_trans h0 (Nat.dvd_mul_left ..))
theorem Dv.gcd {P x y : Nat} (h : Dv P x) (k : Dv P y) : Dv P (Nat.gcd x y) := by
 rcases h with rfl | h
 . rw [Nat.gcd_zero_left]; exact k
 . exact .inr (Nat.dvd_trans (Nat.gcd_dvd_left ..) h)
theorem Dv.lcm {P x y : Nat} (h : Dv P x) (k : Dv P y) : Dv P (Nat.lcm x y) := by
 rcases h with rfl | h
 . rw [Nat.lcm_zero_left]; exact .inl rfl
 . rcases k with rfl | k
   . rw [Nat.lcm_zero_right]; exact .inl rfl
   . exact .inr (Nat.lcm_dvd h k)
theorem Dv.le {P x : Nat} (hP : 0 < P) (h : Dv P x) : x <= P := by
 rcases h with rfl | h
 . omega
 . exact Nat.le_of_dvd hP h
theorem jU (L : Nat) : ∀ l : List Nat, (∀ x ∈ l, x < W ^ L) -> du l <= W ^ (L * l.length)
 | [], _ => by simp [du]
 | x :: l, h => by
  have h1 := jU L l fun y hy => h y (List.mem_cons_of_mem _ hy);have h2 := h x (List.mem_cons_self ..);rw [du, List.length_cons, Nat.mul_succ, Nat.pow_add, Nat.mul_comm (W ^ (L * l.length))];refine Nat.mul_le_mul ?_ h1;split <;> omega
theorem fZ : ∀ l : List Nat, (rM l).length = l.length := fun l => by
 rw [<- fB];have key : ∀ n (l : List Nat), l.length = n -> (aC l).length = n := by
  intro n;induction n with
  | zero => intro l h; obtain rfl := List.eq_nil_of_length_eq_zero h; simp [aC]
  | succ n ih =>
   intro l h;cases l with
   | nil => simp at h
   | cons x l =>
    rw [aC, List.length_cons, ih (bT x l).2 (by rw [dS]; simpa using h)]
 exact key _ l rfl
theorem pI {P : Nat} : ∀ (l : List Nat) (g : Nat), Dv P g -> (∀ y ∈ l, Dv P y) -> Dv P (bT g l).1 /\ ∀ y ∈ (bT g l).2, Dv P y
 | [], g, hg, _ => ⟨hg, fun y hy => by cases hy⟩
 | x :: l, g, hg, h => by
  have hx := h x (List.mem_cons_self ..);obtain ⟨h1, h2⟩ := pI l (Nat.gcd g x) (hg.gcd hx) fun y hy => h y (List.mem_cons_of_mem _ hy);refine ⟨h1, fun y hy => ?_⟩;rcases List.mem_cons.1 hy with rfl | hy
  . exact hg.lcm hx
  . exact h2 y hy
theorem lO {P : Nat} {l : List Nat} (h : ∀ y ∈ l, Dv P y) : ∀ y ∈ aC l, Dv P y := by
 have key : ∀ n (l : List Nat), l.length = n -> (∀ y ∈ l, Dv P y) -> ∀ y ∈ aC l, Dv P y := by
  intro n;induction n with
  | zero => intro l h; obtain rfl := List.eq_nil_of_length_eq_zero h; simp [aC]
  | succ n ih =>
   intro l h hd;cases l with
   | nil => simp at h
   | cons x l =>
    obtain ⟨h1, h2⟩ := pI l x (hd x (List.mem_cons_self ..)) fun y hy => hd y (List.mem_cons_of_mem _ hy);intro y hy;rw [aC] at hy;rcases List.mem_cons.1 hy with rfl | hy
    . exact h1
    . exact ih _ (by rw [dS]; simpa using h) h2 y hy
 exact key _ l rfl h
end Go.Proofs.YtbgecfleamckcaaGreat
namespace Go.Proofs.YtbgecfleamckcaaGreat
open Go.RowKit
theorem eZ {a : Nat} (h : a < 9223372036854775807) : Value.int .i64 (IntKind.i64.wrap ((a : Int) + 1)) = .int .i64 ((a + 1 : Nat) : Int) := by
 rw [wrap_small] <;> first | rfl | omega
theorem uj {a b : Nat} (h : a + b < 9223372036854775807) : Value.int .i64 (IntKind.i64.wrap ((a : Int) + b)) = .int .i64 ((a + b : Nat) : Int) := by
 rw [wrap_small] <;> first | rfl | omega
theorem xZ {a b : Nat} (h : a * b < 9223372036854775808) : Value.int .i64 (IntKind.i64.wrap ((a : Int) * b)) = .int .i64 ((a * b : Nat) : Int) := by
 rw [<- Int.natCast_mul, wrap_small] <;> first | rfl | omega
theorem minI (a b : Nat) : Value.int .i64 (min (a : Int) b) = .int .i64 ((min a b : Nat) : Int) := by congr 1; omega
def nt (l : List Nat) : List Int := l.map fun n : Nat => (n : Int)
theorem aG (l : List Nat) : (nt l).length = l.length := by simp [nt]
theorem sD (l : List Nat) (i : Nat) : gi (nt l) i = ((l.getD i 0 : Nat) : Int) := by
 unfold gi nt;rw [List.getD_eq_getElem?_getD, List.getElem?_map, List.getD_eq_getElem?_getD];cases l[i]? <;> rfl
theorem xF (l : List Nat) (i v : Nat) : (nt l).set i (v : Int) = nt (l.set i v) := by simp [nt, List.map_set]
theorem dA.nat {w : World} {ps : List P4} {l : List Nat} (h : dA w ps (nt l)) {i : Nat} (hi : i < l.length) : aN w (av (gp ps i)) ((l.getD i 0 : Nat) : Int) := by
 have := h.2 i (by rw [h.1, aG]; exact hi)
 rwa [sD] at this
structure C1X where
 i : Nat
 ps : List P4
 zs : List Int
structure C1I (xs : List Int) (n : Nat) (z : C1X) : Prop where
 hi : z.i <= n
 hp : z.ps.length = n
 hz : z.zs.length = n
 ok : ∀ k, k < n -> gi z.zs k = if k < z.i then (((gi xs k).natAbs : Nat) : Int) else 0
structure C2X where
 i : Nat
 pre : List Nat
 suf : List Nat
 ps : List P4
structure C2I (R : List Nat) (P n : Nat) (z : C2X) : Prop where
 hi : z.pre.length = z.i
 hp : z.ps.length = n
 hl : (z.pre ++ z.suf).length = n
 fin : z.pre ++ aC z.suf = R
 dv : ∀ y ∈ z.pre ++ z.suf, Dv P y
structure C3X where
 j : Nat
 g : Nat
 cC : List Nat
 suf : List Nat
 ps : List P4
structure C3I (R : List Nat) (P n i : Nat) (pre : List Nat) (z : C3X) : Prop where
 hj : i + 1 + z.cC.length = z.j
 hp : z.ps.length = n
 hl : (pre ++ z.g :: (z.cC ++ z.suf)).length = n
 fin : kU pre z.g z.cC z.suf = R
 dv : ∀ y ∈ pre ++ z.g :: (z.cC ++ z.suf), Dv P y
theorem vO (a : List Nat) (x : Nat) (b : List Nat) : (a ++ x :: b).getD a.length 0 = x := by simp
theorem xe (a : List Nat) (x y : Nat) (b : List Nat) : (a ++ x :: b).set a.length y = a ++ y :: b := by simp
theorem o0 (ao : Option Addr) (cap L : Nat) (xs : List Int) (w : World) (hA : bc w L ao xs) (hL : L <= 17592186044415) (hn : xs.length <= 8796093022208) (hP : aa (du (xs.map Int.natAbs)) <= 8796093022207) :
 Calls Tryz.prog 63 #[.slice ao xs.length cap] w fun e w' => (∃ b, e = .returned (.slice (some ⟨b, 0, none⟩) xs.length xs.length) /\ w.heap.size <= b /\ aJ w' b (nt (aC (xs.map Int.natAbs)))) /\ Below w.heap.size w w' := by
 obtain ⟨R, hR⟩ : ∃ R, aC (xs.map Int.natAbs) = R := ⟨_, rfl⟩;have hdv0 : ∀ y ∈ xs.map Int.natAbs, Dv (du (xs.map Int.natAbs)) y := fun y hy => Dv.oD hy;have hP0 := gE (xs.map Int.natAbs);obtain ⟨P, hPP⟩ : ∃ P, du (xs.map Int.natAbs) = P := ⟨_, rfl⟩;obtain ⟨n, hnn⟩ : ∃ n, xs.length = n := ⟨_, rfl⟩;rw [hPP] at hdv0 hP hP0;rw [hR, hnn];rw [hnn] at hn;have hb : ∀ y, Dv P y -> aa y <= 8796093022207 := fun y hy => Nat.le_trans (aF (hy.le hP0)) hP;have HB := H5 hb;have HN := H5 hnn;have HR := H5 hR;have HD := H5 hdv0;clear hb hnn hR hPP hP hP0 hdv0;refine bJ (S0 := fun _ => False) Tryz.func63 ((Fr.nil _ w).l hA (by simp)) ?_;refine ak ?_;refine az ?_;refine c9 ?_;refine dW ?_;refine mN n n rfl rfl (Nat.le_refl _) hn fun b => ?_;refine dW ?_;refine eW ?_;refine wX (e := .ns (List.replicate n p0) (List.replicate n 0)) (fun w' _ => dA.tj w' n) ?_;refine ak ?_;refine aI ?_;refine fg ?_;refine di (X := C1X) (C1I xs n) (fun z => n - z.i) (fun z => [(14, .int .i64 (z.i : Int)), (13, .int .i64 (n : Int)), (12, .slice ao n cap), (3, .slice (some ⟨b, 0, none⟩) n n)]) (fun z => [.ns z.ps z.zs, .row b 40 (rn z.ps []), .ls L ao xs]) ⟨0, List.replicate n p0, List.replicate n 0⟩ ⟨Nat.zero_le _, by simp, by simp, fun k hk => by rw [cW (by simpa using hk)]; simp⟩ fun z hz => ?_;obtain ⟨i, ps, zs⟩ := z;obtain ⟨hi, hp, hz, hok⟩ := hz
 replace hi : i <= n := hi
 replace hp : ps.length = n := hp
 replace hz : zs.length = n := hz
 replace hok : ∀ k, k < n -> gi zs k = if k < i then (((gi xs k).natAbs : Nat) : Int) else 0 := hok
 have HZ := H5 (And.intro hp hz);clear hp hz;by_cases h : i < n
 . obtain ⟨bx, ox, rfl⟩ := hA.pos (i := i) (by rw [HN.out]; exact h);have h01 : (i : Int) < (n : Int) := by omega
   refine ak ?_;refine ix ?_;refine ou (L := L) (xs := xs) (b := bx) (o := ox) i (by simp) (by rw [HN.out]; exact h) fun p => ?_;refine ak ?_;refine aI ?_;refine aW fun g5 => ?_;refine dW ?_;refine sG ?_;refine eW ?_;refine ak ?_;refine aI ?_;refine cN (fun w' H => kK (av p) _ w' (H.m3.mono hL)) fun q => ?_;refine dW ?_;refine oo (e := .ns (ps.set i q) (zs.set i ((gi xs i).natAbs : Nat))) (fun w' H => dA.set H.m5 i H.m0.num) ?_;refine sN i q (by rw [HZ.out.1]; exact h) aK.nil rfl ?_;refine eW ?_;refine ak ?_;refine dE (eZ (a := i) (by omega)) ?_;refine az ?_;refine cI (⟨i + 1, ps.set i q, zs.set i ((gi xs i).natAbs : Nat)⟩ : C1X) ⟨⟨h, by simpa using HZ.out.1, by simpa using HZ.out.2, fun k hk => ?_⟩, by show n - (i + 1) < n - i; omega⟩;show gi (zs.set i ((gi xs i).natAbs : Nat)) k = if k < i + 1 then (((gi xs k).natAbs : Nat) : Int) else 0;rw [r7 (by rw [HZ.out.2]; exact h)];by_cases e : k = i
   . subst e; rw [if_pos rfl, if_pos (by omega)]
   . rw [if_neg e, hok k hk];by_cases e2 : k < i
     . rw [if_pos e2, if_pos (by omega)]
     . rw [if_neg e2, if_neg (by omega)]
 . obtain rfl : i = n := by omega
   have hzs : zs = nt (xs.map Int.natAbs) := by
    refine List.ext_getElem (by rw [HZ.out.2, aG, List.length_map, HN.out]) fun k h1 h2 => ?_;have hk : k < i := by rw [HZ.out.2] at h1; exact h1
    have := hok k hk;rw [if_pos hk, cW h1, cW (by rw [HN.out]; exact hk)] at this;rw [this]; simp [nt]
   subst hzs;clear hok hi;refine ak ?_;refine gY ?_;refine ak ?_;refine aI ?_;refine fg ?_;refine di (X := C2X) (C2I R P i) (fun z => i - z.i) (fun z => [(27, .int .i64 (z.i : Int)), (26, .int .i64 (i : Int)), (3, .slice (some ⟨b, 0, none⟩) i i)]) (fun z => [.row b 40 (rn z.ps []), .ns z.ps (nt (z.pre ++ z.suf))]) ⟨0, [], xs.map Int.natAbs, ps⟩ ⟨rfl, HZ.out.1, by simp [HN.out], HR.out, HD.out⟩ fun z hz => ?_;clear HZ HD HR;obtain ⟨I, pre, suf, ps⟩ := z;obtain ⟨hI, hp, hl, hfin, hdv⟩ := hz
   replace hI : pre.length = I := hI
   replace hp : ps.length = i := hp
   replace hl : (pre ++ suf).length = i := hl
   replace hfin : pre ++ aC suf = R := hfin
   replace hdv : ∀ y ∈ pre ++ suf, Dv P y := hdv
   cases suf with
   | nil =>
    have e : I = i := by simpa [hI] using hl
    have hfin : pre = R := by simpa [aC] using hfin
    subst e hfin;clear hl hI hp;refine ak ?_;refine gY ?_;refine ak ?_;refine dW ?_;refine az ?_;refine cd fun w' H => ?_;exact ⟨_, cH, ⟨b, rfl, (H.own _ (List.mem_cons_self ..) rfl _ rfl).elim (fun h => h.elim) id, aJ.mk' H.m0 aK.nil (by have := H.m1; rw [List.append_nil] at this; exact this)⟩, H.below⟩
   | cons x suf =>
    have hIn : I < i := by simp at hl; omega
    have h01 : (I : Int) < (i : Int) := by omega
    have HL := H5 (And.intro hI (And.intro hp hl));clear hI hp hl;refine ak ?_;refine ix ?_;refine ak ?_;refine dW ?_;refine az ?_;refine c9 ?_;refine dE (eZ (a := I) (by omega)) ?_;refine az ?_;refine di (X := C3X) (C3I R P i I pre) (fun z => z.suf.length) (fun z => [(7, .int .i64 (z.j : Int)), (6, .int .i64 (I : Int)), (27, .int .i64 (I : Int)), (26, .int .i64 (i : Int)), (3, .slice (some ⟨b, 0, none⟩) i i)]) (fun z => [.row b 40 (rn z.ps []), .ns z.ps (nt (pre ++ z.g :: (z.cC ++ z.suf)))]) ⟨I + 1, x, [], suf, ps⟩ ⟨rfl, HL.out.2.1, HL.out.2.2, by rw [tt]; exact hfin, hdv⟩ fun z hz => ?_;have HI := H5 HL.out.1;clear HL hfin hdv;obtain ⟨J, g, cC, suf', ps⟩ := z;obtain ⟨hJ, hp, hl, hfin, hdv⟩ := hz
    replace hJ : I + 1 + cC.length = J := hJ
    replace hp : ps.length = i := hp
    replace hl : (pre ++ g :: (cC ++ suf')).length = i := hl
    replace hfin : kU pre g cC suf' = R := hfin
    replace hdv : ∀ y ∈ pre ++ g :: (cC ++ suf'), Dv P y := hdv
    cases suf' with
    | nil =>
     have e : J = i := by have := HI.out; simp at hl; omega
     subst e;refine ak ?_;refine aI ?_;refine gY ?_;refine ak ?_;refine dE (eZ (a := I) (by omega)) ?_;refine az ?_;refine cI (⟨I + 1, pre ++ [g], cC, ps⟩ : C2X) ⟨⟨by simp [HI.out], hp, by simpa using hl, by rw [<- hfin, wT], by simpa using hdv⟩, by show J - (I + 1) < J - I; omega⟩ (he := fun w' H => by simpa using H)
    | cons y suf' =>
     obtain ⟨l, hle⟩ : ∃ l, pre ++ g :: (cC ++ y :: suf') = l := ⟨_, rfl⟩;have hll : l.length = i := by rw [<- hle]; exact hl
     have e1 : (pre ++ g :: cC).length = J := by have := HI.out; simp; omega
     have e2 : pre ++ g :: (cC ++ y :: suf') = (pre ++ g :: cC) ++ y :: suf' := by simp
     have eI : l.getD I 0 = g := by rw [<- hle, <- HI.out]; exact vO ..
     have eJ : l.getD J 0 = y := by rw [<- hle, e2, <- e1]; exact vO ..
     have eS : (l.set J (Nat.lcm g y)).set I (Nat.gcd g y) = pre ++ Nat.gcd g y :: ((cC ++ [Nat.lcm g y]) ++ suf') := by
      rw [<- hle, e2, <- e1, xe, <- HI.out, List.append_assoc, List.cons_append, xe]; simp
     have hJn : J < i := by simp at hl; have := HI.out; omega
     have hIJ : I < J := by omega
     have hg : aa g <= 8796093022207 := HB.out g (hdv g (by simp));have hy : aa y <= 8796093022207 := HB.out y (hdv y (by simp));have hdv' : ∀ z ∈ pre ++ Nat.gcd g y :: ((cC ++ [Nat.lcm g y]) ++ suf'), Dv P z := by
      have dg := hdv g (by simp);have dy := hdv y (by simp);intro z hz;simp only [List.mem_append, List.mem_cons, List.not_mem_nil, or_false] at hz;rcases hz with hz | rfl | (hz | rfl) | hz
      . exact hdv z (by simp [hz])
      . exact dg.gcd dy
      . exact hdv z (by simp [hz])
      . exact dg.lcm dy
      . exact hdv z (by simp [hz])
     have rI : ∀ w, dA w ps (nt l) -> a8 w 8796093022207 (av (gp ps I)) (g : Int) := fun w h => by
      have := h.nat (i := I) (by rw [hll]; omega);rw [eI] at this; exact this.int hg
     have rJ : ∀ w, dA w ps (nt l) -> a8 w 8796093022207 (av (gp ps J)) (y : Int) := fun w h => by
      have := h.nat (i := J) (by rw [hll]; omega);rw [eJ] at this; exact this.int hy
     have sIJ : ∀ w (p q : P4), dA w ps (nt l) -> aN w (av p) ((Nat.gcd g y : Nat) : Int) -> aN w (av q) ((Nat.lcm g y : Nat) : Int) -> dA w ((ps.set J q).set I p) (nt (pre ++ Nat.gcd g y :: ((cC ++ [Nat.lcm g y]) ++ suf'))) := fun w p q h hp hq => by
      have := (h.set J hq).set I hp;rw [xF, xF, eS] at this; exact this
     have k0 := Bf [] (ps := ps) (i := I) (by omega);have k1 := Bi [] (ps := ps) (i := I) (by omega);have k2 := Bf [] (ps := ps) (i := J) (by omega);have k3 := Bi [] (ps := ps) (i := J) (by omega);have hfin' := u3 pre g y cC suf';rw [hfin] at hfin';have h01 : (I : Int) < (i : Int) := by omega
     have h02 : (J : Int) < (i : Int) := by omega
     have HQ := H5 (And.intro hp (And.intro hfin' (And.intro hdv' (And.intro hJ hl))));rw [show pre ++ (⟨J, g, cC, y :: suf', ps⟩ : C3X).g :: ((⟨J, g, cC, y :: suf', ps⟩ : C3X).cC ++ (⟨J, g, cC, y :: suf', ps⟩ : C3X).suf) = l from hle];clear hp hfin hfin' hdv hdv' hJ hl e1 e2 eI eJ eS hle hll;refine ak ?_;refine aI ?_;refine ix ?_;refine ak ?_;refine aI ?_;refine aI ?_;refine dr ?_;refine cN (x := ((Nat.gcd g y : Nat) : Int)) (fun w' H => xY (av (gp ps I)) (av (gp ps J)) g y w' ((rI w' H.m1).mono (by omega)) ((rJ w' H.m1).mono (by omega))) fun p46 => ?_;refine aW fun g8 => ?_;refine sG ?_;refine eW ?_;refine ak ?_;(iterate 3 refine aI ?_);refine dW ?_;refine cN (x := ((Nat.lcm g y : Nat) : Int)) (fun w' H => Cb (av (gp ps I)) (av (gp ps J)) g y 8796093022207 w' (rI w' H.m3) (rJ w' H.m3) (Nat.le_refl _)) fun p57 => ?_;refine dW ?_;refine sN J p57 (by rw [HQ.out.1]; omega) aK.nil rfl ?_;refine eW ?_;refine ak ?_;refine aI ?_;refine dW ?_;refine oo (e := .ns ((ps.set J p57).set I p46) (nt (pre ++ Nat.gcd g y :: ((cC ++ [Nat.lcm g y]) ++ suf')))) (fun w' H => sIJ w' p46 p57 H.m4 H.m2.num H.m0.num) ?_;refine sN (ps := ps.set J p57) I p46 (by rw [List.length_set, HQ.out.1]; omega) aK.nil rfl ?_;refine eW ?_;refine ak ?_;refine dW ?_;refine dE (eZ (a := J) (by omega)) ?_;refine az ?_;refine cI (⟨J + 1, Nat.gcd g y, cC ++ [Nat.lcm g y], suf', (ps.set J p57).set I p46⟩ : C3X) ⟨⟨by have := HQ.out.2.2.2.1; simp; omega, by simpa using HQ.out.1, by have := HQ.out.2.2.2.2; simp at this |-; omega, HQ.out.2.1, HQ.out.2.2.1⟩, by simp⟩
end Go.Proofs.YtbgecfleamckcaaGreat
namespace Go.Proofs.YtbgecfleamckcaaGreat
def gZ : List Nat -> Prop
 | [] => True
 | [_] => True
 | a :: b :: l => a ∣ b /\ gZ (b :: l)
theorem gZ.put : ∀ (c : List Nat), gZ c -> ∀ x, gZ (mF x c)
 | [], _, _ => trivial
 | [a], _, x => ⟨Nat.dvd_trans (Nat.gcd_dvd_left ..) (Nat.dvd_lcm_left ..), trivial⟩
 | a :: b :: c, ⟨h1, h2⟩, x => by
  have ih := gZ.put (b :: c) h2 (Nat.lcm a x);simp only [mF] at ih |-;exact ⟨Nat.dvd_gcd (Nat.dvd_trans (Nat.gcd_dvd_left ..) h1) (Nat.dvd_trans (Nat.gcd_dvd_left ..) (Nat.dvd_lcm_left ..)), ih⟩
theorem gZ.ref : ∀ (l : List Nat) (c : List Nat), gZ c -> gZ (l.foldl (fun c x => mF x c) c)
 | [], _, h => h
 | x :: l, c, h => gZ.ref l _ (gZ.put c h x)
theorem uE (l : List Nat) : gZ (aC l) := by rw [fB]; exact gZ.ref l [] trivial
theorem oI : ∀ (l : List Nat) (g : Nat), gZ (g :: l) -> bT g l = (g, l)
 | [], _, _ => rfl
 | y :: l, g, ⟨h1, h2⟩ => by
  have hl : gZ (g :: l) := by
   cases l with
   | nil => trivial
   | cons z l => exact ⟨Nat.dvd_trans h1 h2.1, h2.2⟩
  rw [bT, Nat.gcd_eq_left h1, Nat.lcm_eq_right h1, oI l g hl]
theorem gZ.tail {x : Nat} {l : List Nat} (h : gZ (x :: l)) : gZ l := by
 cases l with
 | nil => trivial
 | cons y l => exact h.2
theorem oV {l : List Nat} (h : gZ l) : aC l = l := by
 have key : ∀ n (l : List Nat), l.length = n -> gZ l -> aC l = l := by
  intro n;induction n with
  | zero => intro l h _; obtain rfl := List.eq_nil_of_length_eq_zero h; simp [aC]
  | succ n ih =>
   intro l h hc;cases l with
   | nil => simp at h
   | cons x l =>
    rw [aC, oI l x hc, ih l (by simpa using h) hc.tail]
 exact key _ l rfl h
def bO (l : List Nat) : Nat := l.foldr (· * ·) 1
def eY (l : List Nat) : List Nat := l.filter fun x => decide (1 < x)
def AL (l : List Nat) : Prop := ∀ x ∈ l, 0 < x
theorem AL.du : ∀ {l : List Nat}, AL l -> bO l = du l
 | [], _ => rfl
 | x :: l, h => by
  have := AL.du (l := l) fun y hy => h y (List.mem_cons_of_mem _ hy);have hx := h x (List.mem_cons_self ..);simp only [bO, List.foldr_cons] at this |-;rw [Go.Proofs.YtbgecfleamckcaaGreat.du, if_neg (by omega), this]
theorem gZ.all : ∀ {l : List Nat} {x : Nat}, gZ (x :: l) -> ∀ y ∈ l, x ∣ y
 | [], _, _, _, h => by cases h
 | z :: l, x, ⟨h1, h2⟩, y, h => by
  rcases List.mem_cons.1 h with rfl | h
  . exact h1
  . exact Nat.dvd_trans h1 (gZ.all h2 y h)
theorem gZ.cons {x : Nat} {l : List Nat} (h : gZ l) (hx : ∀ y ∈ l, x ∣ y) : gZ (x :: l) := by
 cases l with
 | nil => trivial
 | cons y l => exact ⟨hx y (List.mem_cons_self ..), h⟩
theorem gZ.filter (p : Nat -> Bool) : ∀ {l : List Nat}, gZ l -> gZ (l.filter p)
 | [], _ => trivial
 | x :: l, h => by
  have ih := gZ.filter p h.tail;rw [List.filter_cons];split
  . exact ih.cons fun y hy => h.all y (List.mem_filter.1 hy).1
  . exact ih
theorem oT : ∀ {l : List Nat}, AL l -> bO (eY l) = bO l
 | [], _ => rfl
 | x :: l, h => by
  have ih := oT (l := l) fun y hy => h y (List.mem_cons_of_mem _ hy);have hx := h x (List.mem_cons_self ..);unfold eY at ih |-;rw [List.filter_cons];split
  . simp only [bO, List.foldr_cons] at ih |-; rw [ih]
  . rename_i h1;have e : x = 1 := by
     have : ¬ 1 < x := by simpa using h1
     omega
    subst e;rw [ih]; simp [bO]
end Go.Proofs.YtbgecfleamckcaaGreat
namespace Go.Proofs.YtbgecfleamckcaaGreat
open Go.RowKit
def rB (xs : List Int) : List Int := xs.filter fun x => decide (1 < x)
theorem xf {xs : List Int} {i : Nat} (h : i < xs.length) : rB (xs.take (i + 1)) = rB (xs.take i) ++ if 1 < gi xs i then [gi xs i] else [] := by
 rw [List.take_succ_eq_append_getElem h, rB, rB, List.filter_append, cW h];congr 1;by_cases e : 1 < xs[i] <;> simp [e]
theorem vM {L : Nat} (h : 1 <= L := by omega) : aa (1 : Int).natAbs <= L := Nat.le_trans (Nat.le_of_eq (n9 (by omega) (by unfold W; omega))) h
structure A1X where
 i : Nat
 k : Nat
 ao : Option Addr
 cap : Nat
 ps : List P4
structure A1I (xs : List Int) (n : Nat) (z : A1X) : Prop where
 hi : z.i <= n
 hk : (rB (xs.take z.i)).length = z.k
 hp : z.ps.length = z.k
theorem yU (la : Option Addr) (ca L : Nat) (xs : List Int) (w : World) (hA : bc w L la xs) (hL : L <= 17592186044415) (hn : xs.length <= 100000000) :
 Calls Tryz.prog 28 #[.slice la xs.length ca] w fun e w' => (∃ ao cap, e = .returned (.slice ao (rB xs).length cap) /\ dw w' ao (rB xs) /\ (rB xs).length <= cap /\ ∀ b o, ao = some ⟨b, o, none⟩ -> w.heap.size <= b) /\ Below w.heap.size w w' := by
 obtain ⟨n, hnn⟩ : ∃ n, xs.length = n := ⟨_, rfl⟩;rw [hnn] at hn;rw [hnn];have HN := H5 hnn;clear hnn;refine bJ (S0 := fun _ => False) Tryz.func28 ((Fr.nil _ w).l hA (by simp)) ?_;refine ak ?_;refine az ?_;refine c9 ?_;refine eW ?_;refine wX (e := .vZ none 0 0 []) (fun w' _ => ⟨rfl, Nat.le_refl _, .inl ⟨rfl, rfl⟩⟩) ?_ (hS := fun b ⟨o, q⟩ => nomatch q);refine wX (e := .ns [] (rB (xs.take 0))) (fun w' _ => dA.nil w') ?_;refine ak ?_;refine aI ?_;refine fg ?_;refine di (X := A1X) (A1I xs n) (fun z => n - z.i) (fun z => [(8, .int .i64 (z.i : Int)), (7, .int .i64 (n : Int)), (6, .slice la n ca), (3, .slice z.ao z.k z.cap)]) (fun z => [.vZ z.ao z.k z.cap z.ps, .ns z.ps (rB (xs.take z.i)), .ls L la xs]) ⟨0, 0, none, 0, []⟩ ⟨Nat.zero_le _, rfl, rfl⟩ fun z hz => ?_;obtain ⟨i, k, ao, cap, ps⟩ := z;obtain ⟨hi, hk, hp⟩ := hz
 replace hi : i <= n := hi
 replace hk : (rB (xs.take i)).length = k := hk
 replace hp : ps.length = k := hp
 have hkn : k <= n := by
  rw [<- hk];exact Nat.le_trans (List.length_filter_le ..) (by rw [List.length_take, HN.out]; omega)
 have HK := H5 (And.intro hk hp);clear hk hp;by_cases h : i < n
 . obtain ⟨bx, ox, rfl⟩ := hA.pos (i := i) (by rw [HN.out]; exact h);have h01 : (i : Int) < (n : Int) := by omega
   have HT := H5 (xf (xs := xs) (i := i) (by rw [HN.out]; exact h));refine ak ?_;refine ix ?_;refine ou (L := L) (xs := xs) (b := bx) (o := ox) i (by simp) (by rw [HN.out]; exact h) fun p => ?_;refine ak ?_;refine dr ?_;refine aW fun g5 => ?_;refine sG ?_;refine eW ?_;refine ak ?_;refine dW ?_;refine cN (x := 1) (fun w' H => iA 1 w' (by omega) (by omega)) fun p13 => ?_;refine cV (v := .int .i64 (fO (gi xs i) 1)) (fun w' H => gy _ _ (gi xs i) 1 w' (H.m4.mono hL) (ae.int H.m0 vM)) ?_;by_cases h1 : 1 < gi xs i
   . have ez : fO (gi xs i) 1 = 1 := by unfold fO; rw [if_neg (by omega), if_neg (by omega)]
     rw [ez];refine ix ?_;refine ak ?_;refine dr ?_;refine cN (fun w' H => gJ (av p) _ w' (H.m4.mono hL)) fun q => ?_;refine bW (m := 1) fun g19 => ?_;refine oo (e := .ns (ps ++ [q]) (rB (xs.take (i + 1)))) (fun w' H => by rw [HT.out, if_pos h1]; exact dA.snoc H.m8 H.m1.num) ?_;refine appN (g := g19) (t := 40) (c := 1) (ao := ao) (k := k) (cap := cap) (ps := ps) q (by omega) (by simp) fun z => ?_;refine az ?_;refine rW [] ?_;refine dE (eZ (a := i) (by omega)) ?_;refine az ?_;exact cI (⟨i + 1, k + 1, z.1, z.2, ps ++ [q]⟩ : A1X) ⟨⟨h, by rw [HT.out, if_pos h1, List.length_append, HK.out.1]; rfl, by rw [List.length_append, HK.out.2]; rfl⟩, by show n - (i + 1) < n - i; omega⟩
   . have ez : ¬ 0 < fO (gi xs i) 1 := by unfold fO; split <;> (try split) <;> omega
     refine gY ?_;have e : rB (xs.take (i + 1)) = rB (xs.take i) := by rw [HT.out, if_neg h1, List.append_nil]
     refine ak ?_;refine dE (eZ (a := i) (by omega)) ?_;refine az ?_;refine cI (⟨i + 1, k, ao, cap, ps⟩ : A1X) ⟨⟨h, by rw [e]; exact HK.out.1, HK.out.2⟩, by show n - (i + 1) < n - i; omega⟩ (he := by
      intro w h;show Fr _ _ w [.vZ ao k cap ps, .ns ps (rB (xs.take (i + 1))), .ls L (some ⟨bx, ox, none⟩) xs];rw [e];first | exact h | exact h.pick (by repeat (first | exact Pk.n | refine Pk.c (by repeat (first | exact Rm.z | apply Rm.s)) ?_)))
 . obtain rfl : i = n := by omega
   have e : xs.take i = xs := List.take_of_length_le (by rw [HN.out]; exact Nat.le_refl _);refine ak ?_;refine gY ?_;refine ak ?_;refine dW ?_;refine az ?_;refine cd fun w' H => ?_;have hl := HK.out.1;rw [e] at hl;rw [e] at H;subst hl;exact ⟨_, cH, ⟨ao, cap, rfl, vo H.m0 H.m1, (show uD ao _ cap ps w' from H.m0).2.1, fun b o e => (H.own (.vZ ao (rB xs).length cap ps) (by simp) rfl b ⟨o, e⟩).elim (fun h => h.elim) id⟩, H.below⟩
section
variable {P : Program} {ops : Array Oper} {Q : Exit -> Act -> World -> Prop} {ds : List Deferred} {S0 : Nat -> Prop} {w0 : World} {E0 : List En} {hd : List (List Nat)} {n j s sg g : Nat} {l : List Nat} {G E : List En} {ls : List (Nat × Value)} {op : Op} {ty : TypeId} {pos : String} {af : Array Edge} {f : FuncId} {args : Array Value} {v : Value} {want : Bool}
theorem cGg {α : Type} {mk : α -> Value} {ens : α -> List En} (c : ∀ w, Fr S0 w0 w (G ++ E) -> Calls P f args w fun e w' => ∃ p, e = .returned (mk p) /\ Nw w w' (ens p))
 (k : ∀ p, dZ ds ⟨P, ops, Q, S0, w0, E0, hd⟩ n l (ens p ++ G) E ((s, mk p) :: ls))
 (ho : ops[j]? = some ⟨some s, op, ty, pos, af, some (g, want)⟩ := by rfl) (hk : (!bY op && !dx op && et ls op && Nat.blt s n) = true := by kernel_rfl)
 (hg : (ops[g]?).bind (·.dst) = some sg := by rfl) (hi : eG ls (.tmp sg) = true := by kernel_rfl) (hb : dJ ls (.tmp sg) = .bool want := by (simp only [cJ, Nat.reduceEqDiff, ↓reduceIte]) <;> first | rfl | simp [*])
 (hr : ∀ w, (execOp (dJ ls) ⟨some s, op, ty, pos, af, some (g, want)⟩).run P w = .ok (.enter f args) w := by intro w; (try simp only [av]); go_simp <;> with_reducible rfl) (hne : Nonempty α := by infer_instance)
 (hst : fV ops hd j [] = true := by kernel_rfl) : dZ ds ⟨P, ops, Q, S0, w0, E0, hd⟩ n (j :: l) G E ls := fun a ha => by
 simp only [Bool.and_eq_true, Bool.not_eq_true'] at hk;refine ⟨_, ho, .inr (.inr ⟨hk.1.1.1, hk.1.1.2, α, mk, fun p => ens p ++ G, fun _ => E, [], hne, fun X w hX hw => ?_, hst, fun _ _ _ => rfl, fun p => k p _ (ha.put (Nat.le_of_ble_eq_true hk.2) _)⟩)⟩;rw [if_pos (by rw [iK ha hg hi hb]; simp)];show oU P _ ((execOp a.eval _).run P w);rw [ha.exec hk.1.2, hr w];refine (c w (hw.sub (List.sublist_append_right ..))).mono ?_;rintro e w' ⟨p, rfl, hn⟩;refine ⟨_, rfl, p, rfl, (hn.fr hw).perm ?_⟩;rw [List.append_assoc];exact (List.perm_append_comm_assoc (ens p) X (G ++ E))
theorem nV (c : ∀ w, Fr S0 w0 w (G ++ E) -> Calls P f args w fun e w' => e = .returned v /\ Below w.heap.size w w')
 (k : dZ ds ⟨P, ops, Q, S0, w0, E0, hd⟩ n l G E ((s, v) :: ls))
 (ho : ops[j]? = some ⟨some s, op, ty, pos, af, some (g, want)⟩ := by rfl) (hk : (!bY op && !dx op && et ls op && Nat.blt s n) = true := by kernel_rfl)
 (hg : (ops[g]?).bind (·.dst) = some sg := by rfl) (hi : eG ls (.tmp sg) = true := by kernel_rfl) (hb : dJ ls (.tmp sg) = .bool want := by (simp only [cJ, Nat.reduceEqDiff, ↓reduceIte]) <;> first | rfl | simp [*])
 (hr : ∀ w, (execOp (dJ ls) ⟨some s, op, ty, pos, af, some (g, want)⟩).run P w = .ok (.enter f args) w := by intro w; (try simp only [av]); go_simp <;> with_reducible rfl)
 (hst : fV ops hd j [] = true := by kernel_rfl) : dZ ds ⟨P, ops, Q, S0, w0, E0, hd⟩ n (j :: l) G E ls := by
 refine cGg (α := Unit) (mk := fun _ => v) (ens := fun _ => []) (fun w hw => (c w hw).mono ?_) (fun _ => k) ho hk hg hi hb hr ⟨()⟩ hst;rintro e w' ⟨rfl, hb⟩;exact ⟨(), rfl, hb, fun e he => (List.not_mem_nil he).elim, .nil⟩
theorem uC (k : dZ ds ⟨P, ops, Q, S0, w0, E0, hd⟩ n l G E ((s, undef) :: ls))
 (ho : ops[j]? = some ⟨some s, op, ty, pos, af, some (g, want)⟩ := by rfl) (hk : (!bY op && !dx op && Nat.blt s n) = true := by kernel_rfl)
 (hg : (ops[g]?).bind (·.dst) = some sg := by rfl) (hi : eG ls (.tmp sg) = true := by kernel_rfl) (hb : dJ ls (.tmp sg) = .bool (!want) := by (simp only [cJ, Nat.reduceEqDiff, ↓reduceIte]) <;> first | rfl | simp [*])
 (hst : fV ops hd j [] = true := by kernel_rfl) : dZ ds ⟨P, ops, Q, S0, w0, E0, hd⟩ n (j :: l) G E ls := fun a ha => by
 simp only [Bool.and_eq_true, Bool.not_eq_true'] at hk;refine ⟨_, ho, .inr (.inr ⟨hk.1.1, hk.1.2, Unit, fun _ => undef, fun _ => G, fun _ => E, [], ⟨()⟩, fun X w hX hw => ?_, hst, fun _ _ _ => rfl, fun _ => k _ (ha.put (Nat.le_of_ble_eq_true hk.2) _)⟩)⟩;rw [if_neg (by rw [iK ha hg hi hb]; simp)];exact ⟨(), rfl, hw⟩
theorem bWg {t : TypeId} {cs : List Value} {m : Nat} (k : ∀ g, dZ ds ⟨P, ops, Q, S0, w0, E0, hd⟩ n l (.row g t cs :: G) E ((s, .slice (some ⟨g, 0, none⟩) m m) :: ls))
 (ho : ops[j]? = some ⟨some s, op, ty, pos, af, some (g, want)⟩ := by rfl) (hk : (!bY op && dx op && et ls op && Nat.blt s n) = true := by kernel_rfl)
 (hg : (ops[g]?).bind (·.dst) = some sg := by rfl) (hi : eG ls (.tmp sg) = true := by kernel_rfl) (hb : dJ ls (.tmp sg) = .bool want := by (simp only [cJ, Nat.reduceEqDiff, ↓reduceIte]) <;> first | rfl | simp [*])
 (hr : ∀ w, (execOp (dJ ls) ⟨some s, op, ty, pos, af, some (g, want)⟩).run P w = .ok (.value (.slice (some ⟨w.heap.size, 0, none⟩) m m)) (w.alloc (.cells cs.toArray t (0, 0))) := by intro w; (try simp only [av]); go_simp <;> with_reducible rfl) : dZ ds ⟨P, ops, Q, S0, w0, E0, hd⟩ n (j :: l) G E ls := fun a ha => by
 simp only [Bool.and_eq_true, Bool.not_eq_true'] at hk;refine ⟨_, ho, .inr (.inl ⟨hk.1.1.1, hk.1.1.2, fun g => .slice (some ⟨g, 0, none⟩) m m, t, cs, ⟨?_, fun w => ?_⟩, fun g => k g _ (ha.put (Nat.le_of_ble_eq_true hk.2) _)⟩)⟩
 . show Region.wanted _ (yielded ops a.tmps) = true;rw [iK ha hg hi hb]; simp
 . rw [ha.exec hk.1.2];exact hr w
end
theorem Cc {P : Program} {f : FuncId} {args : Array Value} {w : World} {B : Nat} {x : Int} (h : Calls P f args w fun e w' => (∃ v, e = .returned v /\ ae w' w.heap.size v x) /\ Below w.heap.size w w') (hB : B <= w.heap.size) : Calls P f args w fun e w' => ∃ p : P4, e = .returned (av p) /\ Nw w w' [.own B (av p) x] := h.mono fun e w' ⟨⟨v, he, hv⟩, hb⟩ => by
 subst he;obtain ⟨b, ao, l', k', rfl⟩ := ae.parts hv;exact ⟨(b, ao, l', k'), rfl, hb, fun e he => by
  rcases List.mem_singleton.1 he with rfl;exact ⟨ae.mono hv hB, fun _ h => h.elim⟩, List.pairwise_singleton ..⟩
section
variable {ops : Array Oper} {Q : Exit -> Act -> World -> Prop} {ds : List Deferred} {S0 : Nat -> Prop} {w0 : World} {E0 : List En} {hd : List (List Nat)} {n j s : Nat} {l : List Nat} {G E : List En} {ls : List (Nat × Value)} {ty : TypeId} {pos : String} {af : Array Edge}
end
theorem zR (aoA aoB : Option Addr) (lA cA lB cB : Nat) (xs ys : List Nat) (w : World) (hA : cU w aoA xs) (hB : cU w aoB ys) (hlA : lA = xs.length) (hlB : lB = ys.length) (hmA : lA <= 17592186044415) (hmB : lB <= 17592186044415) :
 Calls Tryz.prog 69 #[.slice aoA lA cA, .slice aoB lB cB] w fun e w' => e = .returned (.bool (decide (xs = ys))) /\ Below w.heap.size w w' := by
 subst hlA hlB;have HA := H5 hA; clear hA;have HB := H5 hB; clear hB;go_enter Tryz.func69, Tryz.ntmps69;by_cases hs : xs.length = ys.length
 . have hb : (((xs.length : Nat) : Int) != ((ys.length : Nat) : Int)) = false := by rw [hs]; simp
   have Hs := H5 hs; clear hs;go_wp2;go_loopw [5] (fun i wr => ∃ k : Nat, k <= xs.length /\ i = .int .i64 (k : Int) /\ Hid (∀ j, j < k -> gw xs j = gw ys j) /\ Below w.heap.size w wr) (fun i _ => xs.length - (intOf i).toNat)
   case atStart => exact ⟨0, Nat.zero_le _, rfl, H5 (fun j hj => by omega), Below.refl _ _⟩
   case round =>
    obtain ⟨k, hk, rfl, hag, hbl⟩ := hrel;by_cases h0 : k < xs.length
    . have h01 : (k : Int) < (xs.length : Int) := by omega
      have h02 : (k : Int) < (ys.length : Int) := by have := Hs.out; omega
      obtain ⟨b1, o1, rfl, hb1, hc1⟩ := (HA.out.below hbl).pos (by omega);obtain ⟨b2, o2, rfl, hb2, hc2⟩ := (HB.out.below hbl).pos (by omega);have e1 := hc1 k h0;have e2 := hc2 k (by omega);clear hc1 hc2;by_cases hne : gw xs k = gw ys k
      . have t1 : (((gw xs k : Nat) : Int) != ((gw ys k : Nat) : Int)) = false := by rw [hne]; simp
        have HN := H5 hne; clear hne;go_wp2
        go_quiet (fail)
        go_wp2;go_roundw
        case rel => exact ⟨k + 1, by omega, by go_num, H5 (fun j hj => by
         by_cases e : j = k
         . subst e; exact HN.out
         . exact hag.out j (by omega)), below_drewN hbl _⟩
        case measure => simp [intOf]; omega
      . have t1 : (((gw xs k : Nat) : Int) != ((gw ys k : Nat) : Int)) = true := by rw [bne_iff_ne]; omega
        have hd : decide (xs = ys) = false := by
         rw [decide_eq_false_iff_not]; intro e; exact hne (by rw [e])
        have HD := H5 hd; clear hd hne;go_wp2
        go_quiet (fail)
        go_wp2;go_ret;exact ⟨by rw [HD.out]; rfl, below_drewN hbl _⟩
    . obtain rfl : k = xs.length := by omega
      have hd : decide (xs = ys) = true := by
       rw [decide_eq_true_iff];refine List.ext_getElem Hs.out fun j h1 h2 => ?_;have := hag.out j h1;unfold gw at this;simpa [h1, h2] using this
      have HD := H5 hd; clear hd;go_wp2;go_ret;exact ⟨by rw [HD.out]; rfl, hbl⟩
 . have hb : (((xs.length : Nat) : Int) != ((ys.length : Nat) : Int)) = true := by rw [bne_iff_ne]; omega
   have hd : decide (xs = ys) = false := by
    rw [decide_eq_false_iff_not]; intro e; exact hs (by rw [e])
   have HD := H5 hd; clear hd hs;go_wp2;go_ret;exact ⟨by rw [HD.out]; rfl, Below.refl _ _⟩
theorem uN (x y : Int) : (decide (ew x.natAbs = ew y.natAbs) && (decide (x < 0) == decide (y < 0))) = decide (x = y) := by
 have h1 : ew x.natAbs = ew y.natAbs ↔ x.natAbs = y.natAbs := ⟨fun h => by rw [<- cM x.natAbs, h, cM], fun h => by rw [h]⟩;rw [Bool.eq_iff_iff];simp only [Bool.and_eq_true, decide_eq_true_eq, beq_iff_eq, h1, decide_eq_decide];omega
theorem Fr.ln {S0 : Nat -> Prop} {w0 w : World} {es : List En} (h : Fr S0 w0 w es) {ao : Option Addr} {xs : List Int} (hx : dw w ao xs) (hS : ∀ e ∈ es, e.wr = false) : Fr S0 w0 w (.jL ao xs :: es) :=
 h.cons hx (fun e he => ⟨(fun q => nomatch q), fun q => by rw [hS e he] at q; cases q⟩) (fun q => nomatch q)
theorem dw.pos {w : World} {ao : Option Addr} {xs : List Int} (h : dw w ao xs) {i : Nat} (hi : i < xs.length) : ∃ b o, ao = some ⟨b, o, none⟩ := by
 obtain ⟨b, o, e, _⟩ := h (by omega);exact ⟨b, o, e⟩
section
variable {P : Program} {Q : Exit -> Act -> World -> Prop} {ds : List Deferred} {S0 : Nat -> Prop} {w0 : World} {n : Nat} {ls : List (Nat × Value)} {es : List En} {c : Code}
theorem rH {xs : List Int} {b o : Nat} (i : Nat) (hm : En.jL (some ⟨b, o, none⟩) xs ∈ es) (hi : i < xs.length) (k : ∀ p : P4, fJ ds P n S0 w0 c Q ls (.cell ⟨b, o + i * 2, none⟩ (.bool p.1) :: .cell ⟨b, o + i * 2 + 1, none⟩ (.slice p.2.1 p.2.2.1 p.2.2.2) :: .num (av p) (gi xs i) :: es)) : fJ ds P n S0 w0 c Q ls es := fun a w ha hw => by
 have hA : dw w (some ⟨b, o, none⟩) xs := hw.all _ hm;obtain ⟨b', o', e, hb, hc⟩ := hA (by omega);cases e;obtain ⟨p, h0, h1, hx⟩ := hc i hi;rw [<- cW hi] at hx;have hS : (En.jL (some ⟨b, o, none⟩) xs).S b := ⟨by omega, o, rfl⟩;exact k p a w ha (((hw.pure (e := .num (av p) (gi xs i)) hx (fun _ h => h)).cellOf (List.mem_cons_of_mem _ hm) rfl hS h1).cellOf (List.mem_cons_of_mem _ (List.mem_cons_of_mem _ hm)) rfl hS h0)
end
theorem sf {r c i j : Nat} (hi : i < r) (hj : j < c) : i * c + j < r * c := by
 have h1 : (i + 1) * c <= r * c := Nat.mul_le_mul_right _ hi;have h2 : (i + 1) * c = i * c + c := Nat.succ_mul i c;omega
section
variable {P : Program} {ops : Array Oper} {Q : Exit -> Act -> World -> Prop} {ds : List Deferred} {S0 : Nat -> Prop} {w0 : World} {E0 : List En} {n j s sg g : Nat} {l : List Nat} {G E : List En} {ls : List (Nat × Value)} {op : Op} {ty : TypeId} {pos : String} {af : Array Edge} {v v' : Value} {want : Bool}
theorem dGE (hv : v' = v) (k : dZ ds ⟨P, ops, Q, S0, w0, E0, []⟩ n l G E ((s, v) :: ls))
 (ho : ops[j]? = some ⟨some s, op, ty, pos, af, some (g, want)⟩ := by rfl) (hk : (bY op && et ls op && Nat.blt s n) = true := by kernel_rfl)
 (hg : (ops[g]?).bind (·.dst) = some sg := by rfl) (hi : eG ls (.tmp sg) = true := by kernel_rfl) (hb : dJ ls (.tmp sg) = .bool want := by (simp only [cJ, Nat.reduceEqDiff, ↓reduceIte]) <;> first | rfl | simp [*])
 (hr : ∀ w, (qK op = true -> Fr S0 w0 w E0) -> (execOp (dJ ls) ⟨some s, op, ty, pos, af, some (g, want)⟩).run P w = .ok (.value v') w := by intro w H; (first | (have c := (H rfl).c; try simp only [uc, cl, List.cons_append, List.nil_append] at c) | skip); clear H; go_simp <;> with_reducible rfl) : dZ ds ⟨P, ops, Q, S0, w0, E0, []⟩ n (j :: l) G E ls :=
 dG k ho hk hg hi hb (by rw [<- hv]; exact hr)
end
theorem Fr.cl {S0 : Nat -> Prop} {w0 w : World} {es : List En} (h : Fr S0 w0 w es) {a : Addr} {v : Value} (hc : w.cell? a = some v) (hS : ∀ e ∈ es, e.wr = false) : Fr S0 w0 w (.cell a v :: es) :=
 h.cons (e := .cell a v) hc (fun e he => ⟨(fun q => nomatch q), fun q => by rw [hS e he] at q; cases q⟩) (fun q => nomatch q)
def dh (c k : Nat) (xs : List Int) : List Int := (List.range k).map fun i => gi xs (i * c + i)
theorem aQ (c k : Nat) (xs : List Int) : (dh c k xs).length = k := by simp [dh]
theorem nY {c k : Nat} {xs : List Int} {i : Nat} (h : i < k) : gi (dh c k xs) i = gi xs (i * c + i) := by
 rw [cW (by rw [aQ]; exact h)]; simp [dh]
structure L1X where
 i : Nat
 ps : List P4
 zs : List Int
structure L1I (xs : List Int) (c k : Nat) (z : L1X) : Prop where
 hi : z.i <= k
 hp : z.ps.length = k
 hz : z.zs.length = k
 ok : ∀ q, q < z.i -> gi z.zs q = gi xs (q * c + q)
theorem lL (r c : Nat) (ao : Option Addr) (cap L : Nat) (xs : List Int) (w : World) (hr : r <= 64) (hc : c <= 64) (hA : bc w L ao xs) (hL : L <= 17592186044415) (hs : xs.length = r * c) :
 Calls Tryz.prog 32 #[.agg #[.int .i64 (r : Int), .int .i64 (c : Int), .slice ao xs.length cap]] w fun e w' => (∃ b, e = .returned (.slice (some ⟨b, 0, none⟩) (min r c) (min r c)) /\ w.heap.size <= b /\ aJ w' b (dh c (min r c) xs)) /\ Below w.heap.size w w' := by
 have hkr : min r c <= r := Nat.min_le_left ..;have hkc : min r c <= c := Nat.min_le_right ..;have HS0 : Hid (xs.length = r * c) := H5 hs;clear hs;refine bJ (S0 := fun _ => False) Tryz.func32 ((Fr.nil _ w).l hA (by simp)) ?_;refine ak ?_;refine aW fun g1 => ?_;refine az ?_;refine rW [] ?_;refine aI ?_;refine dW ?_;refine dE (minI r c) ?_;obtain ⟨k, hk⟩ : ∃ k, min r c = k := ⟨_, rfl⟩;rw [hk] at hkr hkc |-;refine mN k k rfl rfl (Nat.le_refl _) (by omega) fun b => ?_;refine dW ?_;refine eW ?_;refine wX (e := .ns (List.replicate k p0) (List.replicate k 0)) (fun w' _ => dA.tj w' k) ?_;refine ak ?_;refine aI ?_;refine fg ?_;refine di (X := L1X) (L1I xs c k) (fun z => k - z.i) (fun z => [(13, .int .i64 (z.i : Int)), (12, .int .i64 (k : Int)), (1, .pointer (some ⟨g1, 0, none⟩)), (3, .slice (some ⟨b, 0, none⟩) k k)]) (fun z => [.row b 40 (rn z.ps []), .row g1 24 [.int .i64 (r : Int), .int .i64 (c : Int), .slice ao xs.length cap], .ns z.ps z.zs, .ls L ao xs]) ⟨0, List.replicate k p0, List.replicate k 0⟩ ⟨Nat.zero_le _, by simp, by simp, fun q h => absurd h (Nat.not_lt_zero q)⟩ fun z hz => ?_;obtain ⟨i, ps, zs⟩ := z;obtain ⟨hi, hp, hz, hok⟩ := hz
 replace hi : i <= k := hi
 replace hp : ps.length = k := hp
 replace hz : zs.length = k := hz
 replace hok : ∀ q, q < i -> gi zs q = gi xs (q * c + q) := hok
 have HZ : Hid (ps.length = k /\ zs.length = k /\ ∀ q, q < i -> gi zs q = gi xs (q * c + q)) := H5 ⟨hp, hz, hok⟩;have HS : Hid (xs.length = r * c /\ min r c = k) := H5 ⟨HS0.out, hk⟩;clear hp hz hok hk;by_cases h : i < k
 . have h01 : (i : Int) < (k : Int) := by omega
   have hlt := sf (r := r) (c := c) (i := i) (j := i) (by omega) (by omega);have hrc : r * c <= 4096 := Nat.mul_le_mul hr hc;obtain ⟨bx, ox, rfl⟩ := hA.pos (i := i * c + i) (by rw [HS.out.1]; exact hlt);obtain ⟨A, hA'⟩ : ∃ A, i * c = A := ⟨_, rfl⟩;obtain ⟨B, hB⟩ : ∃ B, A + i = B := ⟨_, rfl⟩;have hBl : B < xs.length := by rw [HS.out.1, <- hB, <- hA']; exact hlt
   have hBl' : (B : Int) < (xs.length : Int) := by omega
   have hAs : i * c < 9223372036854775808 := by omega
   have hgl : A + i < 9223372036854775807 := by omega
   have HAB : Hid (i * c + i = B) := H5 (by rw [hA', hB]);refine ak ?_;refine ix ?_;refine ou (L := L) (xs := xs) (b := bx) (o := ox) B (by simp) hBl fun p => ?_;clear hBl hlt hrc;refine ak ?_;refine dW ?_;refine az ?_;refine rW [] ?_;refine aI ?_;refine aI ?_;refine dW ?_;refine dE ((xZ (a := i) (b := c) hAs).trans (by rw [hA'])) ?_;refine dW ?_;refine dE ((uj (a := A) (b := i) hgl).trans (by rw [hB])) ?_;clear hA' hB hAs;refine dr ?_;refine cN (fun w' H => gJ (av p) _ w' (H.m2.mono hL)) fun q => ?_;refine dW ?_;refine oo (e := .ns (ps.set i q) (zs.set i (gi xs B))) (fun w' H => dA.set H.m6 i H.m0.num) ?_;refine sN (ps := ps) i q (by rw [HZ.out.1]; exact h) aK.nil rfl ?_;refine eW ?_;refine ak ?_;refine dE (eZ (a := i) (by omega)) ?_;refine az ?_;refine cI (⟨i + 1, ps.set i q, zs.set i (gi xs B)⟩ : L1X) ⟨⟨h, by simpa using HZ.out.1, by simpa using HZ.out.2.1, fun q hq => ?_⟩, by show k - (i + 1) < k - i; omega⟩;show gi (zs.set i (gi xs B)) q = _;rw [r7 (by rw [HZ.out.2.1]; exact h)];by_cases e : q = i
   . subst e; rw [if_pos rfl, HAB.out]
   . rw [if_neg e]; exact HZ.out.2.2 q (by have : q < i + 1 := hq; omega)
 . obtain rfl : i = k := by omega
   have hzs : zs = dh c i xs := by
    refine List.ext_getElem (by rw [HZ.out.2.1, aQ]) fun q h1 h2 => ?_;have hq : q < i := by rw [HZ.out.2.1] at h1; exact h1
    have := HZ.out.2.2 q hq;rw [<- nY hq, cW h1, cW h2] at this; exact this
   subst hzs;refine ak ?_;refine gY ?_;refine ak ?_;refine dW ?_;refine az ?_;refine cd fun w' H => ?_;exact ⟨_, cH, ⟨b, rfl, (H.own _ (List.mem_cons_self ..) rfl _ rfl).elim (fun h => h.elim) id, aJ.mk' H.m0 aK.nil H.m2⟩, H.below⟩
def fy (r c : Nat) (xs : List Int) : Prop := ∀ i j, i < r -> j < c -> i ≠ j -> gi xs (i * c + j) = 0
theorem fy.not {r c i j : Nat} {xs : List Int} (hi : i < r) (hj : j < c) (hne : i ≠ j) (h : gi xs (i * c + j) ≠ 0) : ¬ fy r c xs := fun q => h (q i j hi hj hne)
theorem AW (r c : Nat) (ao : Option Addr) (cap L : Nat) (xs : List Int) (w : World) (hr : r <= 64) (hc : c <= 64) (hA : bc w L ao xs) (hL : L <= 17592186044415) (hs : xs.length = r * c) :
 Calls Tryz.prog 61 #[.agg #[.int .i64 (r : Int), .int .i64 (c : Int), .slice ao xs.length cap]] w fun e w' => (∃ t, e = .returned (.bool t) /\ (t = true ↔ fy r c xs)) /\ Below w.heap.size w w' := by
 have HS : Hid (xs.length = r * c) := H5 hs;clear hs;refine bJ (S0 := fun _ => False) Tryz.func61 ((Fr.nil _ w).l hA (by simp)) ?_;refine ak ?_;refine aW fun g1 => ?_;refine az ?_;refine rW [] ?_;refine aI ?_;refine fg ?_;refine di (X := Nat) (fun i => i <= r /\ Hid (∀ a b, a < i -> b < c -> a ≠ b -> gi xs (a * c + b) = 0)) (fun i => r - i) (fun i => [(7, .int .i64 (i : Int)), (6, .int .i64 (r : Int)), (1, .pointer (some ⟨g1, 0, none⟩))]) (fun _ => [.row g1 24 [.int .i64 (r : Int), .int .i64 (c : Int), .slice ao xs.length cap], .ls L ao xs]) 0 ⟨Nat.zero_le _, H5 fun a b h => absurd h (Nat.not_lt_zero a)⟩ fun i hi => ?_;obtain ⟨hi, HI⟩ := hi;by_cases h : i < r
 . have h01 : (i : Int) < (r : Int) := by omega
   refine ak ?_;refine ix ?_;refine ak ?_;refine dW ?_;refine az ?_;refine rW [] ?_;refine aI ?_;refine fg ?_;refine di (X := Nat) (fun j => j <= c /\ Hid (∀ b, b < j -> i ≠ b -> gi xs (i * c + b) = 0)) (fun j => c - j) (fun j => [(12, .int .i64 (j : Int)), (11, .int .i64 (c : Int)), (7, .int .i64 (i : Int)), (6, .int .i64 (r : Int)), (3, .int .i64 (i : Int)), (1, .pointer (some ⟨g1, 0, none⟩))]) (fun _ => [.row g1 24 [.int .i64 (r : Int), .int .i64 (c : Int), .slice ao xs.length cap], .ls L ao xs]) 0 ⟨Nat.zero_le _, H5 fun b h => absurd h (Nat.not_lt_zero b)⟩ fun j hj => ?_;obtain ⟨hj, HJ⟩ := hj;by_cases h' : j < c
   . have h02 : (j : Int) < (c : Int) := by omega
     have hlt := sf h h';have hrc : r * c <= 4096 := Nat.mul_le_mul hr hc;obtain ⟨bx, ox, rfl⟩ := hA.pos (i := i * c + j) (by rw [HS.out]; exact hlt);obtain ⟨A, hA'⟩ : ∃ A, i * c = A := ⟨_, rfl⟩;obtain ⟨B, hB⟩ : ∃ B, A + j = B := ⟨_, rfl⟩;have hBl : B < xs.length := by rw [HS.out, <- hB, <- hA']; exact hlt
     have hBl' : (B : Int) < (xs.length : Int) := by omega
     have hAs : i * c < 9223372036854775808 := by omega
     have HAB : Hid (i * c + j = B) := H5 (by rw [hA', hB]);have hgl : A + j < 9223372036854775807 := by omega
     refine ak ?_;refine ix ?_;refine ou (L := L) (xs := xs) (b := bx) (o := ox) B (by simp) hBl fun p => ?_;clear hBl hlt hrc;refine ak ?_;refine dW ?_;refine az ?_;refine c9 ?_;refine dW ?_;by_cases hnz : i ≠ j /\ gi xs B ≠ 0
     . obtain ⟨e, hz⟩ := hnz;have hz' : ¬ aP (gi xs B) = 0 := fun q => hz (eh.1 q);have hnd : ¬ fy r c xs := fy.not h h' e (by rw [HAB.out]; exact hz);refine dB true ?_;refine dW ?_;refine mB ?_;refine dG ?_;refine dG ?_;refine dGE ((xZ (a := i) (b := c) hAs).trans (by rw [hA'])) ?_;refine dG ?_;refine dGE ((uj (a := A) (b := j) hgl).trans (by rw [hB])) ?_;refine dG ?_;refine dG ?_;refine nV (fun w' H => cw (av p) _ w' (H.m2.mono hL)) ?_;refine gU true ?_;refine az ?_;refine mR ?_;refine ak ?_;refine az ?_;refine cd fun w' H => ?_;exact ⟨_, cH, ⟨false, rfl, (fun q => nomatch q), fun q => absurd q hnd⟩, H.below⟩
     . have hz : i ≠ j -> aP (gi xs B) = 0 := fun e => eh.2 (Decidable.byContradiction fun q => hnz ⟨e, q⟩);have HJ' : Hid (∀ b, b < j + 1 -> i ≠ b -> gi xs (i * c + b) = 0) := H5 fun b hb hne => by
        by_cases e : b = j
        . subst e; rw [HAB.out]; exact Decidable.byContradiction fun q => hnz ⟨hne, q⟩
        . exact HJ.out b (by omega) hne
       clear hnz;rcases Decidable.em (i = j) with e | e
       case' inl =>
        refine dB false ?_;refine dW ?_;refine Be ?_;refine Be ?_;refine uC ?_;refine uG ?_;refine dW ?_
       case' inr =>
        replace hz := hz e
        refine dB true ?_;refine dW ?_;refine mB ?_;refine dG ?_;refine dG ?_;refine dGE ((xZ (a := i) (b := c) hAs).trans (by rw [hA'])) ?_;refine dG ?_;refine dGE ((uj (a := A) (b := j) hgl).trans (by rw [hB])) ?_;refine dG ?_;refine dG ?_;refine nV (fun w' H => cw (av p) _ w' (H.m2.mono hL)) ?_;refine gU false ?_;refine dW ?_
       all_goals
        refine fg ?_;refine gM ?_;refine ak ?_;refine dE (eZ (a := j) (by omega)) ?_;refine az ?_;exact cI (j + 1) ⟨⟨h', HJ'⟩, by show c - (j + 1) < c - j; omega⟩
   . obtain rfl : j = c := by omega
     have HI' : Hid (∀ a b, a < i + 1 -> b < j -> a ≠ b -> gi xs (a * j + b) = 0) := H5 fun a b ha hb hne => by
      by_cases e : a = i
      . subst e; exact HJ.out b hb hne
      . exact HI.out a b (by omega) hb hne
     refine ak ?_;refine gY ?_;refine ak ?_;refine dE (eZ (a := i) (by omega)) ?_;refine az ?_;exact cI (i + 1) ⟨⟨h, HI'⟩, by show r - (i + 1) < r - i; omega⟩
 . obtain rfl : i = r := by omega
   refine ak ?_;refine gY ?_;refine ak ?_;refine az ?_;refine cd fun w' H => ?_;exact ⟨_, cH, ⟨true, rfl, fun _ => HI.out, fun _ => rfl⟩, H.below⟩
theorem qH {r c : Nat} {ao : Option Addr} {cap L : Nat} {xs : List Int} {w : World} (t : Bool) (hr : r <= 64) (hc : c <= 64) (hA : bc w L ao xs) (hL : L <= 17592186044415) (hs : xs.length = r * c) (ht : t = true ↔ fy r c xs) :
 Calls Tryz.prog 61 #[.agg #[.int .i64 (r : Int), .int .i64 (c : Int), .slice ao xs.length cap]] w fun e w' => e = .returned (.bool t) /\ Below w.heap.size w w' :=
 (AW r c ao cap L xs w hr hc hA hL hs).mono fun e w' ⟨⟨t', he, h⟩, hb⟩ => ⟨by rw [he]; congr 2; rw [Bool.eq_iff_iff, h, ht], hb⟩
end Go.Proofs.YtbgecfleamckcaaGreat
namespace Go.Proofs.YtbgecfleamckcaaGreat
def bD (c : Nat) (f : Nat -> Nat -> Int) (k : Nat) : List Int := (List.range k).map fun q => f (q / c) (q % c)
theorem cF (c : Nat) (f : Nat -> Nat -> Int) (k : Nat) : (bD c f k).length = k := by simp [bD]
theorem wK {c i j : Nat} (f : Nat -> Nat -> Int) (hj : j < c) : bD c f (i * c + j + 1) = bD c f (i * c + j) ++ [f i j] := by
 have h1 : (i * c + j) / c = i := by rw [Nat.mul_comm, Nat.mul_add_div (by omega), Nat.div_eq_of_lt hj]; rfl
 have h2 : (i * c + j) % c = j := by rw [Nat.mul_comm, Nat.mul_add_mod, Nat.mod_eq_of_lt hj]
 unfold bD;rw [List.range_succ, List.map_append];simp [h1, h2]
theorem iM {r c i j : Nat} (f : Nat -> Nat -> Int) (hi : i < r) (hj : j < c) : (bD c f (r * c)).getD (i * c + j) 0 = f i j := by
 have h1 : (i * c + j) / c = i := by rw [Nat.mul_comm, Nat.mul_add_div (by omega), Nat.div_eq_of_lt hj]; rfl
 have h2 : (i * c + j) % c = j := by rw [Nat.mul_comm, Nat.mul_add_mod, Nat.mod_eq_of_lt hj]
 have h3 : (i + 1) * c <= r * c := Nat.mul_le_mul_right _ hi;have h4 : (i + 1) * c = i * c + c := Nat.succ_mul i c;unfold bD;rw [List.getD_eq_getElem?_getD, List.getElem?_map, List.getElem?_range (by omega)];simp [h1, h2]
end Go.Proofs.YtbgecfleamckcaaGreat
namespace Go.Proofs.YtbgecfleamckcaaGreat
open Go.RowKit
def aS (xs : List Int) (i j : Nat) : Int := if i = j /\ i < xs.length then gi xs i else 0
theorem zY (i j g : Nat) (la : Option Addr) (cap L : Nat) (xs : List Int) (w : World) (hg : w.cell? ⟨g, 0, none⟩ = some (.slice la xs.length cap)) (hA : bc w L la xs) (hL : L <= 17592186044415) :
 Calls Tryz.prog 44 #[.int .i64 (i : Int), .int .i64 (j : Int), .pointer (some ⟨g, 0, none⟩)] w fun e w' => (∃ v, e = .returned v /\ ae w' w.heap.size v (aS xs i j)) /\ Below w.heap.size w w' := by
 refine bJ (S0 := fun _ => False) Tryz.func44 (((Fr.nil _ w).l hA (by simp)).cl hg (by simp [En.wr])) ?_;refine ak ?_;refine aW fun g5 => ?_;refine eW ?_;by_cases h : i = j /\ i < xs.length
 . obtain ⟨rfl, h2⟩ := h;have e0 : aS xs i i = gi xs i := by rw [aS, if_pos ⟨rfl, h2⟩]
   rw [e0];obtain ⟨bx, ox, rfl⟩ := hA.pos h2;refine ak ?_;refine dr ?_;refine dB true ?_;refine dW ?_;refine mB ?_;refine gU true ?_;refine az ?_;refine mR ?_;refine ou (L := L) (xs := xs) (b := bx) (o := ox) i (by simp) h2 fun p => ?_;refine ak ?_;refine aI ?_;refine dW ?_;refine cN (fun w' H => gJ (av p) _ w' (H.m2.mono hL)) fun q => ?_;refine sW ?_;refine fg ?_;refine cd fun w' H => ?_;exact ⟨_, ka H.m4, ⟨_, rfl, H.m0⟩, H.below⟩
 . have e0 : aS xs i j = 0 := by rw [aS, if_neg h]
   rw [e0];refine ak ?_;refine dr ?_;rcases Decidable.em (i = j) with e | e
   case' inl =>
    have hlt : ¬ i < xs.length := fun q => h ⟨e, q⟩;subst e;clear h;refine dB true ?_;refine dW ?_;refine mB ?_;refine gU false ?_
   case' inr =>
    clear h;refine dB false ?_;refine dW ?_;(iterate 4 refine uG ?_)
   all_goals
    refine az ?_;refine gM ?_;refine ak ?_;refine dW ?_;refine sW ?_;refine fg ?_;refine cd fun w' H => ?_;exact ⟨_, ka H.m0, ⟨_, rfl, ae.zero _ _⟩, H.below⟩
theorem mkLst {P : Program} {Q : Exit -> Act -> World -> Prop} {ds : List Deferred} {S0 : Nat -> Prop} {w0 : World} {n b N : Nat} {ls : List (Nat × Value)} {es : List En} {c : Code} (k : fJ ds P n S0 w0 c Q ls (.vZ (some ⟨b, 0, none⟩) 0 N [] :: es)) : fJ ds P n S0 w0 c Q ls (.row b 40 (rn (List.replicate N p0) []) :: es) := fun a w ha hw =>
 k a w ha (hw.conv (fun hr => ⟨rfl, Nat.zero_le _, .inr ⟨b, rn (List.replicate N p0) [], rfl, aK.rn aK.nil, hr, by show (rn (List.replicate N p0) []).length = _; rw [rn, List.append_nil, bL]; simp; omega⟩⟩) (fun g ⟨o, e⟩ => by cases e; rfl) (fun _ => rfl))
structure B1X where
 i : Nat
 K : Nat
 ao : Option Addr
 cap : Nat
 ps : List P4
structure B1I (r c : Nat) (z : B1X) : Prop where
 hi : z.i <= r
 hK : z.i * c = z.K
structure B2X where
 j : Nat
 K : Nat
 ao : Option Addr
 cap : Nat
 ps : List P4
structure B2I (c i : Nat) (z : B2X) : Prop where
 hj : z.j <= c
 hK : i * c + z.j = z.K
theorem sK (F : FuncId) (hF : ∀ (args : Array Value) (w : World), (callFunc F args).run Tryz.prog w = .ok (.enter F args) w) (r c g : Nat) (f : Nat -> Nat -> Int) (w : World) (hr : r <= 64) (hc : c <= 64)
 (hf : ∀ (i j : Nat) (w' : World), i < r -> j < c -> Below w.heap.size w w' -> Calls Tryz.prog F #[.int .i64 (i : Int), .int .i64 (j : Int), .pointer (some ⟨g, 0, none⟩)] w' fun e w'' => (∃ v, e = .returned v /\ ae w'' w'.heap.size v (f i j)) /\ Below w'.heap.size w' w'') :
 Calls Tryz.prog 43 #[.int .i64 (r : Int), .int .i64 (c : Int), .func (.func F) #[] #[.pointer (some ⟨g, 0, none⟩)]] w fun e w' => (∃ ao cap, e = .returned (.agg #[.int .i64 (r : Int), .int .i64 (c : Int), .slice ao (r * c) cap]) /\ dw w' ao (bD c f (r * c)) /\ r * c <= cap /\ ∀ b o, ao = some ⟨b, o, none⟩ -> w.heap.size <= b) /\ Below w.heap.size w w' := by
 have hnc : r * c <= 4096 := Nat.mul_le_mul hr hc;have hms : r * c < 9223372036854775808 := by omega
 refine bJ (S0 := fun _ => False) Tryz.func43 (Fr.nil _ w) ?_;refine ak ?_;refine aW fun g6 => ?_;refine eW ?_;refine ak ?_;refine aI ?_;refine dW ?_;refine dE (xZ (a := r) (b := c) hms) ?_;obtain ⟨N, hN⟩ : ∃ N, r * c = N := ⟨_, rfl⟩;rw [hN] at hnc |-;have HN : Hid (r * c = N) := H5 hN;clear hms hN;refine mN 0 N rfl rfl (Nat.zero_le _) (by omega) fun b => ?_;refine dW ?_;refine aW fun g7 => ?_;refine sG ?_;refine eW ?_;refine iq (es' := [.row b 40 (rn (List.replicate N p0) []), .row g7 24 [.int .i64 (r : Int), .int .i64 (c : Int), .slice (some ⟨b, 0, none⟩) 0 N], .row g6 24 [.int .i64 0, .int .i64 0, .slice none 0 0]]) ?_;refine mkLst ?_;refine wX (e := .ns [] (bD c f 0)) (fun w' _ => dA.nil w') ?_;refine iq (es' := [.row g7 24 [.int .i64 (r : Int), .int .i64 (c : Int), .slice (some ⟨b, 0, none⟩) 0 N], .row g6 24 [.int .i64 0, .int .i64 0, .slice none 0 0], .vZ (some ⟨b, 0, none⟩) 0 N [], .ns [] (bD c f 0)]) ?_;refine ak ?_;refine dW ?_;refine az ?_;refine di (X := B1X) (B1I r c) (fun z => r - z.i) (fun z => [(18, .int .i64 (z.i : Int)), (17, .int .i64 (r : Int)), (1, .int .i64 (c : Int)), (2, .func (.func F) #[] #[.pointer (some ⟨g, 0, none⟩)]), (7, .pointer (some ⟨g7, 0, none⟩)), (6, .pointer (some ⟨g6, 0, none⟩))])
  (fun z => [.row g7 24 [.int .i64 (r : Int), .int .i64 (c : Int), .slice z.ao z.K z.cap], .row g6 24 [.int .i64 0, .int .i64 0, .slice none 0 0], .vZ z.ao z.K z.cap z.ps, .ns z.ps (bD c f z.K)]) ⟨0, 0, some ⟨b, 0, none⟩, N, []⟩ ⟨Nat.zero_le _, Nat.zero_mul _⟩ fun z hz => ?_
 obtain ⟨i, K, ao, cap, ps⟩ := z;obtain ⟨hi, hK⟩ := hz
 replace hi : i <= r := hi
 replace hK : i * c = K := hK
 by_cases h : i < r
 . have h01 : (i : Int) < (r : Int) := by omega
   have HK : Hid (i * c + 0 = K) := H5 hK;clear hK;refine ak ?_;refine ix ?_;refine ak ?_;refine dW ?_;refine az ?_;refine c9 ?_;refine az ?_;refine di (X := B2X) (B2I c i) (fun z => c - z.j) (fun z => [(22, .int .i64 (z.j : Int)), (21, .int .i64 (c : Int)), (8, .int .i64 (i : Int)), (18, .int .i64 (i : Int)), (17, .int .i64 (r : Int)), (1, .int .i64 (c : Int)), (2, .func (.func F) #[] #[.pointer (some ⟨g, 0, none⟩)]), (7, .pointer (some ⟨g7, 0, none⟩)), (6, .pointer (some ⟨g6, 0, none⟩))])
    (fun z => [.row g7 24 [.int .i64 (r : Int), .int .i64 (c : Int), .slice z.ao z.K z.cap], .row g6 24 [.int .i64 0, .int .i64 0, .slice none 0 0], .vZ z.ao z.K z.cap z.ps, .ns z.ps (bD c f z.K)]) ⟨0, K, ao, cap, ps⟩ ⟨Nat.zero_le _, HK.out⟩ fun z hz => ?_
   clear HK;obtain ⟨j, K, ao, cap, ps⟩ := z;obtain ⟨hj, hK⟩ := hz
   replace hj : j <= c := hj
   replace hK : i * c + j = K := hK
   by_cases h' : j < c
   . have h02 : (j : Int) < (c : Int) := by omega
     have hlt := sf h h';have ht := wK (i := i) f h';have hKN : K <= 100000000 := by have := HN.out; omega
     rw [hK] at ht;have HT : Hid (bD c f (K + 1) = bD c f K ++ [f i j] /\ i * c + j = K) := H5 ⟨ht, hK⟩;clear ht hK hlt;refine ak ?_;refine ix ?_;refine ak ?_;refine dW ?_;refine az ?_;refine rW [] ?_;refine aI ?_;refine dr ?_;refine cN (fun w' H => hf i j w' h h' H.below) fun q => ?_;refine bW (m := 1) fun g31 => ?_;refine oo (e := .ns (ps ++ [q]) (bD c f (K + 1))) (fun w' H => by rw [HT.out.1]; exact dA.snoc H.m5 H.m1.num) ?_;refine appN (g := g31) (t := 40) (c := 1) (ao := ao) (k := K) (cap := cap) (ps := ps) q hKN (by simp) fun z => ?_;refine dW ?_;refine sW ?_;refine eW ?_;refine ak ?_;refine dE (eZ (a := j) (by omega)) ?_;refine az ?_;exact cI (⟨j + 1, K + 1, z.1, z.2, ps ++ [q]⟩ : B2X) ⟨⟨h', by show i * c + (j + 1) = K + 1; have := HT.out.2; omega⟩, by show c - (j + 1) < c - j; omega⟩
   . obtain rfl : j = c := by omega
     have HK : Hid ((i + 1) * j = K) := H5 (by rw [Nat.succ_mul]; exact hK);clear hK;refine ak ?_;refine gY ?_;refine ak ?_;refine dE (eZ (a := i) (by omega)) ?_;refine az ?_;exact cI (⟨i + 1, K, ao, cap, ps⟩ : B1X) ⟨⟨h, HK.out⟩, by show r - (i + 1) < r - i; omega⟩
 . obtain rfl : i = r := by omega
   obtain rfl : K = N := by rw [<- hK]; exact HN.out
   clear hK;refine ak ?_;refine gY ?_;refine ak ?_;refine dW ?_;refine sW ?_;refine fg ?_;refine cd fun w' H => ?_;exact ⟨_, xc H.m1, ⟨ao, cap, rfl, vo H.m2 H.m3, (show uD ao K cap ps w' from H.m2).2.1, fun b o e => (H.own (.vZ ao K cap ps) (by simp) rfl b ⟨o, e⟩).elim (fun h => h.elim) id⟩, H.below⟩
theorem u5 {A : Prop} {P : Program} {Q : Exit -> Act -> World -> Prop} {ds : List Deferred} {S0 : Nat -> Prop} {w0 : World} {n : Nat} {ls : List (Nat × Value)} {es : List En} {c : Code} (hm : En.pr A ∈ es) (k : A -> fJ ds P n S0 w0 c Q ls es) : fJ ds P n S0 w0 c Q ls es := fun a w ha hw => k (hw.all _ hm) a w ha hw
section
variable {P : Program} {ops : Array Oper} {Q : Exit -> Act -> World -> Prop} {ds : List Deferred} {S0 : Nat -> Prop} {w0 : World} {E0 : List En} {hd : List (List Nat)} {n j s : Nat} {l : List Nat} {G E : List En} {ls : List (Nat × Value)} {op : Op} {ty : TypeId} {pos : String} {af : Array Edge} {v : Value} {f : FuncId} {args : Array Value}
theorem fW (k : dZ ds ⟨P, ops, Q, S0, w0, E0, hd⟩ n l G E ((s, v) :: ls))
 (ho : ops[j]? = some ⟨some s, op, ty, pos, af, none⟩ := by rfl) (hk : (!bY op && !dx op && et ls op && Nat.blt s n) = true := by kernel_rfl)
 (hr : ∀ w, (execOp (dJ ls) ⟨some s, op, ty, pos, af, none⟩).run P w = .ok (.value v) w := by intro w; (try simp only [av]); go_simp <;> with_reducible rfl)
 (hst : fV ops hd j [] = true := by kernel_rfl) : dZ ds ⟨P, ops, Q, S0, w0, E0, hd⟩ n (j :: l) G E ls := fun a ha => by
 simp only [Bool.and_eq_true, Bool.not_eq_true'] at hk;refine ⟨_, ho, .inr (.inr ⟨hk.1.1.1, hk.1.1.2, Unit, fun _ => v, fun _ => G, fun _ => E, [], ⟨()⟩, fun X w hX hw => ?_, hst, fun _ _ _ => rfl, fun _ => k _ (ha.put (Nat.le_of_ble_eq_true hk.2) _)⟩)⟩;refine AN rfl ?_;show oU P _ ((execOp a.eval _).run P w);rw [ha.exec hk.1.2, hr w];exact ⟨(), rfl, hw⟩
theorem jc {α : Type} {mk : α -> Value} {ao : α -> Option Addr} {xs : α -> List Int} {A : α -> Prop} (c : ∀ w, Fr S0 w0 w (G ++ E) -> Calls P f args w fun e w' => (∃ p, e = .returned (mk p) /\ dw w' (ao p) (xs p) /\ A p /\ ∀ b o, ao p = some ⟨b, o, none⟩ -> w.heap.size <= b) /\ Below w.heap.size w w')
 (k : ∀ p, dZ ds ⟨P, ops, Q, S0, w0, E0, hd⟩ n l (.jL (ao p) (xs p) :: .pr (A p /\ ∀ b o, ao p = some ⟨b, o, none⟩ -> w0.heap.size <= b) :: G) E ((s, mk p) :: ls))
 (ho : ops[j]? = some ⟨some s, op, ty, pos, af, none⟩ := by rfl) (hk : (!bY op && !dx op && et ls op && Nat.blt s n) = true := by kernel_rfl)
 (hr : ∀ w, (execOp (dJ ls) ⟨some s, op, ty, pos, af, none⟩).run P w = .ok (.enter f args) w := by intro w; (try simp only [av]); go_simp <;> with_reducible rfl) (hne : Nonempty α := by infer_instance)
 (hst : fV ops hd j [] = true := by kernel_rfl) : dZ ds ⟨P, ops, Q, S0, w0, E0, hd⟩ n (j :: l) G E ls := by
 refine cG (mk := mk) (ens := fun p => [.jL (ao p) (xs p), .pr (A p /\ ∀ b o, ao p = some ⟨b, o, none⟩ -> w0.heap.size <= b)]) (fun w hw => (c w hw).mono ?_) k ho hk hr hne hst;rintro e w' ⟨⟨p, rfl, hl, hA, hS⟩, hb⟩;exact ⟨p, rfl, hb, fun e he => by
  rcases List.mem_cons.1 he with rfl | he
  . exact ⟨hl, fun b ⟨_, o, e⟩ => hS b o e⟩
  . rcases List.mem_singleton.1 he with rfl;exact ⟨⟨hA, fun b o e => Nat.le_trans hw.size (hS b o e)⟩, fun _ h => h.elim⟩, List.pairwise_pair.2 ⟨(fun h => nomatch h), (fun h => nomatch h)⟩⟩
end
theorem nf (r c : Nat) (la : Option Addr) (cap L : Nat) (xs : List Int) (w : World) (hr : r <= 64) (hc : c <= 64) (hx : xs.length <= min r c) (hA : bc w L la xs) (hL : L <= 17592186044415) :
 Calls Tryz.prog 21 #[.int .i64 (r : Int), .int .i64 (c : Int), .slice la xs.length cap] w fun e w' => (∃ p : Option Addr × Nat, e = .returned (.tuple #[.agg #[.int .i64 (r : Int), .int .i64 (c : Int), .slice p.1 (r * c) p.2], .int .i64 0]) /\ dw w' p.1 (bD c (aS xs) (r * c)) /\ True /\ ∀ b o, p.1 = some ⟨b, o, none⟩ -> w.heap.size <= b) /\ Below w.heap.size w w' := by
 have s1 : cP (r : Int) = true := by unfold cP; simp; omega
 have s2 : cP (c : Int) = true := by unfold cP; simp; omega
 have hS1 : ∀ w', Calls Tryz.prog 22 #[.int .i64 (r : Int)] w' fun e w'' => e = .returned (.bool true) /\ Below w'.heap.size w' w'' := fun w' => (rf r w').mono fun e w'' ⟨h1, h2⟩ => ⟨by rw [h1, s1], h2 ▸ Below.refl _ _⟩;have hS2 : ∀ w', Calls Tryz.prog 22 #[.int .i64 (c : Int)] w' fun e w'' => e = .returned (.bool true) /\ Below w'.heap.size w' w'' := fun w' => (rf c w').mono fun e w'' ⟨h1, h2⟩ => ⟨by rw [h1, s2], h2 ▸ Below.refl _ _⟩;clear s1 s2;refine bJ (S0 := fun _ => False) Tryz.func21 ((Fr.nil _ w).l hA (by simp)) ?_;refine ak ?_;refine aW fun g5 => ?_;refine aW fun g6 => ?_;refine az ?_;refine c9 ?_;refine cV (fun w' H => hS1 w') ?_;refine dr ?_;refine dG ?_;refine nV (fun w' H => hS2 w') ?_;refine dG ?_;refine az ?_;refine gM ?_;refine ak ?_;refine aI ?_;refine dW ?_;refine dE (minI r c) ?_;obtain ⟨k, hk⟩ : ∃ k, min r c = k := ⟨_, rfl⟩;rw [hk] at hx |-;clear hk;refine gY ?_;refine ak ?_;refine dr ?_;refine fW ?_;refine jc (α := Option Addr × Nat) (mk := fun p => .agg #[.int .i64 (r : Int), .int .i64 (c : Int), .slice p.1 (r * c) p.2]) (ao := fun p => p.1) (xs := fun _ => bD c (aS xs) (r * c)) (A := fun _ => True)
  (fun w' H => (sK 44 (fun _ _ => by go_simp) r c g5 (aS xs) w' hr hc (fun i j w2 hi hj hb => by
   have h1 : a6 w' g5 22 [.slice la xs.length cap] := H.m1;have h2 : bc w' L la xs := H.m2;exact zY i j g5 la cap L xs w2 ((h1.below hb h1.lt).cell 0) (h2.below hb) hL)).mono (by
    rintro e w3 ⟨⟨ao, cap', rfl, hl, _, hS⟩, hb⟩;exact ⟨⟨(ao, cap'), rfl, hl, trivial, hS⟩, hb⟩)) fun q => ?_
 refine sW ?_;refine az ?_;refine fh fun w' H => ?_;exact ⟨_, _, xc H.m2, cH, ⟨q, rfl, H.m0, trivial, (show True /\ ∀ b o, q.1 = some ⟨b, o, none⟩ -> w.heap.size <= b from H.m1).2⟩, H.below⟩
theorem lD (b : Nat) : ∀ (us : List Value) (k : Nat) (w : World), w.setCells b k us = qB w b k us
 | [], _, _ => rfl
 | _ :: us, k, _ => lD b us (k + 1) _
theorem mC : ∀ (us : List Value) (k : Nat) (cs : List Value), (iZ cs k us).length = cs.length
 | [], _, _ => rfl
 | u :: us, k, cs => by rw [iZ, mC us, List.length_set]
section
variable {ops : Array Oper} {Q : Exit -> Act -> World -> Prop} {ds : List Deferred} {S0 : Nat -> Prop} {w0 : World} {E0 : List En} {hd : List (List Nat)} {n j s : Nat} {l : List Nat} {G E : List En} {ls : List (Nat × Value)} {ty : TypeId} {pos : String} {af : Array Edge}
end
theorem bc.up {w : World} {L L' : Nat} {ao : Option Addr} {xs : List Int} (h : bc w L ao xs) (hL : L <= L') : bc w L' ao xs := fun hl => by
 obtain ⟨b, o, e, hlt, hc⟩ := h hl;exact ⟨b, o, e, hlt, fun i hi => by obtain ⟨p, h0, h1, hn⟩ := hc i hi; exact ⟨p, h0, h1, hn.mono hL⟩⟩
theorem je {fn : Func} {p q : Tmp} (h : fn.results = #[.cell p 24, .tmp q]) (tmps : Array Value) (w : World) (g : Nat) (a b c : Value) (hp : tmps.getD p undef = .pointer (some ⟨g, 0, none⟩)) (hr : a6 w g 24 [a, b, c]) :
 (results fn tmps).run Tryz.prog w = .ok (.tuple #[.agg #[a, b, c], tmps.getD q undef]) w := by
 have hp' : tmps[p]?.getD undef = .pointer (some ⟨g, 0, none⟩) := by simpa using hp
 simp [results, h, hp', asAddr, run_loadVar_row w g 24 24 #[a, b, c] (0, 0) _ hr Tryz.underlying24 rfl (by kernel_rfl)]
theorem a6.Ch {w : World} {b : Nat} {t : TypeId} {x y z : Value} (h : a6 w b t [x, y, z]) (u v s : Value) : a6 (((w.setCell ⟨b, 0, none⟩ u).setCell ⟨b, 1, none⟩ v).setCell ⟨b, 2, none⟩ s) b t [u, v, s] := by
 have := ((h.set 0 u).set 1 v).set 2 s;exact this
theorem aK.dF (a b : Int) (ao : Option Addr) (l k : Nat) : aK [.int .i64 a, .int .i64 b, .slice ao l k] := aK.i64 (aK.i64 (aK.slice aK.nil))
theorem aJ.ua {w : World} {b : Nat} {xs : List Int} (h : aJ w b xs) {g : Nat} {x y : Int} {ao : Option Addr} {l k : Nat} (hr : a6 w g 24 [.int .i64 x, .int .i64 y, .slice ao l k]) (u v : Int) (ao' : Option Addr) (l' k' : Nat) : aJ (((w.setCell ⟨g, 0, none⟩ (.int .i64 u)).setCell ⟨g, 1, none⟩ (.int .i64 v)).setCell ⟨g, 2, none⟩ (.slice ao' l' k')) b xs := by
 have h1 := h.kF hr (by decide) (aK.dF x y ao l k) 0 (.int .i64 u);have r1 : a6 _ g 24 [.int .i64 u, .int .i64 y, .slice ao l k] := hr.set 0 (.int .i64 u);have h2 := h1.kF r1 (by decide) (aK.dF u y ao l k) 1 (.int .i64 v);have r2 : a6 _ g 24 [.int .i64 u, .int .i64 v, .slice ao l k] := r1.set 1 (.int .i64 v);exact h2.kF r2 (by decide) (aK.dF u v ao l k) 2 (.slice ao' l' k')
theorem yj (r c : Int) (ao : Option Addr) (len cap : Nat) (xs : List Int) (w : World) (hr : -9223372036854775808 <= r /\ r <= 9223372036854775807) (hc : -9223372036854775808 <= c /\ c <= 9223372036854775807) (h : bc w 17592186044415 ao xs) (hl : len = xs.length) (hs : aU r c len = true) (hlen : xs.length <= 8796093022208) :
 Calls Tryz.prog 88 #[.agg #[.int .i64 r, .int .i64 c, .slice ao len cap]] w fun e w' => (∃ b, e = .returned (.tuple #[.agg #[.int .i64 r, .int .i64 c, .slice (some ⟨b, 0, none⟩) xs.length xs.length], .int .i64 0]) /\ w.heap.size <= b /\ aJ w' b xs) /\ Below w.heap.size w w' := by
 subst hl;have HL := H5 h; clear h;have HS := H5 (fp hs); clear hs;go_enter Tryz.func88, Tryz.ntmps88;go_wp2_with fail
 obtain ⟨r1, r2, hb⟩ := gg w #[.int .i64 r, .int .i64 c, .slice ao xs.length cap] #[.int .i64 0, .int .i64 0, .slice none 0 0] 24 24;generalize (w.alloc (.cells #[.int .i64 r, .int .i64 c, .slice ao xs.length cap] 24)).alloc (.cells #[.int .i64 0, .int .i64 0, .slice none 0 0] 24) = w2 at *;refine (cY r c ao xs.length cap _ hr hc).mono ?_;rintro e w3 ⟨rfl, hb3⟩;rw [HS.out];have R1 := r1.below hb3 r1.lt;have R2 := H5 (r2.below hb3 r2.lt);have L3 := H5 ((HL.out.below hb).below hb3);have B3 := H5 (hb.trans (hb3.mono hb.size));have hs2 : w.heap.size + 1 < w3.heap.size := R2.out.lt;have e0 : w3.cell? ⟨w.heap.size, 0, none⟩ = some (.int .i64 r) := R1.cell 0;have e1 : w3.cell? ⟨w.heap.size, 1, none⟩ = some (.int .i64 c) := R1.cell 1;have e2 : w3.cell? ⟨w.heap.size, 2, none⟩ = some (.slice ao xs.length cap) := R1.cell 2;have hne : ¬ w.heap.size + 1 = w.heap.size := by omega
 have hlt : w.heap.size < w3.heap.size := by omega
 clear r1 r2 hb hb3 R1;go_wp2
 go_region_held3 (fun w' => w'.cell? ⟨w.heap.size, 0, none⟩ = some (.int .i64 r) /\ w'.cell? ⟨w.heap.size, 1, none⟩ = some (.int .i64 c) /\ w'.cell? ⟨w.heap.size, 2, none⟩ = some (.slice ao xs.length cap))
  (first
   | exact ⟨e0, e1, e2⟩
   | exact ⟨k0, k1, k2⟩
   | exact ⟨m0, m1, m2⟩)
  (first
   | (go_at_call 90; (refine (jn ao cap xs _ (bc.below (w := w3) L3.out (Below.refl _ _).drew) hlen).mono ?_); rintro e w4 ⟨⟨b, rfl, hbl, hRb⟩, hb4⟩; have k0 := (hb4.cell (p := ⟨w.heap.size, 0, none⟩) hlt).trans e0; have k1 := (hb4.cell (p := ⟨w.heap.size, 1, none⟩) hlt).trans e1; have k2 := (hb4.cell (p := ⟨w.heap.size, 2, none⟩) hlt).trans e2; have hR4 := a6.below (w := w3.drew) R2.out hb4 R2.out.lt; have z0 := hR4.cell 0; have z1 := hR4.cell 1; have z2 := hR4.cell 2; have y0 := hR4.free 0; have y1 := hR4.free 1; have y2 := hR4.free 2; have m0 := ((World.cell?_setCell_far _ ⟨w.heap.size + 1, 2, none⟩ ⟨w.heap.size, 0, none⟩ (.slice (some ⟨b, 0, none⟩) xs.length xs.length) hne).trans ((World.cell?_setCell_far _ ⟨w.heap.size + 1, 1, none⟩ ⟨w.heap.size, 0, none⟩ (.int .i64 c) hne).trans ((World.cell?_setCell_far w4 ⟨w.heap.size + 1, 0, none⟩ ⟨w.heap.size, 0, none⟩ (.int .i64 r) hne).trans k0))); have m1 := ((World.cell?_setCell_far _ ⟨w.heap.size + 1, 2, none⟩ ⟨w.heap.size, 1, none⟩ (.slice (some ⟨b, 0, none⟩) xs.length xs.length) hne).trans ((World.cell?_setCell_far _ ⟨w.heap.size + 1, 1, none⟩ ⟨w.heap.size, 1, none⟩ (.int .i64 c) hne).trans ((World.cell?_setCell_far w4 ⟨w.heap.size + 1, 0, none⟩ ⟨w.heap.size, 1, none⟩ (.int .i64 r) hne).trans k1))); have m2 := ((World.cell?_setCell_far _ ⟨w.heap.size + 1, 2, none⟩ ⟨w.heap.size, 2, none⟩ (.slice (some ⟨b, 0, none⟩) xs.length xs.length) hne).trans ((World.cell?_setCell_far _ ⟨w.heap.size + 1, 1, none⟩ ⟨w.heap.size, 2, none⟩ (.int .i64 c) hne).trans ((World.cell?_setCell_far w4 ⟨w.heap.size + 1, 0, none⟩ ⟨w.heap.size, 2, none⟩ (.int .i64 r) hne).trans k2)))))
 go_wp2;have hs4 := hb4.size;have hbl : w3.heap.size <= b := hbl;have hbw : Below w.heap.size w w4 := B3.out.drew.trans (hb4.mono B3.out.size);refine bodyPost_ret (je (p := 2) (q := 3) (by kernel_rfl) _ _ (w.heap.size + 1) _ _ _ rfl (hR4.Ch (.int .i64 r) (.int .i64 c) (.slice (some ⟨b, 0, none⟩) xs.length xs.length))) rfl ?_;exact ⟨⟨b, rfl, by omega, hRb.ua hR4 r c _ _ _⟩, ((hbw.setCell (p := ⟨w.heap.size + 1, 0, none⟩) (Nat.le_succ _) _).setCell (p := ⟨w.heap.size + 1, 1, none⟩) (Nat.le_succ _) _).setCell (p := ⟨w.heap.size + 1, 2, none⟩) (Nat.le_succ _) _⟩
theorem sU (r c : Int) (ao : Option Addr) (len cap : Nat) (xs : List Int) (w : World) (hr : -9223372036854775808 <= r /\ r <= 9223372036854775807) (hc : -9223372036854775808 <= c /\ c <= 9223372036854775807) (h : bc w 17592186044415 ao xs) (hl : len = xs.length) (hs : aU r c len = true) (hlen : xs.length <= 8796093022208) :
 Calls Tryz.prog 67 #[.agg #[.int .i64 r, .int .i64 c, .slice ao len cap]] w fun e w' => (∃ g b, e = .returned (.func (.func 89) #[] #[.pointer (some ⟨g, 0, none⟩)]) /\ w.heap.size <= g /\ w.heap.size <= b /\ a6 w' g 24 [.int .i64 r, .int .i64 c, .slice (some ⟨b, 0, none⟩) xs.length xs.length] /\ aJ w' b xs) /\ Below w.heap.size w w' := by
 subst hl;have HL := H5 h; clear h;have hb0 : Below w.heap.size w (w.alloc (.cells #[.int .i64 r, .int .i64 c, .slice ao xs.length cap] 24)) := (Below.refl _ _).alloc (Nat.le_refl _) _;have HB0 := H5 hb0; clear hb0;go_enter Tryz.func67, Tryz.ntmps67;go_wp2_with fail
 generalize w.alloc (.cells #[.int .i64 r, .int .i64 c, .slice ao xs.length cap] 24) = w1 at *;refine (yj r c ao xs.length cap xs _ hr hc (HL.out.below HB0.out) rfl hs hlen).mono ?_;rintro e w2 ⟨⟨b, rfl, hb, hR⟩, hb2⟩;have hbw : Below w.heap.size w w2 := HB0.out.trans (hb2.mono HB0.out.size);have hs1 := HB0.out.size;have HBW := H5 hbw; clear hbw;have HR := H5 hR; clear hR;have hs2 := hb2.size;clear hb2;go_wp2;go_ret;have hb3 : Below w2.heap.size w2 (w2.alloc (.cells #[.int .i64 r, .int .i64 c, .slice (some ⟨b, 0, none⟩) xs.length xs.length] 24)) := (Below.refl _ _).alloc (Nat.le_refl _) _;have hr3 := a6.new w2 #[.int .i64 r, .int .i64 c, .slice (some ⟨b, 0, none⟩) xs.length xs.length] 24;have hsz := HBW.out.size;exact ⟨⟨w2.heap.size, b, rfl, by omega, by omega, hr3, HR.out.below hb3⟩, HBW.out.trans (hb3.mono (by omega))⟩
def lead : List Int -> Nat
 | [] => 0
 | x :: xs => if x = 0 then lead xs + 1 else 0
theorem qJ : ∀ xs : List Int, lead xs <= xs.length
 | [] => Nat.le_refl _
 | x :: xs => by
  unfold lead; split
  . have := qJ xs; simp; omega
  . simp
theorem vv : ∀ (xs : List Int) (k : Nat) (h : k < xs.length), (∀ i (h' : i < k), xs[i]'(by omega) = 0) -> xs[k] ≠ 0 -> lead xs = k
 | x :: xs, 0, _, _, hn => by unfold lead; rw [if_neg]; simpa using hn
 | x :: xs, k + 1, h, hz, hn => by
  have h0 : x = 0 := hz 0 (by omega);unfold lead; rw [if_pos h0, vv xs k (by simpa using h) (fun i hi => by have := hz (i + 1) (by omega); simpa using this) (by simpa using hn)]
theorem sq : ∀ (xs : List Int), (∀ i (h : i < xs.length), xs[i] = 0) -> lead xs = xs.length
 | [], _ => rfl
 | x :: xs, hz => by
  have h0 : x = 0 := hz 0 (by simp);unfold lead; rw [if_pos h0, sq xs (fun i hi => by have := hz (i + 1) (by simpa using hi); simpa using this)]; rfl
theorem mx (b cap : Nat) (xs : List Int) (w : World) (hR : aJ w b xs) (hL : ∀ x ∈ xs, aa x.natAbs <= 17592186044415) (hlen : xs.length <= 9223372036854775807) :
 Calls Tryz.prog 114 #[.slice (some ⟨b, 0, none⟩) xs.length cap] w fun e w' => e = .returned (.int .i64 (lead xs : Nat)) /\ Below w.heap.size w w' := by
 have HL := H5 hL; clear hL;have HR := H5 hR; clear hR;go_enter Tryz.func114, Tryz.ntmps114;go_wp2;go_loopw [7] (fun i wr => ∃ k : Nat, k <= xs.length /\ i = .int .i64 (k : Int) /\ Hid (∀ j (h : j < k) (h' : j < xs.length), xs[j] = 0) /\ Below w.heap.size w wr) (fun i _ => xs.length - (intOf i).toNat)
 case atStart => exact ⟨0, Nat.zero_le _, rfl, fun j h => by omega, Below.refl _ _⟩
 case round =>
  obtain ⟨k, hk, rfl, hz, hb⟩ := hrel;by_cases hkl : k < xs.length
  . have hR2 := HR.out.below hb;obtain ⟨p, hc0, hc1, hn⟩ := hR2.get hkl;have hkl' : (k : Int) < (xs.length : Int) := by omega
    have HN := H5 hn;clear hn;go_wp2_with fail
    have hb1 : Below wr.heap.size wr (wr.alloc (.cells #[.bool p.fst, .slice p.snd.fst p.snd.snd.fst p.snd.snd.snd] 40)) := (Below.refl _ _).alloc (Nat.le_refl _) _;refine (cw (av p) xs[k] _ ((HN.out.int (HL.out _ (List.getElem_mem hkl))).below hb1)).mono ?_;rintro e w2 ⟨rfl, hb2⟩;have hb3 : Below w.heap.size w w2 := hb.trans ((hb1.trans (hb2.mono hb1.size)).mono hb.size);have HB3 := H5 hb3;clear hb1 hb2 hb3 hc0 hc1;by_cases h0 : xs[k] = 0
    . have hz0 : aP xs[k] = 0 := cK.2 h0;rw [hz0];have H0 := H5 h0;clear h0 hz0;go_wp2;go_roundw
      case rel => exact ⟨k + 1, by omega, by go_num, H5 (fun j hj hj' => (Nat.lt_succ_iff_lt_or_eq.1 hj).elim (fun h => hz.out j h hj') (fun h => by subst h; exact H0.out)), HB3.out⟩
      case measure => simp [intOf]; omega
    . have hn0 : ¬ aP xs[k] = 0 := fun h => h0 (cK.1 h);have hle := vv xs k hkl (fun i h' => hz.out i h' (by omega)) h0;have HLE := H5 hle;obtain ⟨s, hs⟩ : ∃ s, aP xs[k] = s := ⟨_, rfl⟩;rw [hs] at hn0 |-;have hb0 : (s != 0) = true := by simpa using hn0
      clear h0 hle hs;go_wp2;go_ret;rw [HLE.out];exact ⟨rfl, HB3.out⟩
  . obtain rfl : k = xs.length := by omega
    have hle := sq xs (fun i h => hz.out i h h);have HLE := H5 hle;clear hle;go_wp2;go_ret;rw [HLE.out];exact ⟨rfl, hb⟩
def fT (k : Int) (xs ys : List Int) : List Int := List.zipWith (fun x y => k * y + x) xs ys
def jd (k : Int) (xs ys cu : List Int) (m : Nat) : Prop := cu.length = xs.length /\ (∀ j (h : j < cu.length) (h1 : j < xs.length) (h2 : j < ys.length), j < m -> cu[j] = k * ys[j] + xs[j]) /\ (∀ j (h : j < cu.length) (h1 : j < xs.length), m <= j -> cu[j] = xs[j])
theorem jd.start (k : Int) (xs ys : List Int) : jd k xs ys xs 0 := ⟨rfl, fun _ _ _ _ h => by omega, fun _ _ _ _ => rfl⟩
theorem jd.next {k : Int} {xs ys cu : List Int} {m : Nat} (h : jd k xs ys cu m) (hm : m < xs.length) (hl : xs.length = ys.length) : jd k xs ys (cu.set m (k * ys[m] + xs[m])) (m + 1) := by
 obtain ⟨h1, h2, h3⟩ := h;refine ⟨by simpa using h1, fun j hj hx hy hjm => ?_, fun j hj hx hjm => ?_⟩
 . rw [List.getElem_set];split
   . rename_i e; subst e; rfl
   . exact h2 j (by simpa using hj) hx hy (by omega)
 . rw [List.getElem_set, if_neg (by omega)];exact h3 j (by simpa using hj) hx (by omega)
theorem jd.skip {k : Int} {xs ys cu : List Int} {m : Nat} (h : jd k xs ys cu m) (hm : m < xs.length) (hl : xs.length = ys.length) (h0 : ys[m] = 0) : jd k xs ys cu (m + 1) := by
 obtain ⟨h1, h2, h3⟩ := h;refine ⟨h1, fun j hj hx hy hjm => ?_, fun j hj hx hjm => h3 j hj hx (by omega)⟩;by_cases e : j = m
 . subst e; rw [h3 j hj hx (Nat.le_refl _), h0]; simp
 . exact h2 j hj hx hy (by omega)
theorem jd.all {k : Int} {xs ys cu : List Int} (h : jd k xs ys cu xs.length) (hl : xs.length = ys.length) : cu = fT k xs ys := by
 obtain ⟨h1, h2, h3⟩ := h;refine List.ext_getElem (by simp [fT, h1, <- hl]) fun j hj hj' => ?_;rw [h2 j hj (by omega) (by omega) (by omega)];simp [fT]
theorem y8 (bx by_ cx cy LA LB : Nat) (xs ys : List Int) (kv : Value) (k : Int) (w : World) (hX : aJ w bx xs) (hY : aJ w by_ ys) (hK : a8 w LA kv k) (hne : bx ≠ by_) (hl : xs.length = ys.length)
 (hxL : ∀ x ∈ xs, aa x.natAbs <= 17592186044415) (hyL : ∀ y ∈ ys, aa y.natAbs <= LB) (hLab : LA + LB <= 17592186044415) (hlen : xs.length <= 4611686018427387903) :
 Calls Tryz.prog 131 #[.slice (some ⟨bx, 0, none⟩) xs.length cx, .slice (some ⟨by_, 0, none⟩) ys.length cy, kv] w fun e w' => e = .returned (.tuple #[]) /\ aJ w' bx (fT k xs ys) /\ aO (· = bx) w w' := by
 obtain ⟨kp, rfl⟩ := hK.parts;have HX := H5 hX; clear hX;have HY := H5 hY; clear hY;have HK := H5 hK; clear hK;have HXL := H5 hxL; clear hxL;have HYL := H5 hyL; clear hyL;have Hl := H5 hl; clear hl;go_enter Tryz.func131, Tryz.ntmps131;unfold av at *;go_wp2;have hb1 : Below w.heap.size w (w.alloc (.cells #[.bool kp.1, .slice kp.2.1 kp.2.2.1 kp.2.2.2] 40)) := (Below.refl _ _).alloc (Nat.le_refl _) _;have hr1 := a6.new w #[.bool kp.1, .slice kp.2.1 kp.2.2.1 kp.2.2.2] 40;generalize w.alloc (.cells #[.bool kp.1, .slice kp.2.1 kp.2.2.1 kp.2.2.2] 40) = w1 at *;have HB1 := H5 (aO.bF (S := (· = bx)) hb1);have HX1 := H5 (HX.out.below hb1);have HY1 := H5 (HY.out.below hb1);have HK1 := H5 (HK.out.below hb1);have HR1 := H5 hr1;have hs1 : w.heap.size < w1.heap.size := hr1.lt;have hbx := HX.out.lt;have hby := HY.out.lt;clear hr1 hb1;go_loopw [9] (fun i wr => ∃ (m : Nat) (cu : List Int), m <= xs.length /\ i = .int .i64 (m : Int) /\ Hid (jd k xs ys cu m) /\ Hid (aJ wr bx cu) /\ Hid (aJ wr by_ ys) /\ Hid (a6 wr w.heap.size 40 [.bool kp.1, .slice kp.2.1 kp.2.2.1 kp.2.2.2]) /\ Hid (a8 wr LA (av kp) k) /\ Hid (aO (· = bx) w wr)) (fun i _ => xs.length - (intOf i).toNat)
 case atStart => exact ⟨0, xs, Nat.zero_le _, rfl, jd.start .., HX1, HY1, HR1, HK1, HB1⟩
 case round =>
  obtain ⟨m, cu, hm, rfl, HA, hX, hY, hR, hK, hC⟩ := hrel;by_cases hml : m < xs.length
  . have hmy : m < ys.length := by have := Hl.out; omega
    have hmx : m < cu.length := by rw [HA.out.1]; exact hml
    have hm1 : (m : Int) < (ys.length : Int) := by omega
    have hm2 : (m : Int) < (xs.length : Int) := by omega
    obtain ⟨py, cy0, cy1, hny⟩ := hY.out.get hmy;have Hny := H5 hny; clear hny;go_wp2_with fail
    refine (cw (av py) ys[m] _ (Hny.out.int (by have := HYL.out _ (List.getElem_mem hmy); omega))).mono ?_;rintro e w2 ⟨rfl, hb2⟩;clear cy0 cy1;have X2 := H5 (hX.out.below hb2);have Y2 := H5 (hY.out.below hb2);have R2 := H5 (hR.out.below hb2 hR.out.lt);have K2 := H5 (hK.out.below hb2);have C2 := H5 (hC.out.below hb2);have N2 := H5 (Hny.out.below hb2);have hsw := hC.out.size;have hsw2 := hb2.size;have hswr := hR.out.lt;clear hX hY hR hK hC Hny hb2;by_cases h0 : ys[m] = 0
    . have hz0 : aP ys[m] = 0 := cK.2 h0;rw [hz0];have H0 := H5 h0;clear h0 hz0;go_wp2;go_roundw
      case rel => exact ⟨m + 1, cu, by omega, by go_num, HA.out.skip hml Hl.out H0.out, X2, Y2, R2, K2, C2⟩
      case measure => simp [intOf]; omega
    . have hn0 : ¬ aP ys[m] = 0 := fun h => h0 (cK.1 h);obtain ⟨s, hs⟩ : ∃ s, aP ys[m] = s := ⟨_, rfl⟩;rw [hs] at hn0 |-;have hb0 : (s != 0) = true := by simpa using hn0
      clear h0 hs;go_wp2;clear hb0 hn0;obtain ⟨px, cx0, cx1, hnx⟩ := X2.out.get hmx;obtain ⟨py, cy0, cy1, hny⟩ := Y2.out.get hmy;have ck0 : w2.cell? ⟨w.heap.size, 0, none⟩ = some (.bool kp.1) := R2.out.cell 0;have ck1 : w2.cell? ⟨w.heap.size, 1, none⟩ = some (.slice kp.2.1 kp.2.2.1 kp.2.2.2) := R2.out.cell 1;have hbx2 := X2.out.lt;have hby2 := Y2.out.lt;have hsk2 := R2.out.lt;have hxe : cu[m] = xs[m] := HA.out.2.2 m hmx hml (Nat.le_refl _);have hxw : aa (cu[m]).natAbs <= 17592186044415 := by rw [hxe]; exact HXL.out _ (List.getElem_mem hml)
      have hyw : aa (ys[m]).natAbs <= LB := HYL.out _ (List.getElem_mem hmy);have HXE := H5 hxe; clear hxe;have Hnx := H5 (hnx.int hxw); clear hnx;have Hny := H5 (hny.int hyw); clear hny;clear N2;refine cZ ⟨13, fun q_ => [18, 19, 20, 21, 22, 23, 24, 25, 26, 27, 28, 29, 30].getD q_ 0,
       fun q_ => [.val (.slice (some ⟨bx, 0, none⟩) xs.length cx), .val (.int .i64 (m : Int)), .val (.agg #[.bool kp.1, .slice kp.2.1 kp.2.2.1 kp.2.2.2]), .val (.slice (some ⟨by_, 0, none⟩) ys.length cy), .val (.int .i64 (m : Int)), .val (.pointer (some ⟨by_, m * 2, none⟩)), .val (.agg #[.bool py.1, .slice py.2.1 py.2.2.1 py.2.2.2]), .val (.slice (some ⟨bx, 0, none⟩) xs.length cx), .val (.int .i64 (m : Int)), .val (.pointer (some ⟨bx, m * 2, none⟩)), .val (.agg #[.bool px.1, .slice px.2.1 px.2.2.1 px.2.2.2]), .int 0 (k * ys[m] + cu[m]), .val (.pointer (some ⟨bx, m * 2, none⟩))].getD q_ .any,
       [],
       [(.agg #[.bool kp.1, .slice kp.2.1 kp.2.2.1 kp.2.2.2], .at_ LA k), (.agg #[.bool py.1, .slice py.2.1 py.2.2.1 py.2.2.2], .at_ LB ys[m]), (.agg #[.bool px.1, .slice px.2.1 px.2.2.1 px.2.2.2], .at_ 17592186044415 cu[m])],
       [],
       [], [(⟨w.heap.size, 0, none⟩, .bool kp.1), (⟨w.heap.size, 1, none⟩, .slice kp.2.1 kp.2.2.1 kp.2.2.2), (⟨by_, m * 2, none⟩, .bool py.1), (⟨by_, m * 2 + 1, none⟩, .slice py.2.1 py.2.2.1 py.2.2.2), (⟨bx, m * 2, none⟩, .bool px.1), (⟨bx, m * 2 + 1, none⟩, .slice px.2.1 px.2.2.1 px.2.2.2)], []⟩ [18, 19, 20, 21, 22, 23, 24, 25, 26, 27, 28, 29, 30] (w2.heap.size) (by kernel_rfl) (by kernel_rfl) (by kernel_rfl) (by kernel_rfl) (by kernel_rfl) ?_ ?_ ?_ ?_ ?_ ?_
      . exact bB (K2.out) (bB (Hny.out) (bB (Hnx.out) aR))
      . exact aR
      . exact bB (⟨ck0, by dsimp only; omega, aR⟩) (bB (⟨ck1, by dsimp only; omega, aR⟩) (bB (⟨cy0, by dsimp only; omega, aR⟩) (bB (⟨cy1, by dsimp only; omega, aR⟩) (bB (⟨cx0, by dsimp only; omega, aR⟩) (bB (⟨cx1, by dsimp only; omega, aR⟩) aR)))))
      . exact aR
      . refine ag ?_ (ag ?_ (ag ?_ (ag ?_ (ag ?_ (ag ?_ (ag ?_ (ag ?_ (ag ?_ (ag ?_ (ag ?_ (ag ?_ (ag ?_ jy))))))))))));any_goals (first | (intro L fx w' hJ hL hp hcl; have _ := ry hp (by decide +kernel); refine aM rfl fun K hK => ?_; go_simp; exact hJ.q hK (by kernel_rfl) rfl) | fail)
        . intro L fx w' hJ hL hp hcl;refine aM rfl fun K hK => ?_;have cl0 := (hJ.cells _ fl).1;have cl1 := (hJ.cells _ iP).1;try dsimp only at cl0 cl1
          go_simp;exact hJ.q hK (by kernel_rfl) rfl
        . intro L fx w' hJ hL hp hcl;have e3 := hJ.pt 3 21 (.slice (some ⟨by_, 0, none⟩) ys.length cy) rfl rfl rfl (hp 3 (by decide));rw [e3] at hJ |-; clear e3;have e4 := hJ.pt 4 22 (.int .i64 (m : Int)) rfl rfl rfl (hp 4 (by decide));rw [e4] at hJ |-; clear e4;refine aM rfl fun K hK => ?_;go_simp;exact hJ.q hK (by kernel_rfl) rfl
        . intro L fx w' hJ hL hp hcl;have e5 := hJ.pt 5 23 (.pointer (some ⟨by_, m * 2, none⟩)) rfl rfl rfl (hp 5 (by decide));rw [e5] at hJ |-; clear e5;refine aM rfl fun K hK => ?_;have cl0 := (hJ.cells _ oZ).1;have cl1 := (hJ.cells _ vV).1;try dsimp only at cl0 cl1
          go_simp;exact hJ.q hK (by kernel_rfl) rfl
        . intro L fx w' hJ hL hp hcl;have e7 := hJ.pt 7 25 (.slice (some ⟨bx, 0, none⟩) xs.length cx) rfl rfl rfl (hp 7 (by decide));rw [e7] at hJ |-; clear e7;have e8 := hJ.pt 8 26 (.int .i64 (m : Int)) rfl rfl rfl (hp 8 (by decide));rw [e8] at hJ |-; clear e8;refine aM rfl fun K hK => ?_;go_simp;exact hJ.q hK (by kernel_rfl) rfl
        . intro L fx w' hJ hL hp hcl;have e9 := hJ.pt 9 27 (.pointer (some ⟨bx, m * 2, none⟩)) rfl rfl rfl (hp 9 (by decide));rw [e9] at hJ |-; clear e9;refine aM rfl fun K hK => ?_;have cl0 := (hJ.cells _ BP).1;have cl1 := (hJ.cells _ mm5).1;try dsimp only at cl0 cl1
          go_simp;exact hJ.q hK (by kernel_rfl) rfl
        . intro L fx w' hJ hL hp hcl;have e2 := hJ.pt 2 20 (.agg #[.bool kp.1, .slice kp.2.1 kp.2.2.1 kp.2.2.2]) rfl rfl rfl (hp 2 (by decide));rw [e2] at hJ |-; clear e2;have e6 := hJ.pt 6 24 (.agg #[.bool py.1, .slice py.2.1 py.2.2.1 py.2.2.2]) rfl rfl rfl (hp 6 (by decide));rw [e6] at hJ |-; clear e6;have e10 := hJ.pt 10 28 (.agg #[.bool px.1, .slice px.2.1 px.2.2.1 px.2.2.2]) rfl rfl rfl (hp 10 (by decide));rw [e10] at hJ |-; clear e10;refine aM rfl fun K hK => ?_;go_simp;go_at_call 99;refine (lP _ _ _ k ys[m] cu[m] LA LB _ (show a8 w' (LA) (.agg #[.bool kp.1, .slice kp.2.1 kp.2.2.1 kp.2.2.2]) (k) from hJ.base _ fl) (show a8 w' (LB) (.agg #[.bool py.1, .slice py.2.1 py.2.2.1 py.2.2.2]) (ys[m]) from hJ.base _ iP) (show a8 w' (17592186044415) (.agg #[.bool px.1, .slice px.2.1 px.2.2.1 px.2.2.2]) (cu[m]) from hJ.base _ oZ) hLab).mono ?_;rintro e w4 ⟨⟨v5, rfl, h5⟩, hb4⟩;try dsimp only
          exact hK _ _ ⟨_, by kernel_rfl, hJ.gC 11 rfl (by kernel_rfl) hb4 (ae.mono h5 (Nat.zero_le _)) (by omega)⟩
        . intro L fx w' hJ hL hp hcl;have e0 := hJ.pt 0 18 (.slice (some ⟨bx, 0, none⟩) xs.length cx) rfl rfl rfl (hp 0 (by decide));rw [e0] at hJ |-; clear e0;have e1 := hJ.pt 1 19 (.int .i64 (m : Int)) rfl rfl rfl (hp 1 (by decide));rw [e1] at hJ |-; clear e1;refine aM rfl fun K hK => ?_;go_simp;exact hJ.q hK (by kernel_rfl) rfl
      . intro L x' w3 hL hJ;have hfr : Below w2.drew.heap.size w2.drew w3 := hJ.fr;have e11 : ae w3 0 (x' 29) (k * ys[m] + cu[m]) := hJ.slot 11 (by show 11 < 13; decide) (hL 11 (by show 11 < 13; decide));have e12 : x' 30 = .pointer (some ⟨bx, m * 2, none⟩) := hJ.slot 12 (by show 12 < 13; decide) (hL 12 (by show 12 < 13; decide));obtain ⟨pz, hpz⟩ := aN.parts e11.num;rw [hpz] at e11;unfold av at hpz;rw [aA (x := x') (d := 29) hpz];rw [aA (x := aZ x' 29 (.agg #[.bool pz.1, .slice pz.2.1 pz.2.2.1 pz.2.2.2])) (d := 30) (v := .pointer (some ⟨bx, m * 2, none⟩)) e12];clear hJ hL;have X3 := H5 (aJ.below (w := w2.drew) X2.out hfr);have Y3 := H5 (aJ.below (w := w2.drew) Y2.out hfr);have R3 := H5 (a6.below (w := w2.drew) R2.out hfr R2.out.lt);have K3 := H5 (a8.below (w := w2.drew) K2.out hfr);have C3 := H5 (C2.out.drew.below hfr);obtain ⟨pq, q0, q1, _⟩ := X3.out.get hmx;have q2 := X3.out.free (m * 2);have q3 := X3.out.free (m * 2 + 1);refine aM rfl fun K hK => ?_;go_simp;refine hK _ _ ⟨⟨aZ (aZ x' 29 (.agg #[.bool pz.1, .slice pz.2.1 pz.2.2.1 pz.2.2.2])) 30 (.pointer (some ⟨bx, m * 2, none⟩)), by kernel_rfl⟩, ?_⟩;clear hK q0 q1 q2 q3;go_wp2;go_roundw
        case rel =>
         refine ⟨m + 1, _, by omega, by go_num, ?_, H5 (X3.out.set m e11.num), H5 (X3.out.qY Y3.out (fun e => hne e.symm) m pz), H5 ((R3.out.other (by show w.heap.size ≠ bx; omega) _).other (by show w.heap.size ≠ bx; omega) _), H5 (X3.out.eB K3.out m pz), H5 ((C3.out.set rfl _).set rfl _)⟩;rw [HXE.out];exact HA.out.next hml Hl.out
        case measure => simp [intOf]; omega
  . obtain rfl : m = xs.length := by omega
    have he := HA.out.all Hl.out;have HE := H5 he;clear he;go_wp2;refine bodyPost_end (results_none (by kernel_rfl) _ _ _) rfl ?_;rw [<- HE.out];exact ⟨rfl, hX.out, hC.out⟩
def CV.cells (cs : List Value) : CV := CV.free (fun _ v => v = cs) (fun h _ => h) (fun h _ _ _ _ _ _ => h)
def gL (a b : Int) (xs ys : List Int) : List Int := List.zipWith (fun u v => a * u + b * v) xs ys
def jI (a b : Int) (xs ys zs cu : List Int) (m : Nat) : Prop := cu.length = zs.length /\ (∀ j (h : j < cu.length) (h1 : j < xs.length) (h2 : j < ys.length), j < m -> cu[j] = a * xs[j] + b * ys[j]) /\ (∀ j (h : j < cu.length) (h1 : j < zs.length), m <= j -> cu[j] = zs[j])
theorem jI.start (a b : Int) (xs ys zs : List Int) : jI a b xs ys zs zs 0 := ⟨rfl, fun _ _ _ _ h => by omega, fun _ _ _ _ => rfl⟩
theorem jI.next {a b : Int} {xs ys zs cu : List Int} {m : Nat} (h : jI a b xs ys zs cu m) (hx : m < xs.length) (hy : m < ys.length) : jI a b xs ys zs (cu.set m (a * xs[m] + b * ys[m])) (m + 1) := by
 obtain ⟨h1, h2, h3⟩ := h;refine ⟨by simpa using h1, fun j hj hx hy hjm => ?_, fun j hj hx hjm => ?_⟩
 . rw [List.getElem_set];split
   . rename_i e; subst e; rfl
   . exact h2 j (by simpa using hj) hx hy (by omega)
 . rw [List.getElem_set, if_neg (by omega)];exact h3 j (by simpa using hj) hx (by omega)
theorem jI.all {a b : Int} {xs ys zs cu : List Int} (h : jI a b xs ys zs cu xs.length) (hl : xs.length = ys.length) (hz : xs.length = zs.length) : cu = gL a b xs ys := by
 obtain ⟨h1, h2, h3⟩ := h;refine List.ext_getElem (by simp [gL, h1, <- hl, hz]) fun j hj hj' => ?_;rw [h2 j hj (by omega) (by omega) (by omega)];simp [gL]
theorem zd (bx by_ cx cy LA LB : Nat) (xs ys : List Int) (p q r s : P4) (a b c d : Int) (w : World) (hX : aJ w bx xs) (hY : aJ w by_ ys) (hA : a8 w LA (av p) a) (hB : a8 w LA (av q) b) (hC : a8 w LA (av r) c) (hD : a8 w LA (av s) d) (hne : bx ≠ by_) (hl : xs.length = ys.length)
 (hxL : ∀ x ∈ xs, aa x.natAbs <= LB) (hyL : ∀ y ∈ ys, aa y.natAbs <= LB) (hLab : LA + LB <= 17592186044415) (hlen : xs.length <= 4611686018427387903) :
 Calls Tryz.prog 133 #[.slice (some ⟨bx, 0, none⟩) xs.length cx, .slice (some ⟨by_, 0, none⟩) ys.length cy, .agg #[.bool p.1, .slice p.2.1 p.2.2.1 p.2.2.2, .bool q.1, .slice q.2.1 q.2.2.1 q.2.2.2, .bool r.1, .slice r.2.1 r.2.2.1 r.2.2.2, .bool s.1, .slice s.2.1 s.2.2.1 s.2.2.2]] w
  fun e w' => e = .returned (.tuple #[]) /\ aJ w' bx (gL a b xs ys) /\ aJ w' by_ (gL c d xs ys) /\ aO (fun k => k = bx \/ k = by_) w w' := by
 have HX := H5 hX; clear hX;have HY := H5 hY; clear hY;have HA := H5 hA; clear hA;have HB := H5 hB; clear hB;have HC := H5 hC; clear hC;have HD := H5 hD; clear hD;have HXL := H5 hxL; clear hxL;have HYL := H5 hyL; clear hyL;have Hl := H5 hl; clear hl;go_enter Tryz.func133, Tryz.ntmps133;unfold av at *;go_wp2;have hb1 : Below w.heap.size w (w.alloc (.cells #[.bool p.1, .slice p.2.1 p.2.2.1 p.2.2.2, .bool q.1, .slice q.2.1 q.2.2.1 q.2.2.2, .bool r.1, .slice r.2.1 r.2.2.1 r.2.2.2, .bool s.1, .slice s.2.1 s.2.2.1 s.2.2.2] 161)) := (Below.refl _ _).alloc (Nat.le_refl _) _;have hr1 := a6.new w #[.bool p.1, .slice p.2.1 p.2.2.1 p.2.2.2, .bool q.1, .slice q.2.1 q.2.2.1 q.2.2.2, .bool r.1, .slice r.2.1 r.2.2.1 r.2.2.2, .bool s.1, .slice s.2.1 s.2.2.1 s.2.2.2] 161;generalize w.alloc (.cells #[.bool p.1, .slice p.2.1 p.2.2.1 p.2.2.2, .bool q.1, .slice q.2.1 q.2.2.1 q.2.2.2, .bool r.1, .slice r.2.1 r.2.2.1 r.2.2.2, .bool s.1, .slice s.2.1 s.2.2.1 s.2.2.2] 161) = w1 at *;have HB1 := H5 (aO.bF (S := (fun k => k = bx \/ k = by_)) hb1);have HX1 := H5 (HX.out.below hb1);have HY1 := H5 (HY.out.below hb1);have HI1 : Hid (a8 w1 LA (av p) a /\ a8 w1 LA (av q) b /\ a8 w1 LA (av r) c /\ a8 w1 LA (av s) d) := H5 ⟨HA.out.below hb1, HB.out.below hb1, HC.out.below hb1, HD.out.below hb1⟩;have HR1 := H5 hr1;have hs1 : w.heap.size < w1.heap.size := hr1.lt;have hbx := HX.out.lt;have hby := HY.out.lt;clear hr1 hb1;go_loopw [11] (fun i wr => ∃ (m : Nat) (cu cv : List Int), m <= xs.length /\ i = .int .i64 (m : Int) /\ Hid (jI a b xs ys xs cu m) /\ Hid (jI c d xs ys ys cv m) /\ Hid (aJ wr bx cu) /\ Hid (aJ wr by_ cv) /\ Hid (a6 wr w.heap.size 161 [.bool p.1, .slice p.2.1 p.2.2.1 p.2.2.2, .bool q.1, .slice q.2.1 q.2.2.1 q.2.2.2, .bool r.1, .slice r.2.1 r.2.2.1 r.2.2.2, .bool s.1, .slice s.2.1 s.2.2.1 s.2.2.2]) /\ Hid (a8 wr LA (av p) a /\ a8 wr LA (av q) b /\ a8 wr LA (av r) c /\ a8 wr LA (av s) d) /\ Hid (aO (fun k => k = bx \/ k = by_) w wr)) (fun i _ => xs.length - (intOf i).toNat)
 case atStart => exact ⟨0, xs, ys, Nat.zero_le _, rfl, jI.start .., jI.start .., HX1, HY1, HR1, HI1, HB1⟩
 case round =>
  obtain ⟨m, cu, cv, hm, rfl, HU, HV, hX, hY, hR, hI, hC⟩ := hrel;by_cases hml : m < xs.length
  . have hmy : m < ys.length := by have := Hl.out; omega
    have hmx : m < cu.length := by rw [HU.out.1]; exact hml
    have hmv : m < cv.length := by rw [HV.out.1]; exact hmy
    have hm1 : (m : Int) < (ys.length : Int) := by omega
    have hm2 : (m : Int) < (xs.length : Int) := by omega
    go_wp2;obtain ⟨pu, cu0, cu1, hnu⟩ := hX.out.get hmx;obtain ⟨pv, cv0, cv1, hnv⟩ := hY.out.get hmv;have hxe : cu[m] = xs[m] := HU.out.2.2 m hmx hml (Nat.le_refl _);have hye : cv[m] = ys[m] := HV.out.2.2 m hmv hmy (Nat.le_refl _);rw [hxe] at hnu;rw [hye] at hnv;have hxw : aa (xs[m]).natAbs <= LB := HXL.out _ (List.getElem_mem hml);have hyw : aa (ys[m]).natAbs <= LB := HYL.out _ (List.getElem_mem hmy);have Hnu := H5 (hnu.int hxw);have Hnv := H5 (hnv.int hyw);clear hxe hye hnu hnv;have hbx2 := hX.out.lt;have hby2 := hY.out.lt;have hsk2 := hR.out.lt;have hswr := hC.out.size;refine eo ⟨12, fun q_ => [14, 15, 16, 17, 18, 19, 20, 21, 7, 8, 1010, 1011].getD q_ 0,
     fun q_ => [.val (.slice (some ⟨bx, 0, none⟩) xs.length cx), .val (.int .i64 (m : Int)), .val (.pointer (some ⟨bx, m * 2, none⟩)), .val (.agg #[.bool pu.1, .slice pu.2.1 pu.2.2.1 pu.2.2.2]), .val (.slice (some ⟨by_, 0, none⟩) ys.length cy), .val (.int .i64 (m : Int)), .val (.pointer (some ⟨by_, m * 2, none⟩)), .val (.agg #[.bool pv.1, .slice pv.2.1 pv.2.2.1 pv.2.2.2]), .ptr wr.heap.size 40 2, .ptr wr.heap.size 40 2, .any, .any].getD q_ .any,
     [],
     [],
     [],
     [(10, 7, 40, .cells [.bool pu.1, .slice pu.2.1 pu.2.2.1 pu.2.2.2]), (11, 8, 40, .cells [.bool pv.1, .slice pv.2.1 pv.2.2.1 pv.2.2.2])], [(⟨bx, m * 2, none⟩, .bool pu.1), (⟨bx, m * 2 + 1, none⟩, .slice pu.2.1 pu.2.2.1 pu.2.2.2), (⟨by_, m * 2, none⟩, .bool pv.1), (⟨by_, m * 2 + 1, none⟩, .slice pv.2.1 pv.2.2.1 pv.2.2.2)], [(8, 7), (9, 8)]⟩ [14, 15, 16, 17, 18, 19, 20, 21, 7, 8] (wr.heap.size) (by kernel_rfl) (by kernel_rfl) (by kernel_rfl) (by kernel_rfl) ?_ ?_ ?_ ?_ ?_ ?_
    . exact aR
    . exact aR
    . exact bB (⟨cu0, by dsimp only; omega, aR⟩) (bB (⟨cu1, by dsimp only; omega, aR⟩) (bB (⟨cv0, by dsimp only; omega, aR⟩) (bB (⟨cv1, by dsimp only; omega, aR⟩) aR)))
    . exact aR
    . refine ag ?_ (ag ?_ (ag ?_ (ag ?_ (ag ?_ (ag ?_ (ag ?_ (ag ?_ (ag ?_ (ag ?_ (ag ?_ (ag ?_ jy)))))))))));any_goals (first | (intro L fx w' hJ hL hp hcl; have _ := ry hp (by decide +kernel); refine aM rfl fun K hK => ?_; go_simp; exact hJ.q hK (by kernel_rfl) rfl) | fail)
      . intro L fx w' hJ hL hp hcl;have e0 := hJ.pt 0 14 (.slice (some ⟨bx, 0, none⟩) xs.length cx) rfl rfl rfl (hp 0 (by decide));rw [e0] at hJ |-; clear e0;have e1 := hJ.pt 1 15 (.int .i64 (m : Int)) rfl rfl rfl (hp 1 (by decide));rw [e1] at hJ |-; clear e1;refine aM rfl fun K hK => ?_;go_simp;exact hJ.q hK (by kernel_rfl) rfl
      . intro L fx w' hJ hL hp hcl;have e2 := hJ.pt 2 16 (.pointer (some ⟨bx, m * 2, none⟩)) rfl rfl rfl (hp 2 (by decide));rw [e2] at hJ |-; clear e2;refine aM rfl fun K hK => ?_;have cl0 := (hJ.cells _ fl).1;have cl1 := (hJ.cells _ iP).1;try dsimp only at cl0 cl1
        go_simp;exact hJ.q hK (by kernel_rfl) rfl
      . intro L fx w' hJ hL hp hcl;have e4 := hJ.pt 4 18 (.slice (some ⟨by_, 0, none⟩) ys.length cy) rfl rfl rfl (hp 4 (by decide));rw [e4] at hJ |-; clear e4;have e5 := hJ.pt 5 19 (.int .i64 (m : Int)) rfl rfl rfl (hp 5 (by decide));rw [e5] at hJ |-; clear e5;refine aM rfl fun K hK => ?_;go_simp;exact hJ.q hK (by kernel_rfl) rfl
      . intro L fx w' hJ hL hp hcl;have e6 := hJ.pt 6 20 (.pointer (some ⟨by_, m * 2, none⟩)) rfl rfl rfl (hp 6 (by decide));rw [e6] at hJ |-; clear e6;refine aM rfl fun K hK => ?_;have cl0 := (hJ.cells _ oZ).1;have cl1 := (hJ.cells _ vV).1;try dsimp only at cl0 cl1
        go_simp;exact hJ.q hK (by kernel_rfl) rfl
      . intro L fx w' hJ hL hp hcl;have hg0 : wr.heap.size <= w'.heap.size := Nat.le_trans (by omega : wr.heap.size <= wr.heap.size) hJ.size;refine aM rfl fun K hK => ?_;go_simp;exact hK _ _ ⟨_, by kernel_rfl, hJ.grow 8 (by show 8 < 12; decide) _ (by kernel_rfl) (by kernel_rfl) (by intro t ht; rcases mc ht with rfl | ht; exact ⟨by show 10 ≠ 8; decide, fun _ => by cases hh : L 10 with | false => rfl | true => have := hcl 10 (by show 10 < 12; decide) hh 8 (by decide); rw [hL] at this; cases this⟩; rcases mc ht with rfl | ht; exact ⟨by show 11 ≠ 8; decide, fun h => absurd (show 8 = 7 from h) (by decide)⟩; cases ht) (by intro p hp; rcases mc hp with rfl | hp; exact ⟨⟨fun _ => rfl, fun _ => rfl⟩, fun _ q hq hne hLq => (by rcases mc hq with rfl | hq; exact absurd rfl hne; rcases mc hq with rfl | hq; (obtain ⟨g9, cs9, hx9, _, hr9, _⟩ := hJ.slot 9 (by show 9 < 12; decide) hLq; have hx9 : fx 8 = _ := hx9; show _ ≠ fx 8; rw [hx9]; intro e9; injection e9 with e9; injection e9 with e9; injection e9 with e9; exact absurd e9 (Nat.ne_of_gt hr9.lt)); cases hq)⟩; rcases mc hp with rfl | hp; exact ⟨⟨fun h => absurd (show 9 = 8 from h) (by decide), fun h => absurd (show 8 = 7 from h) (by decide)⟩, fun h => absurd (show 9 = 8 from h) (by decide)⟩; cases hp) ((Below.refl _ _).alloc (Nat.le_refl _) _) ⟨w'.heap.size, _, rfl, hJ.size, a6.new _ _ _, aK.two _ _ _ _, rfl⟩ hg0⟩
      . intro L fx w' hJ hL hp hcl;have hg0 : wr.heap.size <= w'.heap.size := Nat.le_trans (by omega : wr.heap.size <= wr.heap.size) hJ.size;refine aM rfl fun K hK => ?_;go_simp;exact hK _ _ ⟨_, by kernel_rfl, hJ.grow 9 (by show 9 < 12; decide) _ (by kernel_rfl) (by kernel_rfl) (by intro t ht; rcases mc ht with rfl | ht; exact ⟨by show 10 ≠ 9; decide, fun h => absurd (show 7 = 8 from h) (by decide)⟩; rcases mc ht with rfl | ht; exact ⟨by show 11 ≠ 9; decide, fun _ => by cases hh : L 11 with | false => rfl | true => have := hcl 11 (by show 11 < 12; decide) hh 9 (by decide); rw [hL] at this; cases this⟩; cases ht) (by intro p hp; rcases mc hp with rfl | hp; exact ⟨⟨fun h => absurd (show 8 = 9 from h) (by decide), fun h => absurd (show 7 = 8 from h) (by decide)⟩, fun h => absurd (show 8 = 9 from h) (by decide)⟩; rcases mc hp with rfl | hp; exact ⟨⟨fun _ => rfl, fun _ => rfl⟩, fun _ q hq hne hLq => (by rcases mc hq with rfl | hq; (obtain ⟨g9, cs9, hx9, _, hr9, _⟩ := hJ.slot 8 (by show 8 < 12; decide) hLq; have hx9 : fx 7 = _ := hx9; show _ ≠ fx 7; rw [hx9]; intro e9; injection e9 with e9; injection e9 with e9; injection e9 with e9; exact absurd e9 (Nat.ne_of_gt hr9.lt)); rcases mc hq with rfl | hq; exact absurd rfl hne; cases hq)⟩; cases hp) ((Below.refl _ _).alloc (Nat.le_refl _) _) ⟨w'.heap.size, _, rfl, hJ.size, a6.new _ _ _, aK.two _ _ _ _, rfl⟩ hg0⟩
      . intro L fx w' hJ hL hp hcl;have e8 := hJ.slot 8 (by show 8 < 12; decide) (hp 8 (by decide));have e3 := hJ.pt 3 17 (.agg #[.bool pu.1, .slice pu.2.1 pu.2.2.1 pu.2.2.2]) rfl rfl rfl (hp 3 (by decide));rw [e3] at hJ |-; clear e3;obtain ⟨g, cs, hx, hgB, hr0, hn0, hl0⟩ := e8;obtain ⟨z0, z1, rfl⟩ : ∃ z0 z1, cs = [z0, z1] := mE hl0;have hf0 := a6.free hr0 0;have hc0 := a6.cell hr0 0;have hf1 := a6.free hr0 1;have hc1 := a6.cell hr0 1;try dsimp only at hf0 hc0 hf1 hc1
        have hx1 := hx;rw [aA (x := (aZ fx 17 (.agg #[.bool pu.1, .slice pu.2.1 pu.2.2.1 pu.2.2.2]))) (d := 7) hx] at hJ |-;refine aM rfl fun K hK => ?_;go_simp;exact hK _ _ ⟨_, by kernel_rfl, hJ.fs (us := [.bool pu.1, .slice pu.2.1 pu.2.2.1 pu.2.2.2]) 10 7 _ _ (by show 10 < 12; decide) rfl fl (by intro t ht h; rcases mc ht with rfl | ht; rfl; rcases mc ht with rfl | ht; exact absurd (show 11 = 10 from h) (by decide); cases ht) (by intro t ht hne hLt; rcases mc ht with rfl | ht; exact absurd rfl hne; rcases mc ht with rfl | ht; exact hJ.apart (9, 8) iP (8, 7) fl (by show 9 ≠ 8; decide) (hcl 11 (by show 11 < 12; decide) hLt 9 (by decide)) (hp 8 (by decide)); cases ht) (by kernel_rfl) (by kernel_rfl) (by decide) (by rfl) hgB hr0 hn0 rfl (aK.two _ _ _ _) rfl (by omega)⟩
      . intro L fx w' hJ hL hp hcl;have e9 := hJ.slot 9 (by show 9 < 12; decide) (hp 9 (by decide));have e7 := hJ.pt 7 21 (.agg #[.bool pv.1, .slice pv.2.1 pv.2.2.1 pv.2.2.2]) rfl rfl rfl (hp 7 (by decide));rw [e7] at hJ |-; clear e7;obtain ⟨g, cs, hx, hgB, hr0, hn0, hl0⟩ := e9;obtain ⟨z0, z1, rfl⟩ : ∃ z0 z1, cs = [z0, z1] := mE hl0;have hf0 := a6.free hr0 0;have hc0 := a6.cell hr0 0;have hf1 := a6.free hr0 1;have hc1 := a6.cell hr0 1;try dsimp only at hf0 hc0 hf1 hc1
        have hx1 := hx;rw [aA (x := (aZ fx 21 (.agg #[.bool pv.1, .slice pv.2.1 pv.2.2.1 pv.2.2.2]))) (d := 8) hx] at hJ |-;refine aM rfl fun K hK => ?_;go_simp;exact hK _ _ ⟨_, by kernel_rfl, hJ.fs (us := [.bool pv.1, .slice pv.2.1 pv.2.2.1 pv.2.2.2]) 11 8 _ _ (by show 11 < 12; decide) rfl iP (by intro t ht h; rcases mc ht with rfl | ht; exact absurd (show 10 = 11 from h) (by decide); rcases mc ht with rfl | ht; rfl; cases ht) (by intro t ht hne hLt; rcases mc ht with rfl | ht; exact hJ.apart (8, 7) fl (9, 8) iP (by show 8 ≠ 9; decide) (hcl 10 (by show 10 < 12; decide) hLt 8 (by decide)) (hp 9 (by decide)); rcases mc ht with rfl | ht; exact absurd rfl hne; cases ht) (by kernel_rfl) (by kernel_rfl) (by decide) (by rfl) hgB hr0 hn0 rfl (aK.two _ _ _ _) rfl (by omega)⟩
    . intro L x' w3 hL hJ;have hfr : Below wr.drew.heap.size wr.drew w3 := hJ.fr;obtain ⟨g7, cs7, hx7, hg7, hr7, hcs7⟩ := hJ.new _ fl (hL 10 (by show 10 < 12; decide));obtain ⟨g8, cs8, hx8, hg8, hr8, hcs8⟩ := hJ.new _ iP (hL 11 (by show 11 < 12; decide));obtain rfl : cs7 = _ := hcs7;obtain rfl : cs8 = _ := hcs8;have hx7 : x' 7 = _ := hx7;have hx8 : x' 8 = _ := hx8;rw [aA (x := x') (d := 7) hx7];rw [aA (x := aZ x' 7 (.pointer (some ⟨g7, 0, none⟩))) (d := 8) (v := .pointer (some ⟨g8, 0, none⟩)) hx8];have hg7 : wr.heap.size <= g7 := hg7;have hg8 : wr.heap.size <= g8 := hg8;have RG : Hid (a6 w3 g7 40 [.bool pu.1, .slice pu.2.1 pu.2.2.1 pu.2.2.2]) := H5 hr7;have RH : Hid (a6 w3 g8 40 [.bool pv.1, .slice pv.2.1 pv.2.2.1 pv.2.2.2]) := H5 hr8;clear hJ hL hx7 hx8 hr7 hr8 cu0 cu1 cv0 cv1;simp only [pN, Nat.reduceEqDiff, ↓reduceIte];go_wp2;have X3 := H5 (aJ.below (w := wr.drew) hX.out hfr);have Y3 := H5 (aJ.below (w := wr.drew) hY.out hfr);have R3 := H5 (a6.below (w := wr.drew) hR.out hfr hR.out.lt);have A3 := H5 (a8.below (w := wr.drew) hI.out.1 hfr);have B3 := H5 (a8.below (w := wr.drew) hI.out.2.1 hfr);have D3 := H5 (a8.below (w := wr.drew) hI.out.2.2.1 hfr);have E3 := H5 (a8.below (w := wr.drew) hI.out.2.2.2 hfr);have U3 := H5 (a8.below (w := wr.drew) Hnu.out hfr);have V3 := H5 (a8.below (w := wr.drew) Hnv.out hfr);have C3 := H5 (hC.out.drew.below hfr);have hs3 := hfr.size;have hs3' : wr.drew.heap.size = wr.heap.size := rfl;have hg7' := RG.out.lt;have hg8' := RH.out.lt;clear hX hY hR hI hC Hnu Hnv hfr;have hwb : aa b.natAbs <= LA := HB.out.aa;have hwd : aa d.natAbs <= LA := HD.out.aa;refine cZ ⟨13, fun q_ => [22, 23, 24, 25, 26, 27, 28, 29, 30, 31, 32, 33, 34].getD q_ 0,
       fun q_ => [.val (.slice (some ⟨bx, 0, none⟩) xs.length cx), .val (.int .i64 (m : Int)), .val (.pointer (some ⟨w.heap.size, 0, none⟩)), .val (.pointer (some ⟨w.heap.size, 0, none⟩)), .val (.agg #[.bool p.1, .slice p.2.1 p.2.2.1 p.2.2.2]), .val (.agg #[.bool pu.1, .slice pu.2.1 pu.2.2.1 pu.2.2.2]), .val (.pointer (some ⟨w.heap.size, 0, none⟩)), .val (.pointer (some ⟨w.heap.size, 2, none⟩)), .val (.agg #[.bool q.1, .slice q.2.1 q.2.2.1 q.2.2.2]), .val (.agg #[.bool pv.1, .slice pv.2.1 pv.2.2.1 pv.2.2.2]), .int 0 (b * ys[m]), .int 0 (a * xs[m] + b * ys[m]), .val (.pointer (some ⟨bx, m * 2, none⟩))].getD q_ .any,
       [],
       [(.agg #[.bool p.1, .slice p.2.1 p.2.2.1 p.2.2.2], .at_ LA a), (.agg #[.bool q.1, .slice q.2.1 q.2.2.1 q.2.2.2], .at_ LA b), (.agg #[.bool pu.1, .slice pu.2.1 pu.2.2.1 pu.2.2.2], .at_ LB xs[m]), (.agg #[.bool pv.1, .slice pv.2.1 pv.2.2.1 pv.2.2.2], .at_ LB ys[m])],
       [(w.heap.size, 161, [.bool p.1, .slice p.2.1 p.2.2.1 p.2.2.2, .bool q.1, .slice q.2.1 q.2.2.1 q.2.2.2, .bool r.1, .slice r.2.1 r.2.2.1 r.2.2.2, .bool s.1, .slice s.2.1 s.2.2.1 s.2.2.2]), (g7, 40, [.bool pu.1, .slice pu.2.1 pu.2.2.1 pu.2.2.2]), (g8, 40, [.bool pv.1, .slice pv.2.1 pv.2.2.1 pv.2.2.2])],
       [], [], []⟩ [22, 23, 24, 25, 26, 27, 28, 29, 30, 31, 32, 33, 34] (w3.heap.size) (by kernel_rfl) (by kernel_rfl) (by kernel_rfl) (by kernel_rfl) (by kernel_rfl) ?_ ?_ ?_ ?_ ?_ ?_
      . exact bB (A3.out) (bB (B3.out) (bB (U3.out) (bB (V3.out) aR)))
      . exact bB (⟨R3.out, (R3.out).lt, aR⟩) (bB (⟨RG.out, (RG.out).lt, aR⟩) (bB (⟨RH.out, (RH.out).lt, aR⟩) aR))
      . exact aR
      . exact aR
      . refine ag ?_ (ag ?_ (ag ?_ (ag ?_ (ag ?_ (ag ?_ (ag ?_ (ag ?_ (ag ?_ (ag ?_ (ag ?_ (ag ?_ (ag ?_ jy))))))))))));any_goals (first | (intro L fx w' hJ hL hp hcl; have _ := ry hp (by decide +kernel); refine aM rfl fun K hK => ?_; go_simp; exact hJ.q hK (by kernel_rfl) rfl) | fail)
        . intro L fx w' hJ hL hp hcl;have e2 := hJ.pt 2 24 (.pointer (some ⟨w.heap.size, 0, none⟩)) rfl rfl rfl (hp 2 (by decide));rw [e2] at hJ |-; clear e2;refine aM rfl fun K hK => ?_;go_simp;exact hJ.q hK (by kernel_rfl) rfl
        . intro L fx w' hJ hL hp hcl;have e3 := hJ.pt 3 25 (.pointer (some ⟨w.heap.size, 0, none⟩)) rfl rfl rfl (hp 3 (by decide));rw [e3] at hJ |-; clear e3;refine aM rfl fun K hK => ?_;have rw0 := (hJ.rows _ fl).1;have cl0 : w'.cell? ⟨w.heap.size, 0, none⟩ = some (.bool p.1) := rw0.cell 0;have cl1 : w'.cell? ⟨w.heap.size, 1, none⟩ = some (.slice p.2.1 p.2.2.1 p.2.2.2) := rw0.cell 1;go_simp;exact hJ.q hK (by kernel_rfl) rfl
        . intro L fx w' hJ hL hp hcl;refine aM rfl fun K hK => ?_;have rw0 := (hJ.rows _ iP).1;have cl0 : w'.cell? ⟨g7, 0, none⟩ = some (.bool pu.1) := rw0.cell 0;have cl1 : w'.cell? ⟨g7, 1, none⟩ = some (.slice pu.2.1 pu.2.2.1 pu.2.2.2) := rw0.cell 1;go_simp;exact hJ.q hK (by kernel_rfl) rfl
        . intro L fx w' hJ hL hp hcl;have e6 := hJ.pt 6 28 (.pointer (some ⟨w.heap.size, 0, none⟩)) rfl rfl rfl (hp 6 (by decide));rw [e6] at hJ |-; clear e6;refine aM rfl fun K hK => ?_;go_simp;exact hJ.q hK (by kernel_rfl) rfl
        . intro L fx w' hJ hL hp hcl;have e7 := hJ.pt 7 29 (.pointer (some ⟨w.heap.size, 2, none⟩)) rfl rfl rfl (hp 7 (by decide));rw [e7] at hJ |-; clear e7;refine aM rfl fun K hK => ?_;have rw0 := (hJ.rows _ fl).1;have cl0 : w'.cell? ⟨w.heap.size, 2, none⟩ = some (.bool q.1) := rw0.cell 2;have cl1 : w'.cell? ⟨w.heap.size, 3, none⟩ = some (.slice q.2.1 q.2.2.1 q.2.2.2) := rw0.cell 3;go_simp;exact hJ.q hK (by kernel_rfl) rfl
        . intro L fx w' hJ hL hp hcl;refine aM rfl fun K hK => ?_;have rw0 := (hJ.rows _ oZ).1;have cl0 : w'.cell? ⟨g8, 0, none⟩ = some (.bool pv.1) := rw0.cell 0;have cl1 : w'.cell? ⟨g8, 1, none⟩ = some (.slice pv.2.1 pv.2.2.1 pv.2.2.2) := rw0.cell 1;go_simp;exact hJ.q hK (by kernel_rfl) rfl
        . intro L fx w' hJ hL hp hcl;have e8 := hJ.pt 8 30 (.agg #[.bool q.1, .slice q.2.1 q.2.2.1 q.2.2.2]) rfl rfl rfl (hp 8 (by decide));rw [e8] at hJ |-; clear e8;have e9 := hJ.pt 9 31 (.agg #[.bool pv.1, .slice pv.2.1 pv.2.2.1 pv.2.2.2]) rfl rfl rfl (hp 9 (by decide));rw [e9] at hJ |-; clear e9;refine aM rfl fun K hK => ?_;go_simp;go_at_call 36;refine (ie _ _ b ys[m] LA LB _ (show a8 w' (LA) (.agg #[.bool q.1, .slice q.2.1 q.2.2.1 q.2.2.2]) (b) from hJ.base _ iP) (show a8 w' (LB) (.agg #[.bool pv.1, .slice pv.2.1 pv.2.2.1 pv.2.2.2]) (ys[m]) from hJ.base _ vV) hLab).mono ?_;rintro e w4 ⟨⟨v5, rfl, h5⟩, hb4⟩;try dsimp only
          exact hK _ _ ⟨_, by kernel_rfl, hJ.gC 10 rfl (by kernel_rfl) hb4 (ae.mono h5 (Nat.zero_le _)) (by omega)⟩
        . intro L fx w' hJ hL hp hcl;have e10 := hJ.slot 10 (by show 10 < 13; decide) (hp 10 (by decide));have e4 := hJ.pt 4 26 (.agg #[.bool p.1, .slice p.2.1 p.2.2.1 p.2.2.2]) rfl rfl rfl (hp 4 (by decide));rw [e4] at hJ |-; clear e4;have e5 := hJ.pt 5 27 (.agg #[.bool pu.1, .slice pu.2.1 pu.2.2.1 pu.2.2.2]) rfl rfl rfl (hp 5 (by decide));rw [e5] at hJ |-; clear e5;refine aM rfl fun K hK => ?_;go_simp;go_at_call 99;refine (lP _ _ _ a xs[m] (b * ys[m]) LA LB _ (show a8 w' (LA) (.agg #[.bool p.1, .slice p.2.1 p.2.2.1 p.2.2.2]) (a) from hJ.base _ fl) (show a8 w' (LB) (.agg #[.bool pu.1, .slice pu.2.1 pu.2.2.1 pu.2.2.2]) (xs[m]) from hJ.base _ oZ) (ae.int (show ae w' _ (fx 32) _ from e10) (by rw [Int.natAbs_mul]; exact Nat.le_trans (eO _ _) (Nat.le_trans (Nat.add_le_add hwb hyw) hLab))) hLab).mono ?_;rintro e w4 ⟨⟨v5, rfl, h5⟩, hb4⟩;try dsimp only
          exact hK _ _ ⟨_, by kernel_rfl, hJ.gC 11 rfl (by kernel_rfl) hb4 (ae.mono h5 (Nat.zero_le _)) (by omega)⟩
        . intro L fx w' hJ hL hp hcl;have e0 := hJ.pt 0 22 (.slice (some ⟨bx, 0, none⟩) xs.length cx) rfl rfl rfl (hp 0 (by decide));rw [e0] at hJ |-; clear e0;have e1 := hJ.pt 1 23 (.int .i64 (m : Int)) rfl rfl rfl (hp 1 (by decide));rw [e1] at hJ |-; clear e1;refine aM rfl fun K hK => ?_;go_simp;exact hJ.q hK (by kernel_rfl) rfl
      . intro L x' w3b hL hJ;have hfr : Below w3.drew.heap.size w3.drew w3b := hJ.fr;have e11 : ae w3b 0 (x' 33) (a * xs[m] + b * ys[m]) := hJ.slot 11 (by show 11 < 13; decide) (hL 11 (by show 11 < 13; decide));have e12 : x' 34 = .pointer (some ⟨bx, m * 2, none⟩) := hJ.slot 12 (by show 12 < 13; decide) (hL 12 (by show 12 < 13; decide));obtain ⟨pz3, hpz⟩ := aN.parts e11.num;rw [hpz] at e11;unfold av at hpz;rw [aA (x := x') (d := 33) hpz];rw [aA (x := aZ x' 33 (.agg #[.bool pz3.1, .slice pz3.2.1 pz3.2.2.1 pz3.2.2.2])) (d := 34) (v := .pointer (some ⟨bx, m * 2, none⟩)) e12];clear hJ hL;have X4 := H5 (aJ.below (w := w3.drew) X3.out hfr);have Y4 := H5 (aJ.below (w := w3.drew) Y3.out hfr);have R4 := H5 (a6.below (w := w3.drew) R3.out hfr R3.out.lt);have RG := H5 (a6.below (w := w3.drew) RG.out hfr RG.out.lt);have RH := H5 (a6.below (w := w3.drew) RH.out hfr RH.out.lt);have A4 := H5 (a8.below (w := w3.drew) A3.out hfr);have B4 := H5 (a8.below (w := w3.drew) B3.out hfr);have D4 := H5 (a8.below (w := w3.drew) D3.out hfr);have E4 := H5 (a8.below (w := w3.drew) E3.out hfr);have U4 := H5 (a8.below (w := w3.drew) U3.out hfr);have V4 := H5 (a8.below (w := w3.drew) V3.out hfr);have C4 := H5 (C3.out.drew.below hfr);have hsz4 := hfr.size;have hsz4' : w3.drew.heap.size = w3.heap.size := rfl;clear X3 Y3 R3 A3 B3 D3 E3 U3 V3 C3;obtain ⟨pq, q0, q1, _⟩ := X4.out.get hmx;have q2 := X4.out.free (m * 2);have q3 := X4.out.free (m * 2 + 1);refine aM rfl fun K hK => ?_;go_simp;refine hK _ _ ⟨⟨aZ (aZ x' 33 (.agg #[.bool pz3.1, .slice pz3.2.1 pz3.2.2.1 pz3.2.2.2])) 34 (.pointer (some ⟨bx, m * 2, none⟩)), by kernel_rfl⟩, ?_⟩;clear hK q0 q1 q2 q3;have ZX := H5 (X4.out.set m e11.num);have ZY := H5 (X4.out.qY Y4.out (fun e => hne e.symm) m pz3);have ZR := H5 ((R4.out.other (p := ⟨bx, m * 2, none⟩) (by show w.heap.size ≠ bx; omega) (.bool pz3.1)).other (p := ⟨bx, m * 2 + 1, none⟩) (by show w.heap.size ≠ bx; omega) (.slice pz3.2.1 pz3.2.2.1 pz3.2.2.2));have Z7 := H5 ((RG.out.other (p := ⟨bx, m * 2, none⟩) (by show g7 ≠ bx; omega) (.bool pz3.1)).other (p := ⟨bx, m * 2 + 1, none⟩) (by show g7 ≠ bx; omega) (.slice pz3.2.1 pz3.2.2.1 pz3.2.2.2));have Z8 := H5 ((RH.out.other (p := ⟨bx, m * 2, none⟩) (by show g8 ≠ bx; omega) (.bool pz3.1)).other (p := ⟨bx, m * 2 + 1, none⟩) (by show g8 ≠ bx; omega) (.slice pz3.2.1 pz3.2.2.1 pz3.2.2.2));have ZA := H5 (X4.out.eB A4.out m pz3);have ZB := H5 (X4.out.eB B4.out m pz3);have ZD := H5 (X4.out.eB D4.out m pz3);have ZE := H5 (X4.out.eB E4.out m pz3);have ZU := H5 (X4.out.eB U4.out m pz3);have ZV := H5 (X4.out.eB V4.out m pz3);have ZC := H5 ((C4.out.set (p := ⟨bx, m * 2, none⟩) (Or.inl rfl) (.bool pz3.1)).set (p := ⟨bx, m * 2 + 1, none⟩) (Or.inl rfl) (.slice pz3.2.1 pz3.2.2.1 pz3.2.2.2));clear X4 Y4 R4 RG RH A4 B4 D4 E4 U4 V4 C4 e11 e12;have hszg : ((w3b.setCell ⟨bx, m * 2, none⟩ (.bool pz3.1)).setCell ⟨bx, m * 2 + 1, none⟩ (.slice pz3.2.1 pz3.2.2.1 pz3.2.2.2)).heap.size = w3b.heap.size := by simp
        generalize ((w3b.setCell ⟨bx, m * 2, none⟩ (.bool pz3.1)).setCell ⟨bx, m * 2 + 1, none⟩ (.slice pz3.2.1 pz3.2.2.1 pz3.2.2.2)) = w5 at *;have X6 := ZX;have Y6 := ZY;have R6 := ZR;have RG := Z7;have RH := Z8;have A6 := ZA;have B6 := ZB;have D6 := ZD;have E6 := ZE;have U6 := ZU;have V6 := ZV;have C6 := ZC;clear ZX ZY ZR Z7 Z8 ZA ZB ZD ZE ZU ZV ZC;go_wp2;refine cZ ⟨13, fun q_ => [35, 36, 37, 38, 39, 40, 41, 42, 43, 44, 45, 46, 47].getD q_ 0,
         fun q_ => [.val (.slice (some ⟨by_, 0, none⟩) ys.length cy), .val (.int .i64 (m : Int)), .val (.pointer (some ⟨w.heap.size, 4, none⟩)), .val (.pointer (some ⟨w.heap.size, 4, none⟩)), .val (.agg #[.bool r.1, .slice r.2.1 r.2.2.1 r.2.2.2]), .val (.agg #[.bool pu.1, .slice pu.2.1 pu.2.2.1 pu.2.2.2]), .val (.pointer (some ⟨w.heap.size, 4, none⟩)), .val (.pointer (some ⟨w.heap.size, 6, none⟩)), .val (.agg #[.bool s.1, .slice s.2.1 s.2.2.1 s.2.2.2]), .val (.agg #[.bool pv.1, .slice pv.2.1 pv.2.2.1 pv.2.2.2]), .int 0 (d * ys[m]), .int 0 (c * xs[m] + d * ys[m]), .val (.pointer (some ⟨by_, m * 2, none⟩))].getD q_ .any,
         [],
         [(.agg #[.bool r.1, .slice r.2.1 r.2.2.1 r.2.2.2], .at_ LA c), (.agg #[.bool s.1, .slice s.2.1 s.2.2.1 s.2.2.2], .at_ LA d), (.agg #[.bool pu.1, .slice pu.2.1 pu.2.2.1 pu.2.2.2], .at_ LB xs[m]), (.agg #[.bool pv.1, .slice pv.2.1 pv.2.2.1 pv.2.2.2], .at_ LB ys[m])],
         [(w.heap.size, 161, [.bool p.1, .slice p.2.1 p.2.2.1 p.2.2.2, .bool q.1, .slice q.2.1 q.2.2.1 q.2.2.2, .bool r.1, .slice r.2.1 r.2.2.1 r.2.2.2, .bool s.1, .slice s.2.1 s.2.2.1 s.2.2.2]), (g7, 40, [.bool pu.1, .slice pu.2.1 pu.2.2.1 pu.2.2.2]), (g8, 40, [.bool pv.1, .slice pv.2.1 pv.2.2.1 pv.2.2.2])],
         [], [], []⟩ [35, 36, 37, 38, 39, 40, 41, 42, 43, 44, 45, 46, 47] (w5.heap.size) (by kernel_rfl) (by kernel_rfl) (by kernel_rfl) (by kernel_rfl) (by kernel_rfl) ?_ ?_ ?_ ?_ ?_ ?_
        . exact bB (D6.out) (bB (E6.out) (bB (U6.out) (bB (V6.out) aR)))
        . exact bB (⟨R6.out, (R6.out).lt, aR⟩) (bB (⟨RG.out, (RG.out).lt, aR⟩) (bB (⟨RH.out, (RH.out).lt, aR⟩) aR))
        . exact aR
        . exact aR
        . refine ag ?_ (ag ?_ (ag ?_ (ag ?_ (ag ?_ (ag ?_ (ag ?_ (ag ?_ (ag ?_ (ag ?_ (ag ?_ (ag ?_ (ag ?_ jy))))))))))));any_goals (first | (intro L fx w' hJ hL hp hcl; have _ := ry hp (by decide +kernel); refine aM rfl fun K hK => ?_; go_simp; exact hJ.q hK (by kernel_rfl) rfl) | fail)
          . intro L fx w' hJ hL hp hcl;have e2 := hJ.pt 2 37 (.pointer (some ⟨w.heap.size, 4, none⟩)) rfl rfl rfl (hp 2 (by decide));rw [e2] at hJ |-; clear e2;refine aM rfl fun K hK => ?_;go_simp;exact hJ.q hK (by kernel_rfl) rfl
          . intro L fx w' hJ hL hp hcl;have e3 := hJ.pt 3 38 (.pointer (some ⟨w.heap.size, 4, none⟩)) rfl rfl rfl (hp 3 (by decide));rw [e3] at hJ |-; clear e3;refine aM rfl fun K hK => ?_;have rw0 := (hJ.rows _ fl).1;have cl0 : w'.cell? ⟨w.heap.size, 4, none⟩ = some (.bool r.1) := rw0.cell 4;have cl1 : w'.cell? ⟨w.heap.size, 5, none⟩ = some (.slice r.2.1 r.2.2.1 r.2.2.2) := rw0.cell 5;go_simp;exact hJ.q hK (by kernel_rfl) rfl
          . intro L fx w' hJ hL hp hcl;refine aM rfl fun K hK => ?_;have rw0 := (hJ.rows _ iP).1;have cl0 : w'.cell? ⟨g7, 0, none⟩ = some (.bool pu.1) := rw0.cell 0;have cl1 : w'.cell? ⟨g7, 1, none⟩ = some (.slice pu.2.1 pu.2.2.1 pu.2.2.2) := rw0.cell 1;go_simp;exact hJ.q hK (by kernel_rfl) rfl
          . intro L fx w' hJ hL hp hcl;have e6 := hJ.pt 6 41 (.pointer (some ⟨w.heap.size, 4, none⟩)) rfl rfl rfl (hp 6 (by decide));rw [e6] at hJ |-; clear e6;refine aM rfl fun K hK => ?_;go_simp;exact hJ.q hK (by kernel_rfl) rfl
          . intro L fx w' hJ hL hp hcl;have e7 := hJ.pt 7 42 (.pointer (some ⟨w.heap.size, 6, none⟩)) rfl rfl rfl (hp 7 (by decide));rw [e7] at hJ |-; clear e7;refine aM rfl fun K hK => ?_;have rw0 := (hJ.rows _ fl).1;have cl0 : w'.cell? ⟨w.heap.size, 6, none⟩ = some (.bool s.1) := rw0.cell 6;have cl1 : w'.cell? ⟨w.heap.size, 7, none⟩ = some (.slice s.2.1 s.2.2.1 s.2.2.2) := rw0.cell 7;go_simp;exact hJ.q hK (by kernel_rfl) rfl
          . intro L fx w' hJ hL hp hcl;refine aM rfl fun K hK => ?_;have rw0 := (hJ.rows _ oZ).1;have cl0 : w'.cell? ⟨g8, 0, none⟩ = some (.bool pv.1) := rw0.cell 0;have cl1 : w'.cell? ⟨g8, 1, none⟩ = some (.slice pv.2.1 pv.2.2.1 pv.2.2.2) := rw0.cell 1;go_simp;exact hJ.q hK (by kernel_rfl) rfl
          . intro L fx w' hJ hL hp hcl;have e8 := hJ.pt 8 43 (.agg #[.bool s.1, .slice s.2.1 s.2.2.1 s.2.2.2]) rfl rfl rfl (hp 8 (by decide));rw [e8] at hJ |-; clear e8;have e9 := hJ.pt 9 44 (.agg #[.bool pv.1, .slice pv.2.1 pv.2.2.1 pv.2.2.2]) rfl rfl rfl (hp 9 (by decide));rw [e9] at hJ |-; clear e9;refine aM rfl fun K hK => ?_;go_simp;go_at_call 36;refine (ie _ _ d ys[m] LA LB _ (show a8 w' (LA) (.agg #[.bool s.1, .slice s.2.1 s.2.2.1 s.2.2.2]) (d) from hJ.base _ iP) (show a8 w' (LB) (.agg #[.bool pv.1, .slice pv.2.1 pv.2.2.1 pv.2.2.2]) (ys[m]) from hJ.base _ vV) hLab).mono ?_;rintro e w4 ⟨⟨v5, rfl, h5⟩, hb4⟩;try dsimp only
            exact hK _ _ ⟨_, by kernel_rfl, hJ.gC 10 rfl (by kernel_rfl) hb4 (ae.mono h5 (Nat.zero_le _)) (by omega)⟩
          . intro L fx w' hJ hL hp hcl;have e10 := hJ.slot 10 (by show 10 < 13; decide) (hp 10 (by decide));have e4 := hJ.pt 4 39 (.agg #[.bool r.1, .slice r.2.1 r.2.2.1 r.2.2.2]) rfl rfl rfl (hp 4 (by decide));rw [e4] at hJ |-; clear e4;have e5 := hJ.pt 5 40 (.agg #[.bool pu.1, .slice pu.2.1 pu.2.2.1 pu.2.2.2]) rfl rfl rfl (hp 5 (by decide));rw [e5] at hJ |-; clear e5;refine aM rfl fun K hK => ?_;go_simp;go_at_call 99;refine (lP _ _ _ c xs[m] (d * ys[m]) LA LB _ (show a8 w' (LA) (.agg #[.bool r.1, .slice r.2.1 r.2.2.1 r.2.2.2]) (c) from hJ.base _ fl) (show a8 w' (LB) (.agg #[.bool pu.1, .slice pu.2.1 pu.2.2.1 pu.2.2.2]) (xs[m]) from hJ.base _ oZ) (ae.int (show ae w' _ (fx 45) _ from e10) (by rw [Int.natAbs_mul]; exact Nat.le_trans (eO _ _) (Nat.le_trans (Nat.add_le_add hwd hyw) hLab))) hLab).mono ?_;rintro e w4 ⟨⟨v5, rfl, h5⟩, hb4⟩;try dsimp only
            exact hK _ _ ⟨_, by kernel_rfl, hJ.gC 11 rfl (by kernel_rfl) hb4 (ae.mono h5 (Nat.zero_le _)) (by omega)⟩
          . intro L fx w' hJ hL hp hcl;have e0 := hJ.pt 0 35 (.slice (some ⟨by_, 0, none⟩) ys.length cy) rfl rfl rfl (hp 0 (by decide));rw [e0] at hJ |-; clear e0;have e1 := hJ.pt 1 36 (.int .i64 (m : Int)) rfl rfl rfl (hp 1 (by decide));rw [e1] at hJ |-; clear e1;refine aM rfl fun K hK => ?_;go_simp;exact hJ.q hK (by kernel_rfl) rfl
        . intro L x' w5b hL hJ;have hfr : Below w5.drew.heap.size w5.drew w5b := hJ.fr;have e11 : ae w5b 0 (x' 46) (c * xs[m] + d * ys[m]) := hJ.slot 11 (by show 11 < 13; decide) (hL 11 (by show 11 < 13; decide));have e12 : x' 47 = .pointer (some ⟨by_, m * 2, none⟩) := hJ.slot 12 (by show 12 < 13; decide) (hL 12 (by show 12 < 13; decide));obtain ⟨pz6, hpz⟩ := aN.parts e11.num;rw [hpz] at e11;unfold av at hpz;rw [aA (x := x') (d := 46) hpz];rw [aA (x := aZ x' 46 (.agg #[.bool pz6.1, .slice pz6.2.1 pz6.2.2.1 pz6.2.2.2])) (d := 47) (v := .pointer (some ⟨by_, m * 2, none⟩)) e12];clear hJ hL;have X7 := H5 (aJ.below (w := w5.drew) X6.out hfr);have Y7 := H5 (aJ.below (w := w5.drew) Y6.out hfr);have R7 := H5 (a6.below (w := w5.drew) R6.out hfr R6.out.lt);have RG := H5 (a6.below (w := w5.drew) RG.out hfr RG.out.lt);have RH := H5 (a6.below (w := w5.drew) RH.out hfr RH.out.lt);have A7 := H5 (a8.below (w := w5.drew) A6.out hfr);have B7 := H5 (a8.below (w := w5.drew) B6.out hfr);have D7 := H5 (a8.below (w := w5.drew) D6.out hfr);have E7 := H5 (a8.below (w := w5.drew) E6.out hfr);have U7 := H5 (a8.below (w := w5.drew) U6.out hfr);have V7 := H5 (a8.below (w := w5.drew) V6.out hfr);have C7 := H5 (C6.out.drew.below hfr);have hsz7 := hfr.size;have hsz7' : w5.drew.heap.size = w5.heap.size := rfl;clear X6 Y6 R6 A6 B6 D6 E6 U6 V6 C6;obtain ⟨pq, q0, q1, _⟩ := Y7.out.get hmv;have q2 := Y7.out.free (m * 2);have q3 := Y7.out.free (m * 2 + 1);refine aM rfl fun K hK => ?_;go_simp;refine hK _ _ ⟨⟨aZ (aZ x' 46 (.agg #[.bool pz6.1, .slice pz6.2.1 pz6.2.2.1 pz6.2.2.2])) 47 (.pointer (some ⟨by_, m * 2, none⟩)), by kernel_rfl⟩, ?_⟩;clear hK q0 q1 q2 q3;have ZY := H5 (Y7.out.set m e11.num);have ZX := H5 (Y7.out.qY X7.out (fun e => hne e) m pz6);have ZR := H5 ((R7.out.other (p := ⟨by_, m * 2, none⟩) (by show w.heap.size ≠ by_; omega) (.bool pz6.1)).other (p := ⟨by_, m * 2 + 1, none⟩) (by show w.heap.size ≠ by_; omega) (.slice pz6.2.1 pz6.2.2.1 pz6.2.2.2));have Z7 := H5 ((RG.out.other (p := ⟨by_, m * 2, none⟩) (by show g7 ≠ by_; omega) (.bool pz6.1)).other (p := ⟨by_, m * 2 + 1, none⟩) (by show g7 ≠ by_; omega) (.slice pz6.2.1 pz6.2.2.1 pz6.2.2.2));have Z8 := H5 ((RH.out.other (p := ⟨by_, m * 2, none⟩) (by show g8 ≠ by_; omega) (.bool pz6.1)).other (p := ⟨by_, m * 2 + 1, none⟩) (by show g8 ≠ by_; omega) (.slice pz6.2.1 pz6.2.2.1 pz6.2.2.2));have ZA := H5 (Y7.out.eB A7.out m pz6);have ZB := H5 (Y7.out.eB B7.out m pz6);have ZD := H5 (Y7.out.eB D7.out m pz6);have ZE := H5 (Y7.out.eB E7.out m pz6);have ZU := H5 (Y7.out.eB U7.out m pz6);have ZV := H5 (Y7.out.eB V7.out m pz6);have ZC := H5 ((C7.out.set (p := ⟨by_, m * 2, none⟩) (Or.inr rfl) (.bool pz6.1)).set (p := ⟨by_, m * 2 + 1, none⟩) (Or.inr rfl) (.slice pz6.2.1 pz6.2.2.1 pz6.2.2.2));clear X7 Y7 R7 RG RH A7 B7 D7 E7 U7 V7 C7 e11 e12;go_wp2;go_roundw
          case rel =>
           exact ⟨m + 1, _, _, by omega, by go_num, HU.out.next hml hmy, HV.out.next hml hmy, ZX, ZY, ZR, H5 ⟨ZA.out, ZB.out, ZD.out, ZE.out⟩, ZC⟩
          case measure => simp [intOf]; omega
  . obtain rfl : m = xs.length := by omega
    have he := HU.out.all Hl.out rfl;have he2 := HV.out.all Hl.out Hl.out;have HE := H5 he;have HE2 := H5 he2;clear he he2;go_wp2;refine bodyPost_end (results_none (by kernel_rfl) _ _ _) rfl ?_;rw [<- HE.out, <- HE2.out];exact ⟨rfl, hX.out, hY.out, hC.out⟩
theorem nE : ∀ R : List Hd, aK (R.map Hd.dk)
 | [] => aK.nil
 | h :: R => aK.slice (nE R)
def fA (w : World) (b : Nat) (t : TypeId) (cs : List Value) : Prop := ∃ tl, aK tl /\ a6 w b t (cs ++ tl)
theorem a6.pre {w : World} {b : Nat} {t : TypeId} {cs : List Value} (h : a6 w b t cs) : fA w b t cs := ⟨[], aK.nil, by rw [List.append_nil]; exact h⟩
theorem fA.lt {w : World} {b : Nat} {t : TypeId} {cs : List Value} (h : fA w b t cs) : b < w.heap.size := by obtain ⟨_, _, h⟩ := h; exact h.lt
theorem fA.free {w : World} {b : Nat} {t : TypeId} {cs : List Value} (h : fA w b t cs) (i : Nat) : w.frozen? ⟨b, i, none⟩ = false := by obtain ⟨_, _, h⟩ := h; exact h.free i
theorem fA.below {w w' : World} {b B : Nat} {t : TypeId} {cs : List Value} (h : fA w b t cs) (hb : Below B w w') (hB : b < B) : fA w' b t cs := by obtain ⟨tl, n, h⟩ := h; exact ⟨tl, n, h.below hb hB⟩
theorem fA.other {w : World} {b : Nat} {t : TypeId} {cs : List Value} (h : fA w b t cs) {p : Addr} (hp : b ≠ p.block) (v : Value) : fA (w.setCell p v) b t cs := by obtain ⟨tl, n, h⟩ := h; exact ⟨tl, n, h.other hp v⟩
theorem fA.set {w : World} {b : Nat} {t : TypeId} {cs : List Value} (h : fA w b t cs) {i : Nat} (hi : i < cs.length) (v : Value) : fA (w.setCell ⟨b, i, none⟩ v) b t (cs.set i v) := by
 obtain ⟨tl, n, h⟩ := h;have := h.set i v;rw [List.set_append_left _ _ hi] at this;exact ⟨tl, n, this⟩
theorem fA.cell {w : World} {b : Nat} {t : TypeId} {cs : List Value} (h : fA w b t cs) {i : Nat} (hi : i < cs.length) : w.cell? ⟨b, i, none⟩ = cs[i]? := by
 obtain ⟨tl, n, h⟩ := h; rw [h.cell, List.getElem?_append_left hi]
theorem fA.r5 {S : Nat -> Prop} {w w' : World} {b : Nat} {t : TypeId} {cs : List Value} (h : fA w b t cs) (hc : aO S w w') (hb : ¬ S b) : fA w' b t cs := by obtain ⟨tl, n, h⟩ := h; exact ⟨tl, n, hc.row h hb⟩
structure er (w : World) (o : Nat) (R : List Hd) : Prop where
 out : fA w o 22 (R.map Hd.dk)
 row : ∀ h ∈ R, aJ w h.aB h.xs
 nd : (R.map Hd.aB).Nodup
theorem er.below {w w' : World} {o : Nat} {R : List Hd} (h : er w o R) (hb : Below w.heap.size w w') : er w' o R :=
 ⟨h.out.below hb h.out.lt, fun r hr => (h.row r hr).below hb, h.nd⟩
theorem er.ne {w : World} {o : Nat} {R : List Hd} (h : er w o R) {r : Hd} (hr : r ∈ R) : r.aB ≠ o := by
 intro e;obtain ⟨ps, tl, nt, hp, _⟩ := h.row r hr;obtain ⟨tl, _, ho⟩ := h.out;unfold a6 at hp ho;rw [e, ho] at hp;simp only [Option.some.injEq, Obj.cells.injEq] at hp;exact absurd hp.2.1 (by decide)
theorem er.dk {w : World} {o : Nat} {R : List Hd} (h : er w o R) {i : Nat} (hi : i < R.length) : w.cell? ⟨o, i, none⟩ = some (R[i]).dk := by
 rw [h.out.cell (by simpa using hi)]; simp [hi]
theorem er.lt {w : World} {o : Nat} {R : List Hd} (h : er w o R) : o < w.heap.size := h.out.lt
theorem er.fN {w : World} {o : Nat} {R : List Hd} (h : er w o R) {g : Nat} {t : TypeId} {cs : List Value} (hr : a6 w g t cs) (hn : aK cs) (ho : o ≠ g) (hb : ∀ r ∈ R, r.aB ≠ g) (i : Nat) (u : Value) : er (w.setCell ⟨g, i, none⟩ u) o R :=
 ⟨h.out.other ho u, fun r hr' => (h.row r hr').other (hb r hr') hr hn i u, h.nd⟩
structure kM where
 o : Nat
 g : Nat
 g3 : Nat
 cap : Nat
 cs : Nat
 own : Nat -> Prop
 fit : List Hd -> Prop
 rel : List Hd -> List Hd -> Prop
structure bV where
 lb : Nat
 o : Nat
 sb : Nat
 g : Nat
 cap : Nat
 R : List Hd
 two : Option kM
def bV.rws (S : bV) (k : Nat) : Prop := k = S.o \/ ∃ h ∈ S.R, h.aB = k
def bV.own (S : bV) (k : Nat) : Prop := S.rws k \/ ∃ t, S.two = some t /\ t.own k
def bV.ah (S : bV) (R : List Hd) : bV := ⟨S.lb, S.o, S.sb, S.g, S.cap, R, S.two⟩
def bV.ns (S : bV) : Nat := match S.two with | none => 1 | some _ => 2
def bV.cs (S : bV) : Nat := match S.two with | none => 1 | some t => t.cs
def kM.st (t : kM) (V : List Hd) : bV := ⟨0, t.o, 0, t.g, t.cap, V, none⟩
def bV.dk (S : bV) : Value := .slice (some ⟨S.o, 0, none⟩) S.R.length S.cap
def gO (g : Nat) : List Value := [.func (.func 128) #[] #[.pointer (some ⟨g, 0, none⟩)], .func (.func 129) #[] #[.pointer (some ⟨g, 0, none⟩)], .func (.func 130) #[] #[.pointer (some ⟨g, 0, none⟩)], .func (.func 132) #[] #[.pointer (some ⟨g, 0, none⟩)]]
def agF (g g3 : Nat) : List Value := [.func (.func 128) #[] #[.pointer (some ⟨g, 0, none⟩)], .func (.func 129) #[] #[.pointer (some ⟨g, 0, none⟩)], .func (.func 151) #[] #[.pointer (some ⟨g3, 0, none⟩)], .func (.func 152) #[] #[.pointer (some ⟨g3, 0, none⟩)]]
def bV.more (S : bV) : List Value := match S.two with | none => [] | some t => agF t.g t.g3
theorem j1 (P : Program) (w : World) (p : Addr) (f : Fn) (a b : Array Value) (m : Mode) : (store p (.func f a b) m).run P w = stored P w p (.func f a b) m := run_store P w p _ m rfl
attribute [local go_sem] j1
theorem qQ {fn : Func} {p : Tmp} (h : fn.results = #[.cell p 140]) (tmps : Array Value) (w : World) (g : Nat) (a b c d : Value) (hp : tmps.getD p undef = .pointer (some ⟨g, 0, none⟩)) (hr : a6 w g 140 [a, b, c, d]) :
 (results fn tmps).run Tryz.prog w = .ok (.agg #[a, b, c, d]) w :=
 results_cell_row h tmps w g 140 #[a, b, c, d] (0, 0) _ hp hr Tryz.underlying140 rfl (by kernel_rfl)
theorem Cf (ao : Option Addr) (n cap : Nat) (w : World) :
 Calls Tryz.prog 110 #[.slice ao n cap] w fun e w' => e = .returned (.agg (gO w.heap.size).toArray) /\ a6 w' w.heap.size 76 [.slice ao n cap] /\ Below w.heap.size w w' := by
 go_enter Tryz.func110, Tryz.ntmps110;go_wp2;obtain ⟨r1, r2, hb⟩ := gg w #[.slice ao n cap] (gO w.heap.size).toArray 76 140;simp only [gO] at r1 r2 hb;refine bodyPost_ret (qQ (p := 2) (by kernel_rfl) _ _ (w.heap.size + 1) _ _ _ _ rfl r2) rfl ?_;exact ⟨rfl, r1, hb⟩
structure dI (w : World) (S : bV) : Prop where
 box : a6 w S.g 76 [S.dk]
 dF : er w S.o S.R
theorem dI.below {w w' : World} {S : bV} (h : dI w S) (hb : Below w.heap.size w w') : dI w' S := ⟨h.box.below hb h.box.lt, h.dF.below hb⟩
theorem dI.bH {w : World} {S : bV} (h : dI w S) : dC S.rws w := by
 intro g hg;rcases hg with rfl | ⟨r, hr, rfl⟩
 . obtain ⟨tl, n, ho⟩ := h.dF.out; exact ⟨_, _, ho, aK.append (nE _) n⟩
 . obtain ⟨ps, tl, nt, hp, _⟩ := h.dF.row r hr;exact ⟨_, _, hp, fK nt⟩
structure pE (w : World) (S : bV) (t : kM) (V : List Hd) : Prop where
 sd : dI w (t.st V)
 box3 : a6 w t.g3 76 [(t.st V).dk]
 rel : t.rel S.R V
 own : ∀ k, t.own k ↔ (t.st V).rws k
 apart : ∀ k, t.own k -> ¬ S.rws k
structure au (w : World) (S : bV) : Prop where
 lad : a6 w S.lb 123 [S.dk, .slice (some ⟨S.sb, 0, none⟩) S.ns S.cs]
 sides : fA w S.sb 140 (gO S.g ++ S.more)
 box : a6 w S.g 76 [S.dk]
 dF : er w S.o S.R
 ext : ∀ t, S.two = some t -> ∃ V, pE w S t V
theorem au.sd {w : World} {S : bV} (h : au w S) : dI w S := ⟨h.box, h.dF⟩
theorem New_c (o cap : Nat) (R : List Hd) (w : World) (hM : er w o R) :
 Calls Tryz.prog 91 #[.slice (some ⟨o, 0, none⟩) R.length cap] w fun e w' => (∃ lb sb g, e = .returned (.pointer (some ⟨lb, 0, none⟩)) /\ au w' ⟨lb, o, sb, g, cap, R, none⟩ /\ w.heap.size <= lb /\ w.heap.size <= sb /\ w.heap.size <= g) /\ Below w.heap.size w w' := by
 have HM := H5 hM;have HM0 := H5 hM; clear hM;go_enter Tryz.func91, Tryz.ntmps91;go_wp2_with fail
 have hb1 : Below w.heap.size w (w.alloc (.cells #[.slice (some ⟨o, 0, none⟩) R.length cap, .slice none 0 0] 123)) := (Below.refl _ _).alloc (Nat.le_refl _) _;have hr1 := a6.new w #[.slice (some ⟨o, 0, none⟩) R.length cap, .slice none 0 0] 123;generalize w.alloc (.cells #[.slice (some ⟨o, 0, none⟩) R.length cap, .slice none 0 0] 123) = w1 at *;refine (Cf _ _ _ _).mono ?_;rintro e w2 ⟨rfl, hbox, hb2⟩;simp only [gO];have hr2 := hr1.below hb2 hr1.lt;have hM2 := (HM.out.below hb1).below hb2;have hbw : Below w.heap.size w w2 := hb1.trans (hb2.mono hb1.size);have hs1 : w.heap.size < w1.heap.size := hr1.lt;have hs2 : w1.heap.size < w2.heap.size := hbox.lt;have hb3 : Below w2.heap.size w2 (w2.alloc (.cells (gO w1.heap.size).toArray 140)) := (Below.refl _ _).alloc (Nat.le_refl _) _;have hr3 := a6.new w2 (gO w1.heap.size).toArray 140;have hr4 := hr2.below hb3 hr2.lt;have hbox3 := hbox.below hb3 hbox.lt;have hM3 := hM2.below hb3;have hbw3 := hbw.trans (hb3.mono hbw.size);have f1 := hr4.free 1;have c1 := hr4.cell 1;simp only [gO] at hr3 f1 c1;have HR3 := H5 hr3;have HR4 := H5 hr4;have HM3 := H5 hM3;have HB3 := H5 hbw3;have HX3 := H5 hbox3;clear hr1 hr2 hr3 hr4 hM2 hM3 hbw hbw3 hb1 hb2 hb3 hbox hbox3 HM;go_wp2;go_ret;have ho := HM0.out.lt;refine ⟨⟨w.heap.size, rfl, w2.heap.size, w1.heap.size, ⟨?_, ?_, ?_, ?_, fun t h => by cases h⟩, Nat.le_refl _, by omega, by omega⟩, ?_⟩
 . exact HR4.out.set 1 (.slice (some ⟨w2.heap.size, 0, none⟩) 1 1)
 . exact (a6.other (p := ⟨w.heap.size, 1, none⟩) HR3.out (by show w2.heap.size ≠ w.heap.size; omega) _).pre
 . exact a6.other (p := ⟨w.heap.size, 1, none⟩) HX3.out (by show w1.heap.size ≠ w.heap.size; omega) _
 . exact HM3.out.fN HR4.out (aK.slice (aK.slice aK.nil)) (by show o ≠ w.heap.size; omega) (fun r hr => by have := (HM0.out.row r hr).lt; omega) 1 _
 . exact HB3.out.setCell (p := ⟨w.heap.size, 1, none⟩) (Nat.le_refl _) _
theorem a6.neP {w : World} {a b : Nat} {t t' : TypeId} {cs cs' : List Value} (h : a6 w a t cs) (h' : fA w b t' cs') (ht : t ≠ t') : a ≠ b := by obtain ⟨_, _, h'⟩ := h'; exact h.ne h' ht
def dL (R : List Hd) (i : Nat) (xs : List Int) : List Hd := R.modify i (fun h => ⟨h.aB, h.cap, xs⟩)
theorem ai (R : List Hd) (i : Nat) (xs : List Int) : (dL R i xs).length = R.length := by simp [dL]
theorem dT {R : List Hd} {i : Nat} {xs : List Int} {j : Nat} (hj : j < R.length) : (dL R i xs)[j]'(by rw [ai]; exact hj) = if i = j then ⟨R[j].aB, R[j].cap, xs⟩ else R[j] := by
 unfold dL; rw [List.getElem_modify]
theorem fE (R : List Hd) (i : Nat) (xs : List Int) : (dL R i xs).map Hd.aB = R.map Hd.aB := by
 refine List.ext_getElem (by simp [ai]) fun j h1 h2 => ?_;simp only [List.getElem_map];rw [dT (by simpa using h2)];split <;> rfl
theorem mo {R : List Hd} {i : Nat} {xs : List Int} (hi : i < R.length) (hl : xs.length = R[i].xs.length) : (dL R i xs).map Hd.dk = R.map Hd.dk := by
 refine List.ext_getElem (by simp [ai]) fun j h1 h2 => ?_;simp only [List.getElem_map];rw [dT (by simpa using h2)];split
 . rename_i e; subst e; unfold Hd.dk; rw [hl]
 . rfl
theorem ji {R : List Hd} (hn : (R.map Hd.aB).Nodup) {i j : Nat} (hi : i < R.length) (hj : j < R.length) (h : i ≠ j) : R[i].aB ≠ R[j].aB := by
 intro e;have h1 : (R.map Hd.aB)[i]'(by simpa using hi) = (R.map Hd.aB)[j]'(by simpa using hj) := by simpa using e
 have hp := List.pairwise_iff_getElem.1 hn;rcases Nat.lt_or_gt_of_ne h with hlt | hlt
 . exact hp i j (by simpa using hi) (by simpa using hj) hlt h1
 . exact hp j i (by simpa using hj) (by simpa using hi) hlt h1.symm
theorem er.dL {w w' : World} {o : Nat} {R : List Hd} (h : er w o R) {i : Nat} (hi : i < R.length) {xs : List Int} (hl : xs.length = R[i].xs.length) (hc : aO (· = R[i].aB) w w') (hr : aJ w' R[i].aB xs) : er w' o (dL R i xs) := by
 have hw : dC (· = R[i].aB) w := (h.row _ (List.getElem_mem hi)).bH;refine ⟨by rw [mo hi hl]; exact h.out.r5 hc (fun e => h.ne (List.getElem_mem hi) e.symm), fun r hr' => ?_, by rw [fE]; exact h.nd⟩;obtain ⟨j, hj, rfl⟩ := List.getElem_of_mem hr';rw [ai] at hj;rw [dT hj];split
 . rename_i e; subst e; exact hr
 . rename_i e; exact hc.yK hw (h.row _ (List.getElem_mem hj)) (ji h.nd hj hi (fun e' => e e'.symm))
theorem kq {k : Int} {xs ys : List Int} (h : xs.length = ys.length) : (fT k xs ys).length = xs.length := by simp [fT, h]
theorem fG {a b : Int} {xs ys : List Int} (h : xs.length = ys.length) : (gL a b xs ys).length = xs.length := by simp [gL, h]
theorem dI.gd {w w' : World} {S : bV} (h : dI w S) (hc : aO S.rws w w') {b : Nat} {t : TypeId} {cs : List Value} (hb : a6 w b t cs) (h1 : t ≠ 40) (h2 : t ≠ 22) : a6 w' b t cs := by
 refine hc.row hb ?_;rintro (rfl | ⟨r, hr, rfl⟩)
 . exact hb.neP h.dF.out h2 rfl
 . obtain ⟨ps, tl, nt, hp, _⟩ := h.dF.row r hr;exact hb.ne hp h1 rfl
theorem dI.rows {w w' : World} {S : bV} (h : dI w S) {R : List Hd} (hc : aO S.rws w w') (hM : er w' S.o R) (hl : R.length = S.R.length) : dI w' (S.ah R) := by
 have e : bV.dk (S.ah R) = S.dk := by unfold bV.dk bV.ah; rw [hl]
 exact ⟨by rw [e]; exact h.gd hc h.box (by decide) (by decide), hM⟩
def fk (R : List Hd) (i j : Nat) (k : Int) (hi : i < R.length) (hj : j < R.length) : List Hd := dL R i (fT k R[i].xs R[j].xs)
theorem qj (S : bV) (i j : Nat) (kv : Value) (k : Int) (LA LB : Nat) (w : World) (h : dI w S) (hi : i < S.R.length) (hj : j < S.R.length) (hij : i ≠ j) (hK : a8 w LA kv k) (hl : S.R[i].xs.length = S.R[j].xs.length)
 (hxL : ∀ x ∈ S.R[i].xs, aa x.natAbs <= 17592186044415) (hyL : ∀ y ∈ S.R[j].xs, aa y.natAbs <= LB) (hLab : LA + LB <= 17592186044415) (hlen : S.R[i].xs.length <= 4611686018427387903) :
 Calls Tryz.prog 130 #[.int .i64 (i : Int), .int .i64 (j : Int), kv, .pointer (some ⟨S.g, 0, none⟩)] w fun e w' => e = .returned (.tuple #[]) /\ dI w' (S.ah (fk S.R i j k hi hj)) /\ aO S.rws w w' := by
 obtain ⟨kp, rfl⟩ := hK.parts;have HL := H5 h; clear h;have HK := H5 hK; clear hK;have HXL := H5 hxL; clear hxL;have HYL := H5 hyL; clear hyL;have Hl := H5 hl; clear hl;go_enter Tryz.func130, Tryz.ntmps130;unfold av at *;go_wp2;have hb1 : Below w.heap.size w (w.alloc (.cells #[.bool kp.1, .slice kp.2.1 kp.2.2.1 kp.2.2.2] 40)) := (Below.refl _ _).alloc (Nat.le_refl _) _;have hr1 := a6.new w #[.bool kp.1, .slice kp.2.1 kp.2.2.1 kp.2.2.2] 40;generalize w.alloc (.cells #[.bool kp.1, .slice kp.2.1 kp.2.2.1 kp.2.2.2] 40) = w1 at *;have hbox := HL.out.box.below hb1 HL.out.box.lt;have hM1 := HL.out.dF.below hb1;have hK1 := HK.out.below hb1;have HX1 := H5 (hM1.row _ (List.getElem_mem hi));have HY1 := H5 (hM1.row _ (List.getElem_mem hj));have hne := ji hM1.nd hi hj hij;have cg : w1.cell? ⟨S.g, 0, none⟩ = some (.slice (some ⟨S.o, 0, none⟩) S.R.length S.cap) := hbox.cell 0;have ci : w1.cell? ⟨S.o, i, none⟩ = some (.slice (some ⟨S.R[i].aB, 0, none⟩) S.R[i].xs.length S.R[i].cap) := hM1.dk hi;have cj : w1.cell? ⟨S.o, j, none⟩ = some (.slice (some ⟨S.R[j].aB, 0, none⟩) S.R[j].xs.length S.R[j].cap) := hM1.dk hj;have ck0 : w1.cell? ⟨w.heap.size, 0, none⟩ = some (.bool kp.1) := hr1.cell 0;have ck1 : w1.cell? ⟨w.heap.size, 1, none⟩ = some (.slice kp.2.1 kp.2.2.1 kp.2.2.2) := hr1.cell 1;have hs0 : S.g < w1.heap.size := hbox.lt;have hs1 : S.o < w1.heap.size := hM1.out.lt;have hs2 : w.heap.size < w1.heap.size := hr1.lt;have hi' : (i : Int) < (S.R.length : Int) := by omega
 have hj' : (j : Int) < (S.R.length : Int) := by omega
 have HM1 := H5 hM1; clear hM1;have HK1 := H5 hK1; clear hK1;have HB1 := H5 hb1; clear hb1;clear hr1 hbox;refine cZ ⟨9, fun q_ => [7, 8, 9, 10, 11, 12, 13, 14, 15].getD q_ 0,
  fun q_ => [.val (.slice (some ⟨S.o, 0, none⟩) S.R.length S.cap), .val (.int .i64 (i : Int)), .val (.pointer (some ⟨S.o, i, none⟩)), .val (.slice (some ⟨S.R[i].aB, 0, none⟩) S.R[i].xs.length S.R[i].cap), .val (.slice (some ⟨S.o, 0, none⟩) S.R.length S.cap), .val (.int .i64 (j : Int)), .val (.pointer (some ⟨S.o, j, none⟩)), .val (.slice (some ⟨S.R[j].aB, 0, none⟩) S.R[j].xs.length S.R[j].cap), .val (.agg #[.bool kp.1, .slice kp.2.1 kp.2.2.1 kp.2.2.2])].getD q_ .any,
  [],
  [],
  [],
  [], [(⟨S.g, 0, none⟩, .slice (some ⟨S.o, 0, none⟩) S.R.length S.cap), (⟨S.o, i, none⟩, .slice (some ⟨S.R[i].aB, 0, none⟩) S.R[i].xs.length S.R[i].cap), (⟨S.o, j, none⟩, .slice (some ⟨S.R[j].aB, 0, none⟩) S.R[j].xs.length S.R[j].cap), (⟨w.heap.size, 0, none⟩, .bool kp.1), (⟨w.heap.size, 1, none⟩, .slice kp.2.1 kp.2.2.1 kp.2.2.2)], []⟩ [7, 8, 9, 10, 11, 12, 13, 14, 15, 16] (w1.heap.size) (by kernel_rfl) (by kernel_rfl) (by kernel_rfl) (by kernel_rfl) (by kernel_rfl) ?_ ?_ ?_ ?_ ?_ ?_
 . intro p hp;cases hp
 . intro p hp;cases hp
 . intro p hp;rcases mc hp with rfl | hp
   . refine ⟨cg, by show S.g < w1.heap.size; omega, ?_⟩;intro t ht;cases ht
   rcases mc hp with rfl | hp
   . refine ⟨ci, by show S.o < w1.heap.size; omega, ?_⟩;intro t ht;cases ht
   rcases mc hp with rfl | hp
   . refine ⟨cj, by show S.o < w1.heap.size; omega, ?_⟩;intro t ht;cases ht
   rcases mc hp with rfl | hp
   . refine ⟨ck0, by show w.heap.size < w1.heap.size; omega, ?_⟩;intro t ht;cases ht
   rcases mc hp with rfl | hp
   . refine ⟨ck1, by show w.heap.size < w1.heap.size; omega, ?_⟩;intro t ht;cases ht
   cases hp
 . intro t ht;cases ht
 . refine ag ?_ (ag ?_ (ag ?_ (ag ?_ (ag ?_ (ag ?_ (ag ?_ (ag ?_ (ag ?_ jy))))))));any_goals (first | (intro L fx w' hJ hL hp hcl; have _ := ry hp (by decide +kernel); refine aM rfl fun K hK => ?_; go_simp; exact hJ.q hK (by kernel_rfl) rfl) | fail)
   . intro L fx w' hJ hL hp hcl;refine aM rfl fun K hK => ?_;have cl0 := (hJ.cells _ fl).1;try dsimp only at cl0
     go_simp;exact hJ.q hK (by kernel_rfl) rfl
   . intro L fx w' hJ hL hp hcl;have e0 := hJ.pt 0 7 (.slice (some ⟨S.o, 0, none⟩) S.R.length S.cap) rfl rfl rfl (hp 0 (by decide));rw [e0] at hJ |-; clear e0;have e1 := hJ.pt 1 8 (.int .i64 (i : Int)) rfl rfl rfl (hp 1 (by decide));rw [e1] at hJ |-; clear e1;refine aM rfl fun K hK => ?_;go_simp;exact hJ.q hK (by kernel_rfl) rfl
   . intro L fx w' hJ hL hp hcl;have e2 := hJ.pt 2 9 (.pointer (some ⟨S.o, i, none⟩)) rfl rfl rfl (hp 2 (by decide));rw [e2] at hJ |-; clear e2;refine aM rfl fun K hK => ?_;have cl0 := (hJ.cells _ iP).1;try dsimp only at cl0
     go_simp;exact hJ.q hK (by kernel_rfl) rfl
   . intro L fx w' hJ hL hp hcl;refine aM rfl fun K hK => ?_;have cl0 := (hJ.cells _ fl).1;try dsimp only at cl0
     go_simp;exact hJ.q hK (by kernel_rfl) rfl
   . intro L fx w' hJ hL hp hcl;have e4 := hJ.pt 4 11 (.slice (some ⟨S.o, 0, none⟩) S.R.length S.cap) rfl rfl rfl (hp 4 (by decide));rw [e4] at hJ |-; clear e4;have e5 := hJ.pt 5 12 (.int .i64 (j : Int)) rfl rfl rfl (hp 5 (by decide));rw [e5] at hJ |-; clear e5;refine aM rfl fun K hK => ?_;go_simp;exact hJ.q hK (by kernel_rfl) rfl
   . intro L fx w' hJ hL hp hcl;have e6 := hJ.pt 6 13 (.pointer (some ⟨S.o, j, none⟩)) rfl rfl rfl (hp 6 (by decide));rw [e6] at hJ |-; clear e6;refine aM rfl fun K hK => ?_;have cl0 := (hJ.cells _ oZ).1;try dsimp only at cl0
     go_simp;exact hJ.q hK (by kernel_rfl) rfl
   . intro L fx w' hJ hL hp hcl;refine aM rfl fun K hK => ?_;have cl0 := (hJ.cells _ vV).1;have cl1 := (hJ.cells _ BP).1;try dsimp only at cl0 cl1
     go_simp;exact hJ.q hK (by kernel_rfl) rfl
 . intro L x' w3 hL hJ;have hfr : Below w1.drew.heap.size w1.drew w3 := hJ.fr;have e3 : x' 10 = .slice (some ⟨S.R[i].aB, 0, none⟩) S.R[i].xs.length S.R[i].cap := hJ.slot 3 (by show 3 < 9; decide) (hL 3 (by show 3 < 9; decide));have e7 : x' 14 = .slice (some ⟨S.R[j].aB, 0, none⟩) S.R[j].xs.length S.R[j].cap := hJ.slot 7 (by show 7 < 9; decide) (hL 7 (by show 7 < 9; decide));have e8 : x' 15 = .agg #[.bool kp.1, .slice kp.2.1 kp.2.2.1 kp.2.2.2] := hJ.slot 8 (by show 8 < 9; decide) (hL 8 (by show 8 < 9; decide));rw [aA (x := x') (d := 10) (v := .slice (some ⟨S.R[i].aB, 0, none⟩) S.R[i].xs.length S.R[i].cap) e3];rw [aA (x := (aZ x' 10 (.slice (some ⟨S.R[i].aB, 0, none⟩) S.R[i].xs.length S.R[i].cap))) (d := 14) (v := .slice (some ⟨S.R[j].aB, 0, none⟩) S.R[j].xs.length S.R[j].cap) e7];rw [aA (x := (aZ (aZ x' 10 (.slice (some ⟨S.R[i].aB, 0, none⟩) S.R[i].xs.length S.R[i].cap)) 14 (.slice (some ⟨S.R[j].aB, 0, none⟩) S.R[j].xs.length S.R[j].cap))) (d := 15) (v := .agg #[.bool kp.1, .slice kp.2.1 kp.2.2.1 kp.2.2.2]) e8];clear hJ hL e3 e7 e8 cg ci cj ck0 ck1;refine aM rfl fun K hK => ?_;go_simp;go_at_call 131;refine (y8 _ _ _ _ LA LB _ _ _ k _ (aJ.below (w := w1.drew) HX1.out hfr) (aJ.below (w := w1.drew) HY1.out hfr) (a8.below (w := w1.drew) HK1.out hfr) hne Hl.out HXL.out HYL.out hLab hlen).mono ?_;rintro e w4 ⟨rfl, hR4, hC4⟩;try dsimp only
   refine hK _ _ ⟨⟨aZ (aZ (aZ (aZ x' 10 (.slice (some ⟨S.R[i].aB, 0, none⟩) S.R[i].xs.length S.R[i].cap)) 14 (.slice (some ⟨S.R[j].aB, 0, none⟩) S.R[j].xs.length S.R[j].cap)) 15 (.agg #[.bool kp.1, .slice kp.2.1 kp.2.2.1 kp.2.2.2])) 16 (.tuple #[]), by kernel_rfl⟩, ?_⟩;clear hK;go_wp2;refine bodyPost_end (results_none (by kernel_rfl) _ _ _) rfl ?_;have hC0 : aO S.rws w w3 := (aO.bF HB1.out).drew.below hfr;have hs3 := hfr.size;have hs4 : w1.drew.heap.size = w1.heap.size := rfl;have hCs : aO (· = S.R[i].aB) w w4 := ((aO.bF HB1.out).drew.below hfr).trans (hC4.mono (fun k _ e => e));have hCo : aO S.rws w w4 := hCs.mono (fun k _ e => .inr ⟨S.R[i], List.getElem_mem hi, e.symm⟩);have hM4 := HL.out.dF.dL hi (kq Hl.out) hCs hR4;exact ⟨rfl, HL.out.rows hCo hM4 (by unfold fk; rw [ai]), hCo⟩
theorem mO {w w' : World} {o : Nat} {R : List Hd} (h : er w o R) {i j : Nat} (hi : i < R.length) (hj : j < R.length) (hij : i ≠ j) {xs ys : List Int} (hl : xs.length = R[i].xs.length) (hl2 : ys.length = R[j].xs.length) (hc : aO (fun k => k = R[i].aB \/ k = R[j].aB) w w') (hr : aJ w' R[i].aB xs) (hr2 : aJ w' R[j].aB ys) : er w' o (dL (dL R i xs) j ys) := by
 have hw : dC (fun k => k = R[i].aB \/ k = R[j].aB) w := by
  rintro g (rfl | rfl)
  . exact (h.row _ (List.getElem_mem hi)).bH _ rfl
  . exact (h.row _ (List.getElem_mem hj)).bH _ rfl
 have hj' : j < (dL R i xs).length := by rw [ai]; exact hj
 have ej : (dL R i xs)[j].xs = R[j].xs := by rw [dT hj, if_neg hij]
 refine ⟨?_, fun r hr' => ?_, by rw [fE, fE]; exact h.nd⟩
 . rw [mo hj' (by rw [ej]; exact hl2), mo hi hl];exact h.out.r5 hc (fun e => e.elim (fun e => h.ne (List.getElem_mem hi) e.symm) (fun e => h.ne (List.getElem_mem hj) e.symm))
 . obtain ⟨m, hm, rfl⟩ := List.getElem_of_mem hr';rw [ai] at hm;have hm2 : m < R.length := by rw [ai] at hm; exact hm
   rw [dT hm];split
   . rename_i e;subst e;have : (dL R i xs)[j].aB = R[j].aB := by rw [dT hj, if_neg hij]
     simp only [this]; exact hr2
   . rename_i hjm;rw [dT hm2];split
     . rename_i e; subst e; exact hr
     . rename_i him;exact hc.yK hw (h.row _ (List.getElem_mem hm2)) (fun e => e.elim (ji h.nd hm2 hi (fun e' => him e'.symm)) (ji h.nd hm2 hj (fun e' => hjm e'.symm)))
def fP (R : List Hd) (i j : Nat) (a b c d : Int) (hi : i < R.length) (hj : j < R.length) : List Hd := dL (dL R i (gL a b R[i].xs R[j].xs)) j (gL c d R[i].xs R[j].xs)
theorem pL (S : bV) (i j : Nat) (mp mq mr ms : P4) (a b c d : Int) (LA LB : Nat) (w : World) (h : dI w S) (hi : i < S.R.length) (hj : j < S.R.length) (hij : i ≠ j) (hA : a8 w LA (av mp) a) (hB : a8 w LA (av mq) b) (hC : a8 w LA (av mr) c) (hD : a8 w LA (av ms) d) (hl : S.R[i].xs.length = S.R[j].xs.length)
 (hxL : ∀ x ∈ S.R[i].xs, aa x.natAbs <= LB) (hyL : ∀ y ∈ S.R[j].xs, aa y.natAbs <= LB) (hLab : LA + LB <= 17592186044415) (hlen : S.R[i].xs.length <= 4611686018427387903) :
 Calls Tryz.prog 132 #[.int .i64 (i : Int), .int .i64 (j : Int), .agg #[.bool mp.1, .slice mp.2.1 mp.2.2.1 mp.2.2.2, .bool mq.1, .slice mq.2.1 mq.2.2.1 mq.2.2.2, .bool mr.1, .slice mr.2.1 mr.2.2.1 mr.2.2.2, .bool ms.1, .slice ms.2.1 ms.2.2.1 ms.2.2.2], .pointer (some ⟨S.g, 0, none⟩)] w fun e w' => e = .returned (.tuple #[]) /\ dI w' (S.ah (fP S.R i j a b c d hi hj)) /\ aO S.rws w w' := by
 have HL := H5 h; clear h;have HA := H5 hA; clear hA;have HB := H5 hB; clear hB;have HC := H5 hC; clear hC;have HD := H5 hD; clear hD;have HXL := H5 hxL; clear hxL;have HYL := H5 hyL; clear hyL;have Hl := H5 hl; clear hl;go_enter Tryz.func132, Tryz.ntmps132;unfold av at *;go_wp2;have hb1 : Below w.heap.size w (w.alloc (.cells #[.bool mp.1, .slice mp.2.1 mp.2.2.1 mp.2.2.2, .bool mq.1, .slice mq.2.1 mq.2.2.1 mq.2.2.2, .bool mr.1, .slice mr.2.1 mr.2.2.1 mr.2.2.2, .bool ms.1, .slice ms.2.1 ms.2.2.1 ms.2.2.2] 161)) := (Below.refl _ _).alloc (Nat.le_refl _) _;have hr1 := a6.new w #[.bool mp.1, .slice mp.2.1 mp.2.2.1 mp.2.2.2, .bool mq.1, .slice mq.2.1 mq.2.2.1 mq.2.2.2, .bool mr.1, .slice mr.2.1 mr.2.2.1 mr.2.2.2, .bool ms.1, .slice ms.2.1 ms.2.2.1 ms.2.2.2] 161;generalize w.alloc (.cells #[.bool mp.1, .slice mp.2.1 mp.2.2.1 mp.2.2.2, .bool mq.1, .slice mq.2.1 mq.2.2.1 mq.2.2.2, .bool mr.1, .slice mr.2.1 mr.2.2.1 mr.2.2.2, .bool ms.1, .slice ms.2.1 ms.2.2.1 ms.2.2.2] 161) = w1 at *;have hbox := HL.out.box.below hb1 HL.out.box.lt;have hM1 := HL.out.dF.below hb1;have HA1 := H5 (HA.out.below hb1);have HB1' := H5 (HB.out.below hb1);have HC1 := H5 (HC.out.below hb1);have HD1 := H5 (HD.out.below hb1);have HX1 := H5 (hM1.row _ (List.getElem_mem hi));have HY1 := H5 (hM1.row _ (List.getElem_mem hj));have hne := ji hM1.nd hi hj hij;have cg : w1.cell? ⟨S.g, 0, none⟩ = some (.slice (some ⟨S.o, 0, none⟩) S.R.length S.cap) := hbox.cell 0;have ci : w1.cell? ⟨S.o, i, none⟩ = some (.slice (some ⟨S.R[i].aB, 0, none⟩) S.R[i].xs.length S.R[i].cap) := hM1.dk hi;have cj : w1.cell? ⟨S.o, j, none⟩ = some (.slice (some ⟨S.R[j].aB, 0, none⟩) S.R[j].xs.length S.R[j].cap) := hM1.dk hj;have HR1 := H5 hr1;have hs0 : S.g < w1.heap.size := hbox.lt;have hs1 : S.o < w1.heap.size := hM1.out.lt;have hs2 : w.heap.size < w1.heap.size := hr1.lt;have hi' : (i : Int) < (S.R.length : Int) := by omega
 have hj' : (j : Int) < (S.R.length : Int) := by omega
 have HM1 := H5 hM1; clear hM1;have HB1 := H5 hb1; clear hb1;clear hr1 hbox;refine cZ ⟨9, fun q_ => [7, 8, 9, 10, 11, 12, 13, 14, 15].getD q_ 0,
  fun q_ => [.val (.slice (some ⟨S.o, 0, none⟩) S.R.length S.cap), .val (.int .i64 (i : Int)), .val (.pointer (some ⟨S.o, i, none⟩)), .val (.slice (some ⟨S.R[i].aB, 0, none⟩) S.R[i].xs.length S.R[i].cap), .val (.slice (some ⟨S.o, 0, none⟩) S.R.length S.cap), .val (.int .i64 (j : Int)), .val (.pointer (some ⟨S.o, j, none⟩)), .val (.slice (some ⟨S.R[j].aB, 0, none⟩) S.R[j].xs.length S.R[j].cap), .val (.agg #[.bool mp.1, .slice mp.2.1 mp.2.2.1 mp.2.2.2, .bool mq.1, .slice mq.2.1 mq.2.2.1 mq.2.2.2, .bool mr.1, .slice mr.2.1 mr.2.2.1 mr.2.2.2, .bool ms.1, .slice ms.2.1 ms.2.2.1 ms.2.2.2])].getD q_ .any,
  [],
  [],
  [(w.heap.size, 161, [.bool mp.1, .slice mp.2.1 mp.2.2.1 mp.2.2.2, .bool mq.1, .slice mq.2.1 mq.2.2.1 mq.2.2.2, .bool mr.1, .slice mr.2.1 mr.2.2.1 mr.2.2.2, .bool ms.1, .slice ms.2.1 ms.2.2.1 ms.2.2.2])],
  [], [(⟨S.g, 0, none⟩, .slice (some ⟨S.o, 0, none⟩) S.R.length S.cap), (⟨S.o, i, none⟩, .slice (some ⟨S.R[i].aB, 0, none⟩) S.R[i].xs.length S.R[i].cap), (⟨S.o, j, none⟩, .slice (some ⟨S.R[j].aB, 0, none⟩) S.R[j].xs.length S.R[j].cap)], []⟩ [7, 8, 9, 10, 11, 12, 13, 14, 15, 16] (w1.heap.size) (by kernel_rfl) (by kernel_rfl) (by kernel_rfl) (by kernel_rfl) (by kernel_rfl) ?_ ?_ ?_ ?_ ?_ ?_
 . intro p hp;cases hp
 . intro p hp;rcases mc hp with rfl | hp
   . refine ⟨HR1.out, by show w.heap.size < w1.heap.size; omega, ?_⟩;intro t ht;cases ht
   cases hp
 . intro p hp;rcases mc hp with rfl | hp
   . refine ⟨cg, by show S.g < w1.heap.size; omega, ?_⟩;intro t ht;cases ht
   rcases mc hp with rfl | hp
   . refine ⟨ci, by show S.o < w1.heap.size; omega, ?_⟩;intro t ht;cases ht
   rcases mc hp with rfl | hp
   . refine ⟨cj, by show S.o < w1.heap.size; omega, ?_⟩;intro t ht;cases ht
   cases hp
 . intro t ht;cases ht
 . refine ag ?_ (ag ?_ (ag ?_ (ag ?_ (ag ?_ (ag ?_ (ag ?_ (ag ?_ (ag ?_ jy))))))));any_goals (first | (intro L fx w' hJ hL hp hcl; have _ := ry hp (by decide +kernel); refine aM rfl fun K hK => ?_; go_simp; exact hJ.q hK (by kernel_rfl) rfl) | fail)
   . intro L fx w' hJ hL hp hcl;refine aM rfl fun K hK => ?_;have cl0 := (hJ.cells _ fl).1;try dsimp only at cl0
     go_simp;exact hJ.q hK (by kernel_rfl) rfl
   . intro L fx w' hJ hL hp hcl;have e0 := hJ.pt 0 7 (.slice (some ⟨S.o, 0, none⟩) S.R.length S.cap) rfl rfl rfl (hp 0 (by decide));rw [e0] at hJ |-; clear e0;have e1 := hJ.pt 1 8 (.int .i64 (i : Int)) rfl rfl rfl (hp 1 (by decide));rw [e1] at hJ |-; clear e1;refine aM rfl fun K hK => ?_;go_simp;exact hJ.q hK (by kernel_rfl) rfl
   . intro L fx w' hJ hL hp hcl;have e2 := hJ.pt 2 9 (.pointer (some ⟨S.o, i, none⟩)) rfl rfl rfl (hp 2 (by decide));rw [e2] at hJ |-; clear e2;refine aM rfl fun K hK => ?_;have cl0 := (hJ.cells _ iP).1;try dsimp only at cl0
     go_simp;exact hJ.q hK (by kernel_rfl) rfl
   . intro L fx w' hJ hL hp hcl;refine aM rfl fun K hK => ?_;have cl0 := (hJ.cells _ fl).1;try dsimp only at cl0
     go_simp;exact hJ.q hK (by kernel_rfl) rfl
   . intro L fx w' hJ hL hp hcl;have e4 := hJ.pt 4 11 (.slice (some ⟨S.o, 0, none⟩) S.R.length S.cap) rfl rfl rfl (hp 4 (by decide));rw [e4] at hJ |-; clear e4;have e5 := hJ.pt 5 12 (.int .i64 (j : Int)) rfl rfl rfl (hp 5 (by decide));rw [e5] at hJ |-; clear e5;refine aM rfl fun K hK => ?_;go_simp;exact hJ.q hK (by kernel_rfl) rfl
   . intro L fx w' hJ hL hp hcl;have e6 := hJ.pt 6 13 (.pointer (some ⟨S.o, j, none⟩)) rfl rfl rfl (hp 6 (by decide));rw [e6] at hJ |-; clear e6;refine aM rfl fun K hK => ?_;have cl0 := (hJ.cells _ oZ).1;try dsimp only at cl0
     go_simp;exact hJ.q hK (by kernel_rfl) rfl
   . intro L fx w' hJ hL hp hcl;refine aM rfl fun K hK => ?_;have rw0 := (hJ.rows _ fl).1;have cl0 : w'.cell? ⟨w.heap.size, 0, none⟩ = some (.bool mp.1) := rw0.cell 0;have cl1 : w'.cell? ⟨w.heap.size, 1, none⟩ = some (.slice mp.2.1 mp.2.2.1 mp.2.2.2) := rw0.cell 1;have cl2 : w'.cell? ⟨w.heap.size, 2, none⟩ = some (.bool mq.1) := rw0.cell 2;have cl3 : w'.cell? ⟨w.heap.size, 3, none⟩ = some (.slice mq.2.1 mq.2.2.1 mq.2.2.2) := rw0.cell 3;have cl4 : w'.cell? ⟨w.heap.size, 4, none⟩ = some (.bool mr.1) := rw0.cell 4;have cl5 : w'.cell? ⟨w.heap.size, 5, none⟩ = some (.slice mr.2.1 mr.2.2.1 mr.2.2.2) := rw0.cell 5;have cl6 : w'.cell? ⟨w.heap.size, 6, none⟩ = some (.bool ms.1) := rw0.cell 6;have cl7 : w'.cell? ⟨w.heap.size, 7, none⟩ = some (.slice ms.2.1 ms.2.2.1 ms.2.2.2) := rw0.cell 7;go_simp;exact hJ.q hK (by kernel_rfl) rfl
 . intro L x' w3 hL hJ;have hfr : Below w1.drew.heap.size w1.drew w3 := hJ.fr;have e3 : x' 10 = .slice (some ⟨S.R[i].aB, 0, none⟩) S.R[i].xs.length S.R[i].cap := hJ.slot 3 (by show 3 < 9; decide) (hL 3 (by show 3 < 9; decide));have e7 : x' 14 = .slice (some ⟨S.R[j].aB, 0, none⟩) S.R[j].xs.length S.R[j].cap := hJ.slot 7 (by show 7 < 9; decide) (hL 7 (by show 7 < 9; decide));have e8 : x' 15 = .agg #[.bool mp.1, .slice mp.2.1 mp.2.2.1 mp.2.2.2, .bool mq.1, .slice mq.2.1 mq.2.2.1 mq.2.2.2, .bool mr.1, .slice mr.2.1 mr.2.2.1 mr.2.2.2, .bool ms.1, .slice ms.2.1 ms.2.2.1 ms.2.2.2] := hJ.slot 8 (by show 8 < 9; decide) (hL 8 (by show 8 < 9; decide));rw [aA (x := x') (d := 10) (v := .slice (some ⟨S.R[i].aB, 0, none⟩) S.R[i].xs.length S.R[i].cap) e3];rw [aA (x := (aZ x' 10 (.slice (some ⟨S.R[i].aB, 0, none⟩) S.R[i].xs.length S.R[i].cap))) (d := 14) (v := .slice (some ⟨S.R[j].aB, 0, none⟩) S.R[j].xs.length S.R[j].cap) e7];rw [aA (x := (aZ (aZ x' 10 (.slice (some ⟨S.R[i].aB, 0, none⟩) S.R[i].xs.length S.R[i].cap)) 14 (.slice (some ⟨S.R[j].aB, 0, none⟩) S.R[j].xs.length S.R[j].cap))) (d := 15) (v := .agg #[.bool mp.1, .slice mp.2.1 mp.2.2.1 mp.2.2.2, .bool mq.1, .slice mq.2.1 mq.2.2.1 mq.2.2.2, .bool mr.1, .slice mr.2.1 mr.2.2.1 mr.2.2.2, .bool ms.1, .slice ms.2.1 ms.2.2.1 ms.2.2.2]) e8];clear hJ hL e3 e7 e8 cg ci cj;refine aM rfl fun K hK => ?_;go_simp;go_at_call 133;refine (zd _ _ _ _ LA LB _ _ mp mq mr ms a b c d _ (aJ.below (w := w1.drew) HX1.out hfr) (aJ.below (w := w1.drew) HY1.out hfr) (a8.below (w := w1.drew) HA1.out hfr) (a8.below (w := w1.drew) HB1'.out hfr) (a8.below (w := w1.drew) HC1.out hfr) (a8.below (w := w1.drew) HD1.out hfr) hne Hl.out HXL.out HYL.out hLab hlen).mono ?_;rintro e w4 ⟨rfl, hR4, hR4', hC4⟩;try dsimp only
   refine hK _ _ ⟨⟨aZ (aZ (aZ (aZ x' 10 (.slice (some ⟨S.R[i].aB, 0, none⟩) S.R[i].xs.length S.R[i].cap)) 14 (.slice (some ⟨S.R[j].aB, 0, none⟩) S.R[j].xs.length S.R[j].cap)) 15 (.agg #[.bool mp.1, .slice mp.2.1 mp.2.2.1 mp.2.2.2, .bool mq.1, .slice mq.2.1 mq.2.2.1 mq.2.2.2, .bool mr.1, .slice mr.2.1 mr.2.2.1 mr.2.2.2, .bool ms.1, .slice ms.2.1 ms.2.2.1 ms.2.2.2])) 16 (.tuple #[]), by kernel_rfl⟩, ?_⟩;clear hK;go_wp2;refine bodyPost_end (results_none (by kernel_rfl) _ _ _) rfl ?_;have hC0 : aO S.rws w w3 := (aO.bF HB1.out).drew.below hfr;have hs3 := hfr.size;have hs4 : w1.drew.heap.size = w1.heap.size := rfl;have hCs : aO (fun k => k = S.R[i].aB \/ k = S.R[j].aB) w w4 := ((aO.bF HB1.out).drew.below hfr).trans (hC4.mono (fun k _ e => e));have hCo : aO S.rws w w4 := hCs.mono (fun k _ e => .inr (e.elim (fun e => ⟨S.R[i], List.getElem_mem hi, e.symm⟩) (fun e => ⟨S.R[j], List.getElem_mem hj, e.symm⟩)));have hM4 := mO HL.out.dF hi hj hij (fG Hl.out) ((fG Hl.out).trans Hl.out) hCs hR4 hR4';exact ⟨rfl, HL.out.rows hCo hM4 (by unfold fP; rw [ai, ai]), hCo⟩
theorem er.drew {w : World} {o : Nat} {R : List Hd} (h : er w o R) : er w.drew o R := ⟨h.out, h.row, h.nd⟩
theorem dI.drew {w : World} {S : bV} (h : dI w S) : dI w.drew S := ⟨h.box, h.dF.drew⟩
theorem au.drew {w : World} {S : bV} (h : au w S) : au w.drew S := ⟨h.lad, h.sides, h.box, h.dF.drew, fun t ht => by obtain ⟨V, hV⟩ := h.ext t ht; exact ⟨V, hV.sd.drew, hV.box3, hV.rel, hV.own, hV.apart⟩⟩
def eK (R : List Hd) (i j : Nat) (hi : i < R.length) (hj : j < R.length) : List Hd := (R.set i R[j]).set j R[i]
def swp (i j m : Nat) : Nat := if m = j then i else if m = i then j else m
theorem mf {i j m n : Nat} (hi : i < n) (hj : j < n) (hm : m < n) : swp i j m < n := by unfold swp; (repeat' split) <;> assumption
theorem AU {i j a b : Nat} (h : swp i j a = swp i j b) : a = b := by unfold swp at h; (repeat' split at h) <;> omega
theorem bR {R : List Hd} {i j : Nat} (hi : i < R.length) (hj : j < R.length) : (eK R i j hi hj).length = R.length := by simp [eK]
theorem fC {R : List Hd} {i j m : Nat} (hi : i < R.length) (hj : j < R.length) (hm : m < R.length) : (eK R i j hi hj)[m]'(by rw [bR]; exact hm) = R[swp i j m]'(mf hi hj hm) := by
 unfold eK;rw [List.getElem_set];split
 . rename_i e; subst e; congr 1; unfold swp; rw [if_pos rfl]
 . rename_i e;rw [List.getElem_set];split
   . rename_i e'; subst e'; congr 1; unfold swp; rw [if_neg (fun h => e h.symm), if_pos rfl]
   . rename_i e'; congr 1; unfold swp; rw [if_neg (fun h => e h.symm), if_neg (fun h => e' h.symm)]
theorem wO {R : List Hd} {i j : Nat} (hi : i < R.length) (hj : j < R.length) : (eK R i j hi hj).map Hd.dk = ((R.map Hd.dk).set i (R[j]).dk).set j (R[i]).dk := by
 unfold eK; rw [List.map_set, List.map_set]
theorem wD {w w' : World} {o : Nat} {R : List Hd} (h : er w o R) {i j : Nat} (hi : i < R.length) (hj : j < R.length) (hc : aO (· = o) w w') (hr : fA w' o 22 (((R.map Hd.dk).set i (R[j]).dk).set j (R[i]).dk)) : er w' o (eK R i j hi hj) := by
 have hw : dC (· = o) w := by rintro g rfl; obtain ⟨tl, n, ho⟩ := h.out; exact ⟨_, _, ho, aK.append (nE _) n⟩
 refine ⟨by rw [wO]; exact hr, fun r hr' => ?_, ?_⟩
 . obtain ⟨m, hm, rfl⟩ := List.getElem_of_mem hr';rw [bR] at hm;rw [fC hi hj hm];have hmem := List.getElem_mem (l := R) (mf hi hj hm);exact hc.yK hw (h.row _ hmem) (h.ne hmem)
 . refine List.pairwise_iff_getElem.2 fun a b ha hb hab => ?_;have ha' : a < R.length := by simpa [bR] using ha
   have hb' : b < R.length := by simpa [bR] using hb
   simp only [List.getElem_map];rw [fC hi hj ha', fC hi hj hb'];exact ji h.nd (mf hi hj ha') (mf hi hj hb') (fun e => by have := AU e; omega)
theorem rK (J : (Nat -> Bool) -> (Nat -> Value) -> World -> Prop) (ds : List Nat) {P : Program} {ops : Array Oper} {Q : Exit -> Act -> World -> Prop} {id n : Nat} {a : Act} {w : World} (hm : P.follows .mixedOrders = true) (hn : ops.size = n)
 (hb : ((List.range n).all fun i => ((ops[i]?).map (·.after.all fun e => !Region.binds .any e || decide (e.on < i))).getD false) = true)
 (hF : a = cX a (fun k => a.tmps.getD k undef) ds) (h0 : ∀ x, J (fun _ => false) x w.drew)
 (hs : ∀ i ∈ List.range n, ∀ L x w', J L x w' -> (∀ k < n, L k = true -> ∀ j ∈ dQ ops k, L j = true) -> L i = false -> (∀ j ∈ dQ ops i, L j = true) -> wpOp P ops Q i (fun a' w'' => ∃ x', a' = cX a x' ds /\ J (fw L i) x' w'') (cX a x ds) w')
 (hend : ∀ L x w', (∀ i < n, L i = true) -> J L x w' -> Q .normal (cX a x ds) w') : (Code.region id ops true).wp P Q a w :=
 ig hm hn hb (fun x => cX a x ds) J (fun k => a.tmps.getD k undef) hF (h0 _) (fun i hi L x w' hJ hG hL hp => hs i (List.mem_range.2 hi) L x w' hJ (fun k hk hLk => db L k (hG k hk hLk)) hL (db L i hp)) hend
def swD (k : Nat) : Nat := if k < 13 then k + 5 else 18
def swV (S : bV) (i j : Nat) (hi : i < S.R.length) (hj : j < S.R.length) (k : Nat) : Value := [.slice (some ⟨S.o, 0, none⟩) S.R.length S.cap, .int .i64 (i : Int), .slice (some ⟨S.o, 0, none⟩) S.R.length S.cap, .int .i64 (j : Int), .slice (some ⟨S.o, 0, none⟩) S.R.length S.cap, .int .i64 (j : Int), .pointer (some ⟨S.o, j, none⟩), .slice (some ⟨(S.R[j]'hj).aB, 0, none⟩) (S.R[j]'hj).xs.length (S.R[j]'hj).cap, .slice (some ⟨S.o, 0, none⟩) S.R.length S.cap, .int .i64 (i : Int), .pointer (some ⟨S.o, i, none⟩), .slice (some ⟨(S.R[i]'hi).aB, 0, none⟩) (S.R[i]'hi).xs.length (S.R[i]'hi).cap, .pointer (some ⟨S.o, i, none⟩), undef, .pointer (some ⟨S.o, j, none⟩), undef].getD k undef
def swW (S : bV) (i j : Nat) (hi : i < S.R.length) (hj : j < S.R.length) (w : World) : Bool -> Bool -> World
 | true, true => (w.setCell ⟨S.o, i, none⟩ (.slice (some ⟨(S.R[j]'hj).aB, 0, none⟩) (S.R[j]'hj).xs.length (S.R[j]'hj).cap)).setCell ⟨S.o, j, none⟩ (.slice (some ⟨(S.R[i]'hi).aB, 0, none⟩) (S.R[i]'hi).xs.length (S.R[i]'hi).cap)
 | true, false => w.setCell ⟨S.o, i, none⟩ (.slice (some ⟨(S.R[j]'hj).aB, 0, none⟩) (S.R[j]'hj).xs.length (S.R[j]'hj).cap)
 | false, _ => w
def swJ (S : bV) (i j : Nat) (hi : i < S.R.length) (hj : j < S.R.length) (w : World) (L : Nat -> Bool) (x : Nat -> Value) (w' : World) : Prop :=
 (∀ k, k < 16 -> k ≠ 13 -> k ≠ 15 -> L k = true -> x (swD k) = swV S i j hi hj k) /\ w' = swW S i j hi hj w (L 13) (L 15)
theorem swJ.pure {S : bV} {i j : Nat} {hi : i < S.R.length} {hj : j < S.R.length} {w w' : World} {L : Nat -> Bool} {x : Nat -> Value} (h : swJ S i j hi hj w L x w') (k : Nat) (hk : Nat.blt k 16 = true) (h1 : Nat.beq k 13 = false) (h2 : Nat.beq k 15 = false) :
 swJ S i j hi hj w (fw L k) (aZ x (swD k) (swV S i j hi hj k)) w' := by
 have hk := Nat.le_of_ble_eq_true hk;have h1 : k ≠ 13 := fun e => by subst e; cases h1
 have h2 : k ≠ 15 := fun e => by subst e; cases h2
 refine ⟨fun m hm hm1 hm2 hL => ?_, ?_⟩
 . unfold aZ;by_cases e : m = k
   . subst e; rw [if_pos rfl]
   . rw [if_neg (by unfold swD; split <;> split <;> omega)];unfold fw at hL;rw [if_neg e] at hL;exact h.1 m hm hm1 hm2 hL
 . show w' = swW S i j hi hj w (fw L k 13) (fw L k 15);unfold fw;rw [if_neg (Ne.symm h1), if_neg (Ne.symm h2)];exact h.2
theorem kD (S : bV) (i j : Nat) (w : World) (h : dI w S) (hi : i < S.R.length) (hj : j < S.R.length) (hij : i ≠ j) :
 Calls Tryz.prog 128 #[.int .i64 (i : Int), .int .i64 (j : Int), .pointer (some ⟨S.g, 0, none⟩)] w fun e w' => e = .returned (.tuple #[]) /\ dI w' (S.ah (eK S.R i j hi hj)) /\ aO S.rws w w' := by
 have hgo : S.g ≠ S.o := h.box.neP h.dF.out (by decide);have hog : ¬ S.o = S.g := fun e => hgo e.symm;have cg : w.cell? ⟨S.g, 0, none⟩ = some (.slice (some ⟨S.o, 0, none⟩) S.R.length S.cap) := h.box.cell 0;have ci : w.cell? ⟨S.o, i, none⟩ = some (.slice (some ⟨S.R[i].aB, 0, none⟩) S.R[i].xs.length S.R[i].cap) := h.dF.dk hi;have cj : w.cell? ⟨S.o, j, none⟩ = some (.slice (some ⟨S.R[j].aB, 0, none⟩) S.R[j].xs.length S.R[j].cap) := h.dF.dk hj;have fi := h.dF.out.free i;have fj := h.dF.out.free j;have hi' : (i : Int) < (S.R.length : Int) := by omega
 have hj' : (j : Int) < (S.R.length : Int) := by omega
 have hji : ¬ j = i := fun e => hij e.symm;have HL := H5 h; clear h;go_enter Tryz.func128, Tryz.ntmps128;go_wp2;have hcell : ∀ a b, (swW S i j hi hj w.drew a b).cell? ⟨S.g, 0, none⟩ = some (.slice (some ⟨S.o, 0, none⟩) S.R.length S.cap) := by
  intro a b;cases a
  . exact cg
  . cases b
    . exact (World.cell?_setCell_far _ _ _ _ hog).trans cg
    . exact (World.cell?_setCell_far _ _ _ _ hog).trans ((World.cell?_setCell_far _ _ _ _ hog).trans cg)
 have HC := H5 hcell;clear hcell;refine rK (swJ S i j hi hj w.drew) [5, 6, 7, 8, 9, 10, 11, 12, 13, 14, 15, 16, 17, 18] (n := 16) (by kernel_rfl) (by kernel_rfl) (by kernel_rfl) (by kernel_rfl) ?_ ?_ ?_
 . exact fun _ => ⟨fun _ _ _ _ h => by simp at h, rfl⟩
 . refine ag ?_ (ag ?_ (ag ?_ (ag ?_ (ag ?_ (ag ?_ (ag ?_ (ag ?_ (ag ?_ (ag ?_ (ag ?_ (ag ?_ (ag ?_ (ag ?_ (ag ?_ (ag ?_ jy)))))))))))))))
   . intro L x w' hJ hG hL hp;have c0 : w'.cell? ⟨S.g, 0, none⟩ = some (.slice (some ⟨S.o, 0, none⟩) S.R.length S.cap) := by rw [hJ.2]; exact HC.out _ _
     refine wpOp_step rfl (fun K hK => ?_);simp only [pN, Nat.reduceEqDiff, ↓reduceIte];go_simp;exact hK _ _ ⟨_, by kernel_rfl, hJ.pure 0 rfl rfl rfl⟩
   . intro L x w' hJ hG hL hp;refine wpOp_step rfl (fun K hK => ?_);simp only [pN, Nat.reduceEqDiff, ↓reduceIte];go_simp;exact hK _ _ ⟨_, by kernel_rfl, hJ.pure 1 rfl rfl rfl⟩
   . intro L x w' hJ hG hL hp;have c0 : w'.cell? ⟨S.g, 0, none⟩ = some (.slice (some ⟨S.o, 0, none⟩) S.R.length S.cap) := by rw [hJ.2]; exact HC.out _ _
     refine wpOp_step rfl (fun K hK => ?_);simp only [pN, Nat.reduceEqDiff, ↓reduceIte];go_simp;exact hK _ _ ⟨_, by kernel_rfl, hJ.pure 2 rfl rfl rfl⟩
   . intro L x w' hJ hG hL hp;refine wpOp_step rfl (fun K hK => ?_);simp only [pN, Nat.reduceEqDiff, ↓reduceIte];go_simp;exact hK _ _ ⟨_, by kernel_rfl, hJ.pure 3 rfl rfl rfl⟩
   . intro L x w' hJ hG hL hp;have c0 : w'.cell? ⟨S.g, 0, none⟩ = some (.slice (some ⟨S.o, 0, none⟩) S.R.length S.cap) := by rw [hJ.2]; exact HC.out _ _
     refine wpOp_step rfl (fun K hK => ?_);simp only [pN, Nat.reduceEqDiff, ↓reduceIte];go_simp;exact hK _ _ ⟨_, by kernel_rfl, hJ.pure 4 rfl rfl rfl⟩
   . intro L x w' hJ hG hL hp;refine wpOp_step rfl (fun K hK => ?_);simp only [pN, Nat.reduceEqDiff, ↓reduceIte];go_simp;exact hK _ _ ⟨_, by kernel_rfl, hJ.pure 5 rfl rfl rfl⟩
   . intro L x w' hJ hG hL hp;have e4 : x 9 = (.slice (some ⟨S.o, 0, none⟩) S.R.length S.cap) := hJ.1 4 (by decide) (by decide) (by decide) (hp 4 (by decide));have e5 : x 10 = (.int .i64 (j : Int)) := hJ.1 5 (by decide) (by decide) (by decide) (hp 5 (by decide));rw [aA (x := x) (d := 9) e4] at hJ |-;rw [aA (x := (aZ x 9 (.slice (some ⟨S.o, 0, none⟩) S.R.length S.cap))) (d := 10) e5] at hJ |-;refine wpOp_step rfl (fun K hK => ?_);simp only [pN, Nat.reduceEqDiff, ↓reduceIte];go_simp;exact hK _ _ ⟨_, by kernel_rfl, hJ.pure 6 rfl rfl rfl⟩
   . intro L x w' hJ hG hL hp;have e6 : x 11 = (.pointer (some ⟨S.o, j, none⟩)) := hJ.1 6 (by decide) (by decide) (by decide) (hp 6 (by decide));rw [aA (x := x) (d := 11) e6] at hJ |-;have h13 : L 13 = false := by cases h : L 13 with | false => rfl | true => have := hG 13 (by decide) h 7 (by decide); rw [hL] at this; cases this
     have hw : w' = w.drew := by rw [hJ.2, h13]; rfl
     rw [hw] at hJ |-;have cj' : w.drew.cell? ⟨S.o, j, none⟩ = some (.slice (some ⟨(S.R[j]'hj).aB, 0, none⟩) (S.R[j]'hj).xs.length (S.R[j]'hj).cap) := cj;refine wpOp_step rfl (fun K hK => ?_);simp only [pN, Nat.reduceEqDiff, ↓reduceIte];go_simp;exact hK _ _ ⟨_, by kernel_rfl, hJ.pure 7 rfl rfl rfl⟩
   . intro L x w' hJ hG hL hp;have c0 : w'.cell? ⟨S.g, 0, none⟩ = some (.slice (some ⟨S.o, 0, none⟩) S.R.length S.cap) := by rw [hJ.2]; exact HC.out _ _
     refine wpOp_step rfl (fun K hK => ?_);simp only [pN, Nat.reduceEqDiff, ↓reduceIte];go_simp;exact hK _ _ ⟨_, by kernel_rfl, hJ.pure 8 rfl rfl rfl⟩
   . intro L x w' hJ hG hL hp;refine wpOp_step rfl (fun K hK => ?_);simp only [pN, Nat.reduceEqDiff, ↓reduceIte];go_simp;exact hK _ _ ⟨_, by kernel_rfl, hJ.pure 9 rfl rfl rfl⟩
   . intro L x w' hJ hG hL hp;have e8 : x 13 = (.slice (some ⟨S.o, 0, none⟩) S.R.length S.cap) := hJ.1 8 (by decide) (by decide) (by decide) (hp 8 (by decide));have e9 : x 14 = (.int .i64 (i : Int)) := hJ.1 9 (by decide) (by decide) (by decide) (hp 9 (by decide));rw [aA (x := x) (d := 13) e8] at hJ |-;rw [aA (x := (aZ x 13 (.slice (some ⟨S.o, 0, none⟩) S.R.length S.cap))) (d := 14) e9] at hJ |-;refine wpOp_step rfl (fun K hK => ?_);simp only [pN, Nat.reduceEqDiff, ↓reduceIte];go_simp;exact hK _ _ ⟨_, by kernel_rfl, hJ.pure 10 rfl rfl rfl⟩
   . intro L x w' hJ hG hL hp;have e10 : x 15 = (.pointer (some ⟨S.o, i, none⟩)) := hJ.1 10 (by decide) (by decide) (by decide) (hp 10 (by decide));rw [aA (x := x) (d := 15) e10] at hJ |-;have h13 : L 13 = false := by cases h : L 13 with | false => rfl | true => have := hG 13 (by decide) h 11 (by decide); rw [hL] at this; cases this
     have hw : w' = w.drew := by rw [hJ.2, h13]; rfl
     rw [hw] at hJ |-;have ci' : w.drew.cell? ⟨S.o, i, none⟩ = some (.slice (some ⟨(S.R[i]'hi).aB, 0, none⟩) (S.R[i]'hi).xs.length (S.R[i]'hi).cap) := ci;refine wpOp_step rfl (fun K hK => ?_);simp only [pN, Nat.reduceEqDiff, ↓reduceIte];go_simp;exact hK _ _ ⟨_, by kernel_rfl, hJ.pure 11 rfl rfl rfl⟩
   . intro L x w' hJ hG hL hp;have e0 : x 5 = (.slice (some ⟨S.o, 0, none⟩) S.R.length S.cap) := hJ.1 0 (by decide) (by decide) (by decide) (hp 0 (by decide));have e1 : x 6 = (.int .i64 (i : Int)) := hJ.1 1 (by decide) (by decide) (by decide) (hp 1 (by decide));rw [aA (x := x) (d := 5) e0] at hJ |-;rw [aA (x := (aZ x 5 (.slice (some ⟨S.o, 0, none⟩) S.R.length S.cap))) (d := 6) e1] at hJ |-;refine wpOp_step rfl (fun K hK => ?_);simp only [pN, Nat.reduceEqDiff, ↓reduceIte];go_simp;exact hK _ _ ⟨_, by kernel_rfl, hJ.pure 12 rfl rfl rfl⟩
   . intro L x w' hJ hG hL hp;have e12 : x 17 = (.pointer (some ⟨S.o, i, none⟩)) := hJ.1 12 (by decide) (by decide) (by decide) (hp 12 (by decide));have e7 : x 12 = (.slice (some ⟨(S.R[j]'hj).aB, 0, none⟩) (S.R[j]'hj).xs.length (S.R[j]'hj).cap) := hJ.1 7 (by decide) (by decide) (by decide) (hp 7 (by decide));rw [aA (x := x) (d := 17) e12] at hJ |-;rw [aA (x := (aZ x 17 (.pointer (some ⟨S.o, i, none⟩)))) (d := 12) e7] at hJ |-;have hw : w' = w.drew := by rw [hJ.2, hL]; rfl
     rw [hw] at hJ |-;refine wpOp_step rfl (fun K hK => ?_);simp only [pN, Nat.reduceEqDiff, ↓reduceIte];go_simp;have h15 : L 15 = false := by cases h : L 15 with | false => rfl | true => have := hG 15 (by decide) h 13 (by decide); rw [hL] at this; cases this
     refine hK _ _ ⟨_, by kernel_rfl, fun m hm h1 h2 hLm => hJ.1 m hm h1 h2 (by unfold fw at hLm; rw [if_neg h1] at hLm; exact hLm), ?_⟩;have e1 : fw L 13 13 = true := rfl;have e2 : fw L 13 15 = false := h15;rw [e1, e2];rfl
   . intro L x w' hJ hG hL hp;have e2 : x 7 = (.slice (some ⟨S.o, 0, none⟩) S.R.length S.cap) := hJ.1 2 (by decide) (by decide) (by decide) (hp 2 (by decide));have e3 : x 8 = (.int .i64 (j : Int)) := hJ.1 3 (by decide) (by decide) (by decide) (hp 3 (by decide));rw [aA (x := x) (d := 7) e2] at hJ |-;rw [aA (x := (aZ x 7 (.slice (some ⟨S.o, 0, none⟩) S.R.length S.cap))) (d := 8) e3] at hJ |-;refine wpOp_step rfl (fun K hK => ?_);simp only [pN, Nat.reduceEqDiff, ↓reduceIte];go_simp;exact hK _ _ ⟨_, by kernel_rfl, hJ.pure 14 rfl rfl rfl⟩
   . intro L x w' hJ hG hL hp;have e14 : x 18 = (.pointer (some ⟨S.o, j, none⟩)) := hJ.1 14 (by decide) (by decide) (by decide) (hp 14 (by decide));have e11 : x 16 = (.slice (some ⟨(S.R[i]'hi).aB, 0, none⟩) (S.R[i]'hi).xs.length (S.R[i]'hi).cap) := hJ.1 11 (by decide) (by decide) (by decide) (hp 11 (by decide));rw [aA (x := x) (d := 18) e14] at hJ |-;rw [aA (x := (aZ x 18 (.pointer (some ⟨S.o, j, none⟩)))) (d := 16) e11] at hJ |-;have h13 : L 13 = true := hp 13 (by decide);have hw : w' = w.drew.setCell ⟨S.o, i, none⟩ (S.R[j]'hj).dk := by rw [hJ.2, h13, hL]; rfl
     rw [hw] at hJ |-;refine wpOp_step rfl (fun K hK => ?_);simp only [pN, Nat.reduceEqDiff, ↓reduceIte];go_simp;refine hK _ _ ⟨_, by kernel_rfl, fun m hm h1 h2 hLm => hJ.1 m hm h1 h2 (by unfold fw at hLm; rw [if_neg h2] at hLm; exact hLm), ?_⟩;have e1 : fw L 15 13 = true := h13;have e2 : fw L 15 15 = true := rfl;rw [e1, e2];rfl
 . intro L x w' hL hJ;have hw : w' = (w.drew.setCell ⟨S.o, i, none⟩ (S.R[j]'hj).dk).setCell ⟨S.o, j, none⟩ (S.R[i]'hi).dk := by rw [hJ.2, hL 13 (by decide), hL 15 (by decide)]; rfl
   rw [hw];simp only [pN, Nat.reduceEqDiff, ↓reduceIte];go_wp2;refine bodyPost_end (results_none (by kernel_rfl) _ _ _) rfl ?_;have hC : aO (· = S.o) w ((w.setCell ⟨S.o, i, none⟩ (S.R[j]).dk).setCell ⟨S.o, j, none⟩ (S.R[i]).dk) := ((aO.refl (· = S.o) w).set (p := ⟨S.o, i, none⟩) rfl _).set (p := ⟨S.o, j, none⟩) rfl _;have hR := (HL.out.dF.out.set (i := i) (by simpa using hi) (S.R[j]).dk).set (i := j) (by simpa using hj) (S.R[i]).dk;have hM := wD HL.out.dF hi hj hC hR;have hCo : aO S.rws w ((w.setCell ⟨S.o, i, none⟩ (S.R[j]).dk).setCell ⟨S.o, j, none⟩ (S.R[i]).dk) := hC.mono (fun k _ e => .inl e);have hL := HL.out.rows hCo hM (bR hi hj);exact ⟨rfl, dI.drew hL, hCo.drew⟩
end Go.Proofs.YtbgecfleamckcaaGreat
