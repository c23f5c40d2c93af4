/- Part 3 of 6 of the proof that the law SnfChains returns true for every input of bulk at most 1048576 and leaves its arguments as they were: here the contracts of the functions that it calls, and plain lemmas. -/
import Derived.Deep.AppendSrc
import Derived.Deep.Upon
import Derived.Test.YtajmkebkgmbfnaaGreatPcB
set_option linter.all false
namespace Go.Proofs.YtajmkebkgmbfnaaGreat
open Go.RowKit
def En.wat (ao : Option Addr) (ws : List Nat) : En := .fact false false (fun g => 0 < ws.length /\ ∃ o, ao = some ⟨g, o, none⟩) (fun w => WAt w ao ws) (fun h b ⟨hl, o, e⟩ => by
 obtain ⟨b', o', e', hb, _⟩ := h.2 hl;rw [e] at e'; cases e'; exact hb)
 (fun {w w' T} h hc _ hs => ⟨h.1, fun hl => by
  obtain ⟨b, o, e, hb, hcl⟩ := h.2 hl;exact ⟨b, o, e, Nat.lt_of_lt_of_le hb hc.size, fun i hi => (hc.cell (p := ⟨b, o + i, none⟩) hb (hs b ⟨hl, o, e⟩)).trans (hcl i hi)⟩⟩)
theorem gw_some {ws : List Nat} {i : Nat} (h : i < ws.length) : ws[i]? = some (gw ws i) := by simp [gw, h]
section
variable {P : Program} {Q : Exit -> Act -> World -> Prop} {S0 : Nat -> Prop} {w0 : World} {n : Nat} {ls : List (Nat × Value)} {es : List En} {c : Code}
theorem wordW {ws : List Nat} {b o : Nat} (i : Nat) (hm : En.wat (some ⟨b, o, none⟩) ws ∈ es) (hi : i < ws.length) (k : CW P n S0 w0 c Q ls (.cell ⟨b, o + i, none⟩ (.int .u64 ((gw ws i : Nat) : Int)) :: es)) : CW P n S0 w0 c Q ls es := fun a w ha hw => by
 have hA : WAt w (some ⟨b, o, none⟩) ws := hw.all _ hm;obtain ⟨b', o', e, hb, hc⟩ := hA.2 (by omega);cases e;refine k a w ha (hw.cons (e := .cell ⟨b, o + i, none⟩ (.int .u64 ((gw ws i : Nat) : Int))) (hc i hi) (fun e' he' => ⟨(fun h => nomatch h), fun hwr g hg hg' => ?_⟩) (fun h => nomatch h));have hg' : g = b := hg';subst hg';obtain ⟨l1, l2, rfl⟩ := List.append_of_mem hm;have hS : (En.wat (some ⟨g, o, none⟩) ws).S g := ⟨by omega, o, rfl⟩;have hp := List.pairwise_append.1 hw.sep;rcases List.mem_append.1 he' with h | h
 · exact (hp.2.2 e' h _ (List.mem_cons_self ..)).1 hwr g hg hS
 · rcases List.mem_cons.1 h with rfl | h
   · cases hwr
   · exact ((List.pairwise_cons.1 hp.2.1).1 e' h).2 hwr g hg hS
theorem word0W {ws : List Nat} {b : Nat} (i : Nat) (hm : En.wat (some ⟨b, 0, none⟩) ws ∈ es) (hi : i < ws.length) (k : CW P n S0 w0 c Q ls (.cell ⟨b, i, none⟩ (.int .u64 ((gw ws i : Nat) : Int)) :: es)) : CW P n S0 w0 c Q ls es :=
 wordW i hm hi (by rw [Nat.zero_add]; exact k)
theorem pickW {es' : List En} (k : CW P n S0 w0 c Q ls es') (h : Pk es es' := by repeat (first | exact Pk.n | refine Pk.c (by repeat (first | exact Rm.z | apply Rm.s)) ?_)) : CW P n S0 w0 c Q ls es := fun a w ha hw => k a w ha (hw.pick h)
end
section
variable {P : Program} {ops : Array Oper} {Q : Exit -> Act -> World -> Prop} {S0 : Nat -> Prop} {w0 : World} {E0 : List En} {hd : List (List Nat)} {n j s : Nat} {l : List Nat} {G E : List En} {ls : List (Nat × Value)} {op : Op} {ty : TypeId} {pos : String} {af : Array Edge} {v v' : Value}
theorem dE (hv : v' = v) (k : RWs ⟨P, ops, Q, S0, w0, E0, []⟩ n l G E ((s, v) :: ls))
 (ho : ops[j]? = some ⟨some s, op, ty, pos, af, none⟩ := by rfl) (hk : (isDet op && chkO ls op && Nat.blt s n) = true := by kernel_rfl)
 (hr : ∀ w, (isLd op = true -> Fr S0 w0 w E0) -> (execOp (evl ls) ⟨some s, op, ty, pos, af, none⟩).run P w = .ok (.value v') w := by intro w H; (first | (have c := (H rfl).c; try simp only [celN, cl, List.cons_append, List.nil_append] at c) | skip); clear H; go_simp <;> with_reducible rfl) : RWs ⟨P, ops, Q, S0, w0, E0, []⟩ n (j :: l) G E ls :=
 dW (v := v) k ho hk (by rw [<- hv]; exact hr)
theorem dB (b : Bool) (k : RWs ⟨P, ops, Q, S0, w0, E0, []⟩ n l G E ((s, .bool b) :: ls))
 (ho : ops[j]? = some ⟨some s, op, ty, pos, af, none⟩ := by rfl) (hk : (isDet op && chkO ls op && Nat.blt s n) = true := by kernel_rfl)
 (hr : ∀ w, (isLd op = true -> Fr S0 w0 w E0) -> (execOp (evl ls) ⟨some s, op, ty, pos, af, none⟩).run P w = .ok (.value v') w := by intro w H; (first | (have c := (H rfl).c; try simp only [celN, cl, List.cons_append, List.nil_append] at c) | skip); clear H; go_simp <;> with_reducible rfl)
 (hv : v' = .bool b := by first | rfl | (simp [*]; done) | (simp; omega)) : RWs ⟨P, ops, Q, S0, w0, E0, []⟩ n (j :: l) G E ls :=
 dE hv k ho hk hr
theorem dGB (b : Bool) {sg g : Nat} {want : Bool} (k : RWs ⟨P, ops, Q, S0, w0, E0, []⟩ n l G E ((s, .bool b) :: ls))
 (ho : ops[j]? = some ⟨some s, op, ty, pos, af, some (g, want)⟩ := by rfl) (hk : (isDet op && chkO ls op && Nat.blt s n) = true := by kernel_rfl)
 (hg : (ops[g]?).bind (·.dst) = some sg := by rfl) (hi : inLs ls (.tmp sg) = true := by kernel_rfl) (hb : evl ls (.tmp sg) = .bool want := by (simp only [evlN, Nat.reduceEqDiff, ↓reduceIte]) <;> first | rfl | simp [*])
 (hr : ∀ w, (isLd op = true -> Fr S0 w0 w E0) -> (execOp (evl ls) ⟨some s, op, ty, pos, af, some (g, want)⟩).run P w = .ok (.value v') w := by intro w H; (first | (have c := (H rfl).c; try simp only [celN, cl, List.cons_append, List.nil_append] at c) | skip); clear H; go_simp <;> with_reducible rfl)
 (hv : v' = .bool b := by first | rfl | (simp [*]; done) | (simp; omega)) : RWs ⟨P, ops, Q, S0, w0, E0, []⟩ n (j :: l) G E ls :=
 dG k ho hk hg hi hb (by rw [<- hv]; exact hr)
theorem mW {sl sc : Operand} {a b : Int} {kl kc : IntKind} (x y : Nat) (hx : a = x) (hy : b = y) (hxy : x <= y) (hb : y <= 35184372088832) (k : ∀ g, RWs ⟨Tryz.prog, ops, Q, S0, w0, E0, hd⟩ n l (.row g 92 ((List.replicate y 0).map wv) :: G) E ((s, .slice (some ⟨g, 0, none⟩) x y) :: ls))
 (ho : ops[j]? = some ⟨some s, .makeSlice 42 sl sc, ty, pos, af, none⟩ := by rfl) (hk : (chkO ls (.makeSlice 42 sl sc) && Nat.blt s n) = true := by kernel_rfl)
 (h1 : evl ls sl = .int kl a := by (simp only [evlN, Nat.reduceEqDiff, ↓reduceIte]) <;> rfl) (h2 : evl ls sc = .int kc b := by (simp only [evlN, Nat.reduceEqDiff, ↓reduceIte]) <;> rfl) : RWs ⟨Tryz.prog, ops, Q, S0, w0, E0, hd⟩ n (j :: l) G E ls := fun A hA => by
 simp only [Bool.and_eq_true] at hk;refine ⟨_, ho, .inr (.inl ⟨rfl, rfl, fun g => .slice (some ⟨g, 0, none⟩) x y, 92, (List.replicate y 0).map wv, ⟨rfl, fun w => ?_⟩, fun g => k g _ (hA.put (Nat.le_of_ble_eq_true hk.2) _)⟩)⟩;rw [hA.exec (o := ⟨some s, .makeSlice 42 sl sc, ty, pos, af, none⟩) hk.1];obtain ⟨i, hi, hz, hs, hbt⟩ := info_parts info_u64;subst hx hy;have hr := run_make (P := Tryz.prog) w 42 92 i (.int .u64 0) Tryz.underlying42 hi hz kl kc x y (by omega) (by omega) (by rw [hbt]; omega) (by omega);simp only [Int.toNat_natCast] at hr;have e : madeCells (Value.int IntKind.u64 0).cells (y * i.size) = ((List.replicate y 0).map wv).toArray := by
  have := made_words y;rw [hs, <- this]
 simp [execOp, h1, h2, hr, Result.andThen, e]
theorem sU {b i : Nat} {ws ws' : List Nat} {ad x : Operand} {sty : TypeId} {E' : List En} (q y : Nat) (hq : q < ws.length) (hs : ws.set q y = ws') (hwl : ∀ e ∈ G ++ E, e.wl = false := by simp [En.wl, En.wat])
 (k' : RWs ⟨Tryz.prog, ops, Q, S0, w0, E0, hd⟩ n l G E' ls)
 (ho : ops[j]? = some ⟨none, .store sty ad x, ty, pos, af, none⟩ := by rfl) (hk : chkO ls (.store sty ad x) = true := by kernel_rfl)
 (ha : evl ls ad = .pointer (some ⟨b, q, none⟩) := by (simp only [evlN, Nat.reduceEqDiff, ↓reduceIte]) <;> rfl)
 (hv : evl ls x = .int .u64 ((y : Nat) : Int) := by (simp only [evlN, Nat.reduceEqDiff, ↓reduceIte]) <;> rfl)
 (hE : Up (.row b 92 (ws.map wv)) (.row b 92 (ws'.map wv)) i E E' := by repeat first | exact .z | apply Up.s)
 (hr : ∀ w u, w.cell? ⟨b, q, none⟩ = some u -> w.frozen? ⟨b, q, none⟩ = false -> (execOp (evl ls) ⟨none, .store sty ad x, ty, pos, af, none⟩).run Tryz.prog w = .ok .skip (w.setCell ⟨b, q, none⟩ (.int .u64 ((y : Nat) : Int))) := by intro w u c f; go_simp <;> rfl)
 (hst : okSt ops hd j [i] = true := by kernel_rfl) : RWs ⟨Tryz.prog, ops, Q, S0, w0, E0, hd⟩ n (j :: l) G E ls := fun a hA => by
 subst hs;refine ⟨_, ho, .inr (.inr ⟨rfl, rfl, Unit, fun _ => undef, fun _ => G, fun _ => E', [i], ⟨()⟩, fun X w hX hw => ?_, hst, fun _ r hr => hE.other (by simpa using hr), fun _ => k' _ (hA.put0 _)⟩)⟩;obtain ⟨m, h1, h2⟩ := hE.right' X G;have hrow : RowAt w b 92 (ws.map wv) := (hw.perm h1).all _ (List.mem_cons_self ..);refine ifw rfl ?_;show wpR _ _ ((execOp a.eval _).run _ w);rw [hA.exec (o := ⟨none, .store sty ad x, ty, pos, af, none⟩) hk, hr w _ (hrow.word hq) (hrow.free q)];refine ⟨(), rfl, ?_⟩;have e : setL (ws.map wv) q [.int .u64 ((y : Nat) : Int)] = (ws.set q y).map wv := map_wv_set ws q y;exact hw.st (t := 92) [.int .u64 ((y : Nat) : Int)] q (.inr fun e he => (List.mem_append.1 he).elim (hX e) (hwl e)) h1 (by rw [e]; exact h2)
end
theorem Fr.apart {S0 : Nat -> Prop} {w0 w : World} {es : List En} (h : Fr S0 w0 w es) {e e1 : En} (he : e ∈ es) (he1 : e1 ∈ es) (hw : e.wr = true) (hw1 : e1.wr = false) {b : Nat} (hb : e.S b) : ¬ e1.S b := fun hb1 => by
 obtain ⟨l1, l2, rfl⟩ := List.append_of_mem he1;have hp := List.pairwise_append.1 h.sep;rcases List.mem_append.1 he with h | h
 · exact (hp.2.2 e h _ (List.mem_cons_self ..)).1 hw b hb hb1
 · rcases List.mem_cons.1 h with rfl | h
   · rw [hw] at hw1; cases hw1
   · exact ((List.pairwise_cons.1 hp.2.1).1 e h).2 hw b hb hb1
def Rd (w w' : World) (L es : List En) : Prop := Below w.heap.size w w' /\ ∀ e ∈ es, e.F w' /\ e.wr = false /\ ∀ b, e.S b -> w.heap.size <= b ∨ ∃ e1 ∈ L, e1.wr = false /\ e1.S b
theorem Rd.fr {S0 : Nat -> Prop} {w0 w w' : World} {L E : List En} : ∀ {es : List En}, Rd w w' L es -> Fr S0 w0 w E -> (∀ e ∈ L, e ∈ E) -> Fr S0 w0 w' (es ++ E)
 | [], h, hf, _ => hf.grow h.1
 | e :: es, h, hf, hL => by
  have h1 := Rd.fr (es := es) ⟨h.1, fun x hx => h.2 x (List.mem_cons_of_mem _ hx)⟩ hf hL;obtain ⟨h2, h3, h4⟩ := h.2 e (List.mem_cons_self ..);refine h1.cons h2 (fun e' he' => ⟨(fun hw => by rw [h3] at hw; cases hw), fun hw b hb hb' => ?_⟩) (fun hw => by rw [h3] at hw; cases hw);rcases List.mem_append.1 he' with he' | he'
  · rw [(h.2 e' (List.mem_cons_of_mem _ he')).2.1] at hw; cases hw
  · rcases h4 b hb' with h5 | ⟨e1, h5, h6, h7⟩
    · have := En.lt (hf.all e' he') b hb; omega
    · exact hf.apart he' (hL e1 h5) hw h6 hb h7
section
variable {P : Program} {ops : Array Oper} {Q : Exit -> Act -> World -> Prop} {S0 : Nat -> Prop} {w0 : World} {E0 : List En} {hd : List (List Nat)} {n j s sg g : Nat} {l : List Nat} {G E : List En} {ls : List (Nat × Value)} {op : Op} {ty : TypeId} {pos : String} {af : Array Edge} {f : FuncId} {args : Array Value} {want : Bool}
theorem uU (k : RWs ⟨P, ops, Q, S0, w0, E0, hd⟩ n l G E ((s, undef) :: ls))
 (ho : ops[j]? = some ⟨some s, op, ty, pos, af, some (g, want)⟩ := by rfl) (hk : (isDet op && Nat.blt s n) = true := by kernel_rfl)
 (hg : (ops[g]?).bind (·.dst) = some sg := by rfl) (hi : inLs ls (.tmp sg) = true := by kernel_rfl) (hb : evl ls (.tmp sg) = undef := by (simp only [evlN, Nat.reduceEqDiff, ↓reduceIte]) <;> rfl) : RWs ⟨P, ops, Q, S0, w0, E0, hd⟩ n (j :: l) G E ls := fun a ha => by
 simp only [Bool.and_eq_true] at hk;refine ⟨_, ho, .inl ⟨hk.1, undef, fun w hw => .inr ⟨?_, rfl⟩, k _ (ha.put (Nat.le_of_ble_eq_true hk.2) undef)⟩⟩;unfold Region.wanted yielded;have hu : evl ls (.tmp sg) = Value.tuple #[] := hb;simp [hg, ha.tmp hi, hu]
theorem cR {α : Type} {mk : α -> Value} {ens : α -> List En} (c : ∀ w, Fr S0 w0 w (G ++ E) -> Calls P f args w fun e w' => ∃ p, e = .returned (mk p) /\ Rd w w' (G ++ E) (ens p))
 (k : ∀ p, RWs ⟨P, ops, Q, S0, w0, E0, hd⟩ n l (ens p ++ G) E ((s, mk p) :: ls))
 (ho : ops[j]? = some ⟨some s, op, ty, pos, af, none⟩ := by rfl) (hk : (!isDet op && !isNew op && chkO ls op && Nat.blt s n) = true := by kernel_rfl)
 (hr : ∀ w, (execOp (evl ls) ⟨some s, op, ty, pos, af, none⟩).run P w = .ok (.enter f args) w := by intro w; (try simp only [av]); go_simp <;> with_reducible rfl) (hne : Nonempty α := by infer_instance)
 (hst : okSt ops hd j [] = true := by kernel_rfl) : RWs ⟨P, ops, Q, S0, w0, E0, hd⟩ n (j :: l) G E ls := fun a ha => by
 simp only [Bool.and_eq_true, Bool.not_eq_true'] at hk;refine ⟨_, ho, .inr (.inr ⟨hk.1.1.1, hk.1.1.2, α, mk, fun p => ens p ++ G, fun _ => E, [], hne, fun X w hX hw => ?_, hst, fun _ _ _ => rfl, fun p => k p _ (ha.put (Nat.le_of_ble_eq_true hk.2) _)⟩)⟩;refine ifw rfl ?_;show wpR P _ ((execOp a.eval _).run P w);rw [ha.exec hk.1.2, hr w];refine (c w (hw.sub (List.sublist_append_right ..))).mono ?_;rintro e w' ⟨p, rfl, hn⟩;refine ⟨_, rfl, p, rfl, (hn.fr hw (fun e he => List.mem_append_right _ he)).perm ?_⟩;rw [List.append_assoc];exact (List.perm_append_comm_assoc (ens p) X (G ++ E))
theorem cU {α : Type} {mk : α -> Value} {b i : Nat} {t : TypeId} {cs : List Value} {cs' : α -> List Value} {E' : α -> List En} (c : ∀ w, Fr S0 w0 w (G ++ E) -> Calls P f args w fun e w' => ∃ p, e = .returned (mk p) /\ Chg (· = b) w w' /\ RowAt w' b t (cs' p))
 (k : ∀ p, RWs ⟨P, ops, Q, S0, w0, E0, hd⟩ n l G (E' p) ((s, mk p) :: ls))
 (hne : Nonempty α) (hwl : ∀ e ∈ G ++ E, e.wl = false := by simp [En.wl, En.wat])
 (ho : ops[j]? = some ⟨some s, op, ty, pos, af, none⟩ := by rfl) (hk : (!isDet op && !isNew op && chkO ls op && Nat.blt s n) = true := by kernel_rfl)
 (hr : ∀ w, (execOp (evl ls) ⟨some s, op, ty, pos, af, none⟩).run P w = .ok (.enter f args) w := by intro w; (try simp only [av]); go_simp <;> with_reducible rfl)
 (hE : ∀ p, Up (.row b t cs) (.row b t (cs' p)) i E (E' p) := by intro p; repeat first | exact .z | apply Up.s)
 (hst : okSt ops hd j [i] = true := by kernel_rfl) : RWs ⟨P, ops, Q, S0, w0, E0, hd⟩ n (j :: l) G E ls := fun a ha => by
 simp only [Bool.and_eq_true, Bool.not_eq_true'] at hk;refine ⟨_, ho, .inr (.inr ⟨hk.1.1.1, hk.1.1.2, α, mk, fun _ => G, E', [i], hne, fun X w hX hw => ?_, hst, fun p r hr => (hE p).other (by simpa using hr), fun p => k p _ (ha.put (Nat.le_of_ble_eq_true hk.2) _)⟩)⟩;refine ifw rfl ?_;show wpR P _ ((execOp a.eval _).run P w);rw [ha.exec hk.1.2, hr w];refine (c w (hw.sub (List.sublist_append_right ..))).mono ?_;rintro e w' ⟨p, rfl, hc, hrow⟩;obtain ⟨m, h1, h2⟩ := (hE p).right' X G;have h0 := hw.perm h1;refine ⟨_, rfl, p, rfl, Fr.perm (h0.upd rfl (e' := .row b t (cs' p)) hc (fun x hx hl => ?_) (fun _ h => h) hrow (fun _ h => .inl h)) h2.symm⟩;have hx := h1.mem_iff.2 (List.mem_cons_of_mem _ hx);rw [(List.mem_append.1 hx).elim (hX x) (hwl x)] at hl; cases hl
end
def gi (xs : List Int) (i : Nat) : Int := xs.getD i 0
def gp (ps : List P4) (i : Nat) : P4 := ps.getD i p0
theorem gi_eq {xs : List Int} {i : Nat} (h : i < xs.length) : gi xs i = xs[i] := by simp [gi, h]
theorem gp_eq {ps : List P4} {i : Nat} (h : i < ps.length) : gp ps i = ps[i] := by simp [gp, h]
theorem gi_mem {xs : List Int} {i : Nat} (h : i < xs.length) : gi xs i ∈ xs := by rw [gi_eq h]; exact List.getElem_mem h
theorem gi_set {xs : List Int} {i j : Nat} (h : i < xs.length) (x : Int) : gi (xs.set i x) j = if j = i then x else gi xs j := by
 unfold gi;rw [List.getD_eq_getElem?_getD, List.getElem?_set, List.getD_eq_getElem?_getD];by_cases e : i = j
 · subst e; simp [h]
 · have e2 : ¬ j = i := fun q => e q.symm;simp [e, e2]
def rn (ps : List P4) (tl : List Value) : List Value := flat ps ++ tl
theorem rn0 {ps : List P4} {i : Nat} (tl : List Value) (h : i < ps.length) : (rn ps tl)[i * 2]? = some (.bool (gp ps i).1) := by
 have := flat_length ps;rw [gp_eq h, rn, List.getElem?_append_left (by omega)]; exact flat_get0 ps i h
theorem rn1 {ps : List P4} {i : Nat} (tl : List Value) (h : i < ps.length) : (rn ps tl)[i * 2 + 1]? = some (.slice (gp ps i).2.1 (gp ps i).2.2.1 (gp ps i).2.2.2) := by
 have := flat_length ps;rw [gp_eq h, rn, List.getElem?_append_left (by omega)]; exact flat_get1 ps i h
theorem rn_set {ps : List P4} {i : Nat} (tl : List Value) (h : i < ps.length) (p : P4) : setL (rn ps tl) (i * 2) [.bool p.1, .slice p.2.1 p.2.2.1 p.2.2.2] = rn (ps.set i p) tl := by
 have hl := flat_length ps;simp only [setL, rn];rw [List.set_append_left _ _ (by omega), List.set_append_left _ _ (by rw [List.length_set]; omega), flat_set]
theorem NoW.rn {ps : List P4} {tl : List Value} (h : NoW tl) : NoW (rn ps tl) := flat_app h
def NsAt (w : World) (ps : List P4) (xs : List Int) : Prop := ps.length = xs.length /\ ∀ i, i < ps.length -> NumAt w (av (gp ps i)) (gi xs i)
theorem NsAt.set {w : World} {ps : List P4} {xs : List Int} (h : NsAt w ps xs) (i : Nat) {p : P4} {x : Int} (hp : NumAt w (av p) x) : NsAt w (ps.set i p) (xs.set i x) := by
 refine ⟨by simp [h.1], fun j hj => ?_⟩;rw [List.length_set] at hj;have h1 := h.1;by_cases e : i = j
 · subst e;rw [gp_eq (by simpa using hj), gi_eq (by simp; omega)];simpa using hp
 · have := h.2 j hj;rw [gp_eq hj, gi_eq (by omega)] at this;rw [gp_eq (by simpa using hj), gi_eq (by simp; omega)];simpa [e] using this
theorem NsAt.snoc {w : World} {ps : List P4} {xs : List Int} (h : NsAt w ps xs) {p : P4} {x : Int} (hp : NumAt w (av p) x) : NsAt w (ps ++ [p]) (xs ++ [x]) := by
 refine ⟨by simp [h.1], fun j hj => ?_⟩;have h1 := h.1;rw [gp_eq hj, gi_eq (by simp at hj ⊢; omega)];by_cases e : j < ps.length
 · have := h.2 j e;rw [gp_eq e, gi_eq (by omega)] at this;rw [List.getElem_append_left e, List.getElem_append_left (by omega)]; exact this
 · have e1 : j = ps.length := by simp at hj; omega
   subst e1;simpa [h1] using hp
theorem NsAt.nil (w : World) : NsAt w [] [] := ⟨rfl, fun i h => absurd h (by simp)⟩
theorem NsAt.zeros (w : World) (n : Nat) : NsAt w (List.replicate n p0) (List.replicate n 0) := ⟨by simp, fun i h => by
 have h : i < n := by simpa using h
 rw [gp_eq (by simpa using h), gi_eq (by simpa using h)]; simp; exact NumAt.zero w⟩
theorem RowN.mk' {w : World} {b : Nat} {ps : List P4} {tl : List Value} {xs : List Int} (h : RowAt w b 44 (rn ps tl)) (ht : NoW tl) (hn : NsAt w ps xs) : RowN w b xs :=
 ⟨ps, tl, ht, h, hn.1, fun i h1 h2 => by have := hn.2 i h1; rw [gp_eq h1, gi_eq h2] at this; exact this⟩
abbrev En.ns (ps : List P4) (xs : List Int) : En := .fact true false (fun _ => False) (fun w => NsAt w ps xs) (fun _ _ h => h.elim) (fun h hc hT _ => ⟨h.1, fun i a => hc.num (hT rfl).wordless (h.2 i a)⟩)
abbrev En.ls (L : Nat) (ao : Option Addr) (xs : List Int) : En := .fact true false (fun g => 0 < xs.length /\ ∃ o, ao = some ⟨g, o, none⟩) (fun w => LsAt w L ao xs) (fun h b ⟨hl, o, e⟩ => by
 obtain ⟨b', o', e', hb, _⟩ := h hl;rw [e] at e'; cases e'; exact hb)
 (fun {w w' T} h hc hT hs hl => by
  obtain ⟨b, o, e, hb, hcl⟩ := h hl;refine ⟨b, o, e, Nat.lt_of_lt_of_le hb hc.size, fun i hi => ?_⟩;obtain ⟨p, h0, h1, hn⟩ := hcl i hi;exact ⟨p, (hc.cell (p := ⟨b, o + i * 2, none⟩) hb (hs b ⟨hl, o, e⟩)).trans h0, (hc.cell (p := ⟨b, o + i * 2 + 1, none⟩) hb (hs b ⟨hl, o, e⟩)).trans h1, hc.int (hT rfl).wordless hn⟩)
theorem Fr.l {S0 : Nat -> Prop} {w0 w : World} {es : List En} (h : Fr S0 w0 w es) {L : Nat} {ao : Option Addr} {xs : List Int} (hx : LsAt w L ao xs) (hS : ∀ e ∈ es, e.wr = false) : Fr S0 w0 w (.ls L ao xs :: es) :=
 h.cons hx (fun e he => ⟨(fun q => nomatch q), fun q => by rw [hS e he] at q; cases q⟩) (fun q => nomatch q)
section
variable {P : Program} {Q : Exit -> Act -> World -> Prop} {S0 : Nat -> Prop} {w0 : World} {n : Nat} {ls : List (Nat × Value)} {es : List En} {c : Code}
theorem Fr.cellOf {w : World} {e : En} {a : Addr} {v : Value} (h : Fr S0 w0 w es) (hm : e ∈ es) (hwr : e.wr = false) (hS : e.S a.block) (hc : w.cell? a = some v) : Fr S0 w0 w (.cell a v :: es) :=
 h.cons (e := .cell a v) hc (fun e' he' => ⟨(fun q => nomatch q), fun q g hg hg' => by
  obtain rfl : g = a.block := hg';exact h.apart he' hm q hwr hg hS⟩) (fun q => nomatch q)
theorem numW {L : Nat} {xs : List Int} {b o : Nat} (i : Nat) (hm : En.ls L (some ⟨b, o, none⟩) xs ∈ es) (hi : i < xs.length) (k : ∀ p : P4, CW P n S0 w0 c Q ls (.cell ⟨b, o + i * 2, none⟩ (.bool p.1) :: .cell ⟨b, o + i * 2 + 1, none⟩ (.slice p.2.1 p.2.2.1 p.2.2.2) :: .at L (av p) (gi xs i) :: es)) : CW P n S0 w0 c Q ls es := fun a w ha hw => by
 have hA : LsAt w L (some ⟨b, o, none⟩) xs := hw.all _ hm;obtain ⟨b', o', e, hb, hc⟩ := hA (by omega);cases e;obtain ⟨p, h0, h1, hx⟩ := hc i hi;rw [<- gi_eq hi] at hx;have hS : (En.ls L (some ⟨b, o, none⟩) xs).S b := ⟨by omega, o, rfl⟩;exact k p a w ha (((hw.pure (e := .at L (av p) (gi xs i)) hx (fun _ h => h)).cellOf (List.mem_cons_of_mem _ hm) rfl hS h1).cellOf (List.mem_cons_of_mem _ (List.mem_cons_of_mem _ hm)) rfl hS h0)
theorem addW {e : En} (he : ∀ w, Fr S0 w0 w es -> e.F w) (k : CW P n S0 w0 c Q ls (e :: es)) (hS : ∀ b, ¬ e.S b := by intro b h; exact h) : CW P n S0 w0 c Q ls es := fun a w ha hw => k a w ha (hw.pure (he w hw) hS)
end
section
variable {ops : Array Oper} {Q : Exit -> Act -> World -> Prop} {S0 : Nat -> Prop} {w0 : World} {E0 : List En} {hd : List (List Nat)} {n j s : Nat} {l : List Nat} {G E : List En} {ls : List (Nat × Value)} {op : Op} {ty : TypeId} {pos : String} {af : Array Edge}
theorem mN {sl sc : Operand} {a b : Int} {kl kc : IntKind} (x y : Nat) (hx : a = x) (hy : b = y) (hxy : x <= y) (hb : y <= 8796093022208) (k : ∀ g, RWs ⟨Tryz.prog, ops, Q, S0, w0, E0, hd⟩ n l (.row g 44 (rn (List.replicate y p0) []) :: G) E ((s, .slice (some ⟨g, 0, none⟩) x y) :: ls))
 (ho : ops[j]? = some ⟨some s, .makeSlice 22 sl sc, ty, pos, af, none⟩ := by rfl) (hk : (chkO ls (.makeSlice 22 sl sc) && Nat.blt s n) = true := by kernel_rfl)
 (h1 : evl ls sl = .int kl a := by (simp only [evlN, Nat.reduceEqDiff, ↓reduceIte]) <;> rfl) (h2 : evl ls sc = .int kc b := by (simp only [evlN, Nat.reduceEqDiff, ↓reduceIte]) <;> rfl) : RWs ⟨Tryz.prog, ops, Q, S0, w0, E0, hd⟩ n (j :: l) G E ls := fun A hA => by
 simp only [Bool.and_eq_true] at hk;refine ⟨_, ho, .inr (.inl ⟨rfl, rfl, fun g => .slice (some ⟨g, 0, none⟩) x y, 44, rn (List.replicate y p0) [], ⟨rfl, fun w => ?_⟩, fun g => k g _ (hA.put (Nat.le_of_ble_eq_true hk.2) _)⟩)⟩;rw [hA.exec (o := ⟨some s, .makeSlice 22 sl sc, ty, pos, af, none⟩) hk.1];obtain ⟨i, hi, hz, hs, hbt⟩ := info_parts info_Int;subst hx hy;have hr := run_make (P := Tryz.prog) w 22 44 i (.agg #[.bool false, .slice none 0 0]) Tryz.underlying22 hi hz kl kc x y (by omega) (by omega) (by rw [hbt]; omega) (by omega);simp only [Int.toNat_natCast] at hr;have e : madeCells (Value.agg #[.bool false, .slice none 0 0]).cells (y * i.size) = (rn (List.replicate y p0) []).toArray := by
  have := made_flat y;rw [hs, rn, List.append_nil, <- this]
 simp [execOp, h1, h2, hr, Result.andThen, e]
theorem sN {b i : Nat} {ps ps' : List P4} {tl : List Value} {ad x : Operand} {sty : TypeId} {E' : List En} (q : Nat) (p : P4) (hq : q < ps.length) (ht : NoW tl) (hs : ps.set q p = ps')
 (k' : RWs ⟨Tryz.prog, ops, Q, S0, w0, E0, hd⟩ n l G E' ls)
 (ho : ops[j]? = some ⟨none, .store sty ad x, ty, pos, af, none⟩ := by rfl) (hk : chkO ls (.store sty ad x) = true := by kernel_rfl)
 (ha : evl ls ad = .pointer (some ⟨b, q * 2, none⟩) := by (simp only [evlN, Nat.reduceEqDiff, ↓reduceIte]) <;> rfl)
 (hv : evl ls x = .agg #[.bool p.1, .slice p.2.1 p.2.2.1 p.2.2.2] := by (simp only [evlN, Nat.reduceEqDiff, ↓reduceIte, av]) <;> rfl)
 (hE : Up (.row b 44 (rn ps tl)) (.row b 44 (rn ps' tl)) i E E' := by repeat first | exact .z | apply Up.s)
 (hr : ∀ w u v, w.cell? ⟨b, q * 2, none⟩ = some u -> w.cell? ⟨b, q * 2 + 1, none⟩ = some v -> w.frozen? ⟨b, q * 2, none⟩ = false -> w.frozen? ⟨b, q * 2 + 1, none⟩ = false -> (execOp (evl ls) ⟨none, .store sty ad x, ty, pos, af, none⟩).run Tryz.prog w = .ok .skip (stA w b (q * 2) [.bool p.1, .slice p.2.1 p.2.2.1 p.2.2.2]) := by intro w u v c0 c1 f0 f1; (try simp only [av]); go_simp <;> rfl)
 (hst : okSt ops hd j [i] = true := by kernel_rfl) : RWs ⟨Tryz.prog, ops, Q, S0, w0, E0, hd⟩ n (j :: l) G E ls := fun a hA => by
 subst hs;refine ⟨_, ho, .inr (.inr ⟨rfl, rfl, Unit, fun _ => undef, fun _ => G, fun _ => E', [i], ⟨()⟩, fun X w hX hw => ?_, hst, fun _ r hr => hE.other (by simpa using hr), fun _ => k' _ (hA.put0 _)⟩)⟩;obtain ⟨m, h1, h2⟩ := hE.right' X G;have hrow : RowAt w b 44 (rn ps tl) := (hw.perm h1).all _ (List.mem_cons_self ..);refine ifw rfl ?_;show wpR _ _ ((execOp a.eval _).run _ w);rw [hA.exec (o := ⟨none, .store sty ad x, ty, pos, af, none⟩) hk, hr w _ _ ((hrow.cell _).trans (rn0 tl hq)) ((hrow.cell _).trans (rn1 tl hq)) (hrow.free _) (hrow.free _)];exact ⟨(), rfl, hw.st (t := 44) _ _ (.inl ⟨NoW.rn ht, by decide⟩) h1 (by rw [rn_set tl hq]; exact h2)⟩
end
theorem Fr.conv {S0 : Nat -> Prop} {w0 w : World} {es : List En} {e e' : En} (h : Fr S0 w0 w (e :: es)) (h1 : e.F w -> e'.F w) (h2 : ∀ b, e'.S b -> e.S b) (h3 : e'.wr = true -> e.wr = true) : Fr S0 w0 w (e' :: es) := by
 have hp := List.pairwise_cons.1 h.sep;exact h.tl.cons (h1 h.m0) (fun x hx => ⟨fun q b hb => (hp.1 x hx).1 (h3 q) b (h2 b hb), fun q b hb hb' => (hp.1 x hx).2 q b hb (h2 b hb')⟩) (fun q b hb => h.own e (List.mem_cons_self ..) (h3 q) b (h2 b hb))
def LstF (ao : Option Addr) (k cap : Nat) (ps : List P4) (w : World) : Prop := ps.length = k /\ k <= cap /\ ((ao = none /\ cap = 0) ∨ ∃ b tl, ao = some ⟨b, 0, none⟩ /\ NoW tl /\ RowAt w b 44 (rn ps tl) /\ (rn ps tl).length = cap * 2)
abbrev En.lst (ao : Option Addr) (k cap : Nat) (ps : List P4) : En := .fact false true (fun g => ∃ o, ao = some ⟨g, o, none⟩) (LstF ao k cap ps)
 (fun ⟨_, _, h⟩ b ⟨o, e⟩ => by
  rcases h with ⟨h, _⟩ | ⟨b', tl, h, _, hr, _⟩
  · rw [e] at h; cases h
  · rw [e] at h; cases h; exact hr.lt)
 (fun ⟨h1, h2, h⟩ hc _ hs => ⟨h1, h2, h.imp id fun ⟨b, tl, e, hn, hr, hl⟩ => ⟨b, tl, e, hn, hc.row hr (hs b ⟨0, e⟩), hl⟩⟩)
theorem Fr.lst0 {S0 : Nat -> Prop} {w0 w : World} {es : List En} (h : Fr S0 w0 w es) : Fr S0 w0 w (.lst none 0 0 [] :: es) := h.pure (e := .lst none 0 0 []) ⟨rfl, Nat.le_refl _, .inl ⟨rfl, rfl⟩⟩ (fun b ⟨o, e⟩ => nomatch e)
theorem Fr.shut {S0 : Nat -> Prop} {w0 w : World} {es : List En} {b : Nat} {ps : List P4} {tl : List Value} {k cap : Nat} (h : Fr S0 w0 w (.row b 44 (rn ps tl) :: es)) (h1 : ps.length = k) (h2 : k <= cap) (ht : NoW tl) (hl : (rn ps tl).length = cap * 2) : Fr S0 w0 w (.lst (some ⟨b, 0, none⟩) k cap ps :: es) :=
 h.conv (fun hr => ⟨h1, h2, .inr ⟨b, tl, rfl, ht, hr, hl⟩⟩) (fun g ⟨o, e⟩ => by cases e; rfl) (fun _ => rfl)
section
variable {P : Program} {Q : Exit -> Act -> World -> Prop} {S0 : Nat -> Prop} {w0 : World} {n : Nat} {ls : List (Nat × Value)} {es : List En} {c : Code}
theorem openW {ao : Option Addr} {k cap : Nat} {ps : List P4} (hk : 0 < k) (h : ∀ b tl, ao = some ⟨b, 0, none⟩ -> NoW tl -> (rn ps tl).length = cap * 2 -> CW P n S0 w0 c Q ls (.row b 44 (rn ps tl) :: es)) : CW P n S0 w0 c Q ls (.lst ao k cap ps :: es) := fun a w ha hw => by
 obtain ⟨h1, h2, ⟨_, h3⟩ | ⟨b, tl, rfl, ht, hr, hl⟩⟩ : LstF ao k cap ps w := hw.m0
 · omega
 · exact h b tl rfl ht hl a w ha (hw.conv (fun _ => hr) (fun g e => by obtain rfl : g = b := e; exact ⟨0, rfl⟩) (fun _ => rfl))
end
theorem rn_snoc {ps : List P4} {tl : List Value} {cap : Nat} (hl : (rn ps tl).length = cap * 2) (h : ps.length < cap) (p : P4) : setL (rn ps tl) (ps.length * 2) [.bool p.1, .slice p.2.1 p.2.2.1 p.2.2.2] = rn (ps ++ [p]) (tl.drop 2) := by
 have hf := flat_length ps;obtain ⟨a, b, t, rfl⟩ : ∃ a b t, tl = a :: b :: t := by
  rw [rn, List.length_append] at hl;match tl, hl with
  | [], h => simp at h; omega
  | [_], h => simp at h; omega
  | a :: b :: t, _ => exact ⟨a, b, t, rfl⟩
 simp only [setL, rn];rw [List.set_append_right _ _ (by omega), List.set_append_right _ _ (by omega), flat_append, show ps.length * 2 - (flat ps).length = 0 by omega, show ps.length * 2 + 1 - (flat ps).length = 1 by omega];simp [flat]
theorem Chg.alloc' (T : Nat -> Prop) (w : World) (o : Obj) : Chg T w (w.drew.alloc o) := Chg.of_below ⟨rfl, rfl, rfl, by simp, fun q hq => heap_alloc_old w.drew _ hq⟩
theorem app_run {w : World} {ty : TypeId} {ao : Option Addr} {k cap : Nat} {ps : List P4} (h : LstF ao k cap ps w) (hb : k <= 100000000) {ad : Addr} {c : Nat} {p : P4} (h0 : w.cell? ad = some (.bool p.1)) (h1 : w.cell? (ad.add 1) = some (.slice p.2.1 p.2.2.1 p.2.2.2)) :
 ∃ ao' cap' w', (Builtin.append_ #[22, 22] ty #[.slice ao k cap, .slice (some ad) 1 c]).run Tryz.prog w = .ok (.slice ao' (k + 1) cap') w' /\ LstF ao' (k + 1) cap' (ps ++ [p]) w' /\ Chg (fun g => ∃ o, ao = some ⟨g, o, none⟩) w w' /\ ∀ g, (∃ o, ao' = some ⟨g, o, none⟩) -> (∃ o, ao = some ⟨g, o, none⟩) ∨ w.heap.size <= g := by
 obtain ⟨i, hi, hz, hsz, hby⟩ := info_parts info_Int;have hn : ∀ j u, [Value.bool p.1, .slice p.2.1 p.2.2.1 p.2.2.2][j]? = some u -> w.cell? (ad.add j) = some u := fun j u hj => by
  match j, hj with
  | 0, hj => cases hj; simpa [Addr.add] using h0
  | 1, hj => cases hj; exact h1
 have hsrc : Src Tryz.prog i.size 22 (.slice (some ad) 1 c) 1 [Value.bool p.1, .slice p.2.1 p.2.2.1 p.2.2.2] w := Src.ofSlice w Tryz.underlying22 ad 1 c _ (by rw [hsz]; rfl) hn (by simp [Value.oneCell']);obtain ⟨hk, hkc, hrow⟩ := h;by_cases hroom : k < cap
 · obtain ⟨_, h⟩ | ⟨b, tl, rfl, ht, hr, hl⟩ := hrow
   · omega
   subst hk;have hex : ∀ j, j < cap * 2 -> (w.cell? ⟨b, j, none⟩).isSome = true := fun j hj => by rw [hr.cell, List.getElem?_eq_getElem (by omega)]; rfl
   refine ⟨_, _, _, run_append_room_src w 22 22 ty 44 i Tryz.underlying22 hi b 0 ps.length cap _ 1 _ hsrc (by omega) (fun j hj => hex _ ?_) (fun j _ => hr.free _), ?_, ?_, fun g hg => .inl hg⟩
   · rw [hsz]; simp at hj; omega
   · rw [hsz, Nat.zero_add];have h2 := hr.stA [.bool p.1, .slice p.2.1 p.2.2.1 p.2.2.2] (ps.length * 2);rw [rn_snoc hl hroom] at h2;refine ⟨by simp, by omega, .inr ⟨b, tl.drop 2, rfl, fun v hv => ht v (List.mem_of_mem_drop hv), h2, ?_⟩⟩;have hf := flat_length ps;rw [rn, List.length_append] at hl;rw [rn, List.length_append, flat_length]; simp; omega
   · rw [hsz, Nat.zero_add];exact (Chg.stA [.bool p.1, .slice p.2.1 p.2.2.1 p.2.2.2] (ps.length * 2) (Chg.refl (· = b) w)).mono (fun g _ e => by obtain rfl : g = b := e; exact ⟨0, rfl⟩)
 · obtain rfl : k = cap := by omega
   have hf := flat_length ps;have hold : (Builtin.firstCells i.size k (.slice ao k k)).run Tryz.prog w.drew = .ok (flat ps).toArray w.drew := by
    obtain ⟨rfl, h⟩ | ⟨b, tl, rfl, ht, hr, hl⟩ := hrow
    · obtain rfl : ps = [] := List.eq_nil_of_length_eq_zero (by omega);exact run_firstCells_none w.drew i.size k k k
    · refine run_firstCells_some w.drew i.size k _ k k (flat ps) (by rw [hsz]; omega) fun j v hj => ?_;have e : w.drew.cell? ((⟨b, 0, none⟩ : Addr).add j) = w.cell? ⟨b, j, none⟩ := by simp only [Addr.add]; by_cases hj0 : j = 0 <;> simp [hj0]
      rw [e, hr.cell, rn, List.getElem?_append_left (List.getElem?_eq_some_iff.1 hj).1]; exact hj
   refine ⟨_, _, _, run_append_grow_src w 22 22 ty 44 i (.agg #[.bool false, .slice none 0 0]) Tryz.underlying22 hi hz ao k k (flat ps) hold _ 1 _ hsrc (by omega) (by omega) (growslice_fits (by omega) (by rw [hby]; omega)), ⟨by simp [hk], grownCap_ge .., .inr ⟨_, (Builtin.zeroCells (Value.agg #[.bool false, .slice none 0 0]).cells (grownCap w (k + 1) k 44 - (k + 1))).toList, rfl, zero_nums _, ?_, ?_⟩⟩, Chg.alloc' _ w _, fun g ⟨o, e⟩ => by cases e; exact .inr (Nat.le_refl _)⟩
   · have hnew := RowAt.new w.drew ((flat ps ++ [Value.bool p.1, .slice p.2.1 p.2.2.1 p.2.2.2]).toArray ++ Builtin.zeroCells (Value.agg #[.bool false, .slice none 0 0]).cells (grownCap w (k + 1) k 44 - (k + 1))) 44;rw [rn, flat_append];simpa [flat] using hnew
   · have hge := grownCap_ge w (k + 1) k 44;have hz2 : (Builtin.zeroCells (Value.agg #[.bool false, .slice none 0 0]).cells (grownCap w (k + 1) k 44 - (k + 1))).toList.length = (grownCap w (k + 1) k 44 - (k + 1)) * 2 := by rw [Array.length_toList, size_zeroCells]; rfl
     rw [rn, List.length_append, flat_length, List.length_append, hz2]; simp; omega
section
variable {ops : Array Oper} {Q : Exit -> Act -> World -> Prop} {S0 : Nat -> Prop} {w0 : World} {E0 : List En} {hd : List (List Nat)} {n j s : Nat} {l : List Nat} {G E : List En} {ls : List (Nat × Value)} {op : Op} {ty : TypeId} {pos : String} {af : Array Edge}
theorem appN {i k cap g : Nat} {ao : Option Addr} {ps : List P4} {t : TypeId} {c : Nat} (p : P4) {sa xa : Operand} {E' : Option Addr × Nat -> List En} (hb : k <= 100000000)
 (hm : En.row g t [.bool p.1, .slice p.2.1 p.2.2.1 p.2.2.2] ∈ G ++ E)
 (k' : ∀ q, RWs ⟨Tryz.prog, ops, Q, S0, w0, E0, hd⟩ n l G (E' q) ((s, .slice q.1 (k + 1) q.2) :: ls))
 (ho : ops[j]? = some ⟨some s, .call { callee := Callee.builtin Builtin.append, args := #[sa, xa], argTypes := #[22, 22] }, ty, pos, af, none⟩ := by rfl) (hk : (chkO ls (.call { callee := Callee.builtin Builtin.append, args := #[sa, xa], argTypes := #[22, 22] }) && Nat.blt s n) = true := by kernel_rfl)
 (ha : evl ls sa = .slice ao k cap := by (simp only [evlN, Nat.reduceEqDiff, ↓reduceIte]) <;> rfl)
 (hv : evl ls xa = .slice (some ⟨g, 0, none⟩) 1 c := by (simp only [evlN, Nat.reduceEqDiff, ↓reduceIte, av]) <;> rfl)
 (hE : ∀ q, Up (.lst ao k cap ps) (.lst q.1 (k + 1) q.2 (ps ++ [p])) i E (E' q) := by intro q; repeat first | exact .z | apply Up.s)
 (hst : okSt ops hd j [i] = true := by kernel_rfl) : RWs ⟨Tryz.prog, ops, Q, S0, w0, E0, hd⟩ n (j :: l) G E ls := fun a hA => by
 simp only [Bool.and_eq_true] at hk;refine ⟨_, ho, .inr (.inr ⟨rfl, rfl, Option Addr × Nat, fun q => .slice q.1 (k + 1) q.2, fun _ => G, E', [i], ⟨(none, 0)⟩, fun X w hX hw => ?_, hst, fun q r hr => (hE q).other (by simpa using hr), fun q => k' q _ (hA.put (Nat.le_of_ble_eq_true hk.2) _)⟩)⟩;have hrow : RowAt w g t [.bool p.1, .slice p.2.1 p.2.2.1 p.2.2.2] := hw.all _ (List.mem_append_right _ hm);have hl : LstF ao k cap ps w := by
  obtain ⟨m, h1, h2⟩ := (hE (none, 0)).right' X G;exact (hw.perm h1).all _ (List.mem_cons_self ..)
 obtain ⟨ao', cap', w', hrun, h1', hc, hS⟩ := app_run (ty := ty) hl hb (ad := ⟨g, 0, none⟩) (c := c) (hrow.cell 0) (hrow.cell 1);obtain ⟨m, h1, h2⟩ := (hE (ao', cap')).right' X G;refine ifw rfl ?_;show wpR _ _ ((execOp a.eval _).run _ w);rw [hA.exec (o := ⟨some s, .call { callee := Callee.builtin Builtin.append, args := #[sa, xa], argTypes := #[22, 22] }, ty, pos, af, none⟩) hk.1];have e : (execOp (evl ls) ⟨some s, .call { callee := Callee.builtin Builtin.append, args := #[sa, xa], argTypes := #[22, 22] }, ty, pos, af, none⟩).run Tryz.prog w = .ok (.value (.slice ao' (k + 1) cap')) w' := by
  simp [execOp, resolve, invoke, builtin, ha, hv, hrun, Result.andThen]
 rw [e];refine ⟨(ao', cap'), rfl, Fr.perm ((hw.perm h1).upd (e := .lst ao k cap ps) (e' := .lst ao' (k + 1) cap' (ps ++ [p])) rfl hc (fun x hx _ => ?_) (fun _ h => h) h1' hS) h2.symm⟩;rintro b ⟨o, rfl⟩;obtain ⟨_, _, ⟨h, _⟩ | ⟨b', tl, h, ht, hr, _⟩⟩ := hl
 · cases h
 · cases h; exact ⟨_, _, hr, NoW.rn ht, by decide⟩
end
theorem OwnW.blk {w : World} {B : Nat} {ao : Option Addr} {len cap : Nat} {ws : List Nat} (h : OwnW w B ao len cap ws) {g o : Nat} (e : ao = some ⟨g, o, none⟩) : B <= g := by
 obtain ⟨_, _, _, ⟨h4, _⟩ | ⟨g', c, cur, hv, hb, _⟩⟩ := h
 · cases h4; cases e
 · cases hv; cases e; exact hb
section
variable {P : Program} {ops : Array Oper} {Q : Exit -> Act -> World -> Prop} {S0 : Nat -> Prop} {w0 : World} {E0 : List En} {hd : List (List Nat)} {n j s : Nat} {l : List Nat} {G E : List En} {ls : List (Nat × Value)} {op : Op} {ty : TypeId} {pos : String} {af : Array Edge} {f : FuncId} {args : Array Value}
theorem cW1 {m : Nat} (c : ∀ w, Fr S0 w0 w (G ++ E) -> Calls P f args w fun e w' => (∃ ao cap, e = .returned (.slice ao (wlen m) cap) /\ OwnW w' w.heap.size ao (wlen m) cap (dig m)) /\ Below w.heap.size w w')
 (k : ∀ ao cap, RWs ⟨P, ops, Q, S0, w0, E0, hd⟩ n l (.ow w0.heap.size ao m cap :: .wat ao (dig m) :: G) E ((s, .slice ao (wlen m) cap) :: ls))
 (ho : ops[j]? = some ⟨some s, op, ty, pos, af, none⟩ := by rfl) (hk : (!isDet op && !isNew op && chkO ls op && Nat.blt s n) = true := by kernel_rfl)
 (hr : ∀ w, (execOp (evl ls) ⟨some s, op, ty, pos, af, none⟩).run P w = .ok (.enter f args) w := by intro w; (try simp only [av]); go_simp <;> with_reducible rfl)
 (hst : okSt ops hd j [] = true := by kernel_rfl) : RWs ⟨P, ops, Q, S0, w0, E0, hd⟩ n (j :: l) G E ls := by
 refine cG (α := Option Addr × Nat) (mk := fun p => .slice p.1 (wlen m) p.2) (ens := fun p => [.ow w0.heap.size p.1 m p.2, .wat p.1 (dig m)]) (fun w hw => (c w hw).mono ?_) (fun p => k p.1 p.2) ho hk hr ⟨(none, 0)⟩ hst;rintro e w' ⟨⟨ao, cap, rfl, hv⟩, hb⟩;exact ⟨(ao, cap), rfl, hb, fun e he => by
  rcases List.mem_cons.1 he with rfl | he
  · exact ⟨hv.mono hw.size, fun _ h => h.elim⟩
  · rcases List.mem_singleton.1 he with rfl;exact ⟨hv.at_, fun b ⟨_, o, e⟩ => hv.blk e⟩, List.pairwise_pair.2 ⟨(fun h => nomatch h), (fun h => nomatch h)⟩⟩
end
section
variable {P : Program} {Q : Exit -> Act -> World -> Prop} {S0 : Nat -> Prop} {w0 : World} {n : Nat} {ls : List (Nat × Value)} {es : List En} {c : Code}
theorem posW {ao : Option Addr} {ws : List Nat} (hm : En.wat ao ws ∈ es) (hl : 0 < ws.length) (k : ∀ b o, ao = some ⟨b, o, none⟩ -> CW P n S0 w0 c Q ls es) : CW P n S0 w0 c Q ls es := fun a w ha hw => by
 have hA : WAt w ao ws := hw.all _ hm;obtain ⟨b, o, e, _⟩ := hA.2 hl;exact k b o e a w ha hw
theorem word00W {ws : List Nat} {b o : Nat} (hm : En.wat (some ⟨b, o, none⟩) ws ∈ es) (hi : 0 < ws.length) (k : CW P n S0 w0 c Q ls (.cell ⟨b, o, none⟩ (.int .u64 ((gw ws 0 : Nat) : Int)) :: es)) : CW P n S0 w0 c Q ls es :=
 wordW 0 hm hi k
end
section
variable {P : Program} {ops : Array Oper} {Q : Exit -> Act -> World -> Prop} {S0 : Nat -> Prop} {w0 : World} {E0 : List En} {hd : List (List Nat)} {n j s : Nat} {l : List Nat} {G E : List En} {ls : List (Nat × Value)} {op : Op} {ty : TypeId} {pos : String} {af : Array Edge} {f : FuncId} {args : Array Value}
theorem bW {t : TypeId} {cs : List Value} {m : Nat} (k : ∀ g, RWs ⟨P, ops, Q, S0, w0, E0, hd⟩ n l (.row g t cs :: G) E ((s, .slice (some ⟨g, 0, none⟩) m m) :: ls))
 (ho : ops[j]? = some ⟨some s, op, ty, pos, af, none⟩ := by rfl) (hk : (!isDet op && isNew op && chkO ls op && Nat.blt s n) = true := by kernel_rfl)
 (hr : ∀ w, (execOp (evl ls) ⟨some s, op, ty, pos, af, none⟩).run P w = .ok (.value (.slice (some ⟨w.heap.size, 0, none⟩) m m)) (w.alloc (.cells cs.toArray t (0, 0))) := by intro w; (try simp only [av]); go_simp <;> with_reducible rfl) : RWs ⟨P, ops, Q, S0, w0, E0, hd⟩ n (j :: l) G E ls := fun a ha => by
 simp only [Bool.and_eq_true, Bool.not_eq_true'] at hk;refine ⟨_, ho, .inr (.inl ⟨hk.1.1.1, hk.1.1.2, fun g => .slice (some ⟨g, 0, none⟩) m m, t, cs, ⟨rfl, fun w => ?_⟩, fun g => k g _ (ha.put (Nat.le_of_ble_eq_true hk.2) _)⟩)⟩;rw [ha.exec hk.1.2];exact hr w
theorem cW2 {m q : Nat} {z : Value} (c : ∀ w, Fr S0 w0 w (G ++ E) -> Calls P f args w fun e w' => (∃ ao ca bo cb, e = .returned (.tuple #[.slice ao (wlen m) ca, .slice bo (wlen q) cb, z]) /\ OwnW w' w.heap.size ao (wlen m) ca (dig m) /\ OwnW w' w.heap.size bo (wlen q) cb (dig q)) /\ Below w.heap.size w w')
 (k : ∀ ao ca bo cb, RWs ⟨P, ops, Q, S0, w0, E0, hd⟩ n l (.ow w0.heap.size ao m ca :: .wat ao (dig m) :: .ow w0.heap.size bo q cb :: .wat bo (dig q) :: G) E ((s, .tuple #[.slice ao (wlen m) ca, .slice bo (wlen q) cb, z]) :: ls))
 (ho : ops[j]? = some ⟨some s, op, ty, pos, af, none⟩ := by rfl) (hk : (!isDet op && !isNew op && chkO ls op && Nat.blt s n) = true := by kernel_rfl)
 (hr : ∀ w, (execOp (evl ls) ⟨some s, op, ty, pos, af, none⟩).run P w = .ok (.enter f args) w := by intro w; (try simp only [av]); go_simp <;> with_reducible rfl)
 (hst : okSt ops hd j [] = true := by kernel_rfl) : RWs ⟨P, ops, Q, S0, w0, E0, hd⟩ n (j :: l) G E ls := by
 refine cG (α := (Option Addr × Nat) × Option Addr × Nat) (mk := fun p => .tuple #[.slice p.1.1 (wlen m) p.1.2, .slice p.2.1 (wlen q) p.2.2, z]) (ens := fun p => [.ow w0.heap.size p.1.1 m p.1.2, .wat p.1.1 (dig m), .ow w0.heap.size p.2.1 q p.2.2, .wat p.2.1 (dig q)]) (fun w hw => (c w hw).mono ?_) (fun p => k p.1.1 p.1.2 p.2.1 p.2.2) ho hk hr ⟨((none, 0), (none, 0))⟩ hst;rintro e w' ⟨⟨ao, ca, bo, cb, rfl, hv, hv'⟩, hb⟩;refine ⟨((ao, ca), (bo, cb)), rfl, hb, fun e he => ?_, ?_⟩
 · simp only [List.mem_cons, List.not_mem_nil, or_false] at he;rcases he with rfl | rfl | rfl | rfl
   · exact ⟨hv.mono hw.size, fun _ h => h.elim⟩
   · exact ⟨hv.at_, fun b ⟨_, o, e⟩ => hv.blk e⟩
   · exact ⟨hv'.mono hw.size, fun _ h => h.elim⟩
   · exact ⟨hv'.at_, fun b ⟨_, o, e⟩ => hv'.blk e⟩
 · refine (List.pairwise_of_forall_mem_list (r := Ap) (l := [En.ow w0.heap.size ao m ca, .wat ao (dig m), .ow w0.heap.size bo q cb, .wat bo (dig q)]) fun a ha b hb => ?_);simp only [List.mem_cons, List.not_mem_nil, or_false] at ha hb;rcases ha with rfl | rfl | rfl | rfl <;> rcases hb with rfl | rfl | rfl | rfl <;> exact ⟨(fun h => nomatch h), (fun h => nomatch h)⟩
end
theorem wlen_nval_le {ws : List Nat} (h : Ok ws) : wlen (nval ws) <= ws.length := by rw [wlen_nval h]; exact tlen_le ws
theorem ow_own {B m cap : Nat} {ao : Option Addr} {w : World} (h : OwnW w B ao (wlen m) cap (dig m)) : OwnI w B (.agg #[.bool false, .slice ao (wlen m) cap]) (m : Int) := OwnI.mk false h
theorem LsAt.pos {w : World} {L : Nat} {ao : Option Addr} {xs : List Int} (h : LsAt w L ao xs) {i : Nat} (hi : i < xs.length) : ∃ b o, ao = some ⟨b, o, none⟩ := by
 obtain ⟨b, o, e, _⟩ := h (by omega);exact ⟨b, o, e⟩
theorem lst_lsN {w : World} {ao : Option Addr} {k cap : Nat} {ps : List P4} {xs : List Int} (h : LstF ao k cap ps w) (hn : NsAt w ps xs) : LsN w ao xs := fun hl => by
 obtain ⟨h1, _, ⟨_, h2⟩ | ⟨b, tl, rfl, ht, hr, _⟩⟩ := h
 · have := hn.1; omega
 · exact (RowN.mk' hr ht hn).lsN hl
theorem rvM {ls : List (Nat × Value)} {w : World} {t b : Nat} {x y z : Value} (h : RowAt w b 28 [x, y, z]) (h1 : inLs ls (.tmp t) = true := by kernel_rfl) (h2 : evl ls (.tmp t) = .pointer (some ⟨b, 0, none⟩) := by (simp only [evlN, Nat.reduceEqDiff, ↓reduceIte]) <;> rfl) : rvOk Tryz.prog ls w (.cell t 28) (.agg #[x, y, z]) :=
 ⟨h1, _, h2, run_loadVar_row w b 28 28 #[x, y, z] (0, 0) _ h Tryz.underlying28 rfl (by kernel_rfl)⟩
section
variable {P : Program} {ops : Array Oper} {Q : Exit -> Act -> World -> Prop} {S0 : Nat -> Prop} {w0 : World} {E0 : List En} {hd : List (List Nat)} {n j s sg g : Nat} {l : List Nat} {G E : List En} {ls : List (Nat × Value)} {op : Op} {ty : TypeId} {pos : String} {af : Array Edge} {f : FuncId} {args : Array Value} {v : Value} {want : Bool}
theorem cGg {α : Type} {mk : α -> Value} {ens : α -> List En} (c : ∀ w, Fr S0 w0 w (G ++ E) -> Calls P f args w fun e w' => ∃ p, e = .returned (mk p) /\ Nw w w' (ens p))
 (k : ∀ p, RWs ⟨P, ops, Q, S0, w0, E0, hd⟩ n l (ens p ++ G) E ((s, mk p) :: ls))
 (ho : ops[j]? = some ⟨some s, op, ty, pos, af, some (g, want)⟩ := by rfl) (hk : (!isDet op && !isNew op && chkO ls op && Nat.blt s n) = true := by kernel_rfl)
 (hg : (ops[g]?).bind (·.dst) = some sg := by rfl) (hi : inLs ls (.tmp sg) = true := by kernel_rfl) (hb : evl ls (.tmp sg) = .bool want := by (simp only [evlN, Nat.reduceEqDiff, ↓reduceIte]) <;> first | rfl | simp [*])
 (hr : ∀ w, (execOp (evl ls) ⟨some s, op, ty, pos, af, some (g, want)⟩).run P w = .ok (.enter f args) w := by intro w; (try simp only [av]); go_simp <;> with_reducible rfl) (hne : Nonempty α := by infer_instance)
 (hst : okSt ops hd j [] = true := by kernel_rfl) : RWs ⟨P, ops, Q, S0, w0, E0, hd⟩ n (j :: l) G E ls := fun a ha => by
 simp only [Bool.and_eq_true, Bool.not_eq_true'] at hk;refine ⟨_, ho, .inr (.inr ⟨hk.1.1.1, hk.1.1.2, α, mk, fun p => ens p ++ G, fun _ => E, [], hne, fun X w hX hw => ?_, hst, fun _ _ _ => rfl, fun p => k p _ (ha.put (Nat.le_of_ble_eq_true hk.2) _)⟩)⟩;rw [if_pos (by rw [wanted_of ha hg hi hb]; simp)];show wpR P _ ((execOp a.eval _).run P w);rw [ha.exec hk.1.2, hr w];refine (c w (hw.sub (List.sublist_append_right ..))).mono ?_;rintro e w' ⟨p, rfl, hn⟩;refine ⟨_, rfl, p, rfl, (hn.fr hw).perm ?_⟩;rw [List.append_assoc];exact (List.perm_append_comm_assoc (ens p) X (G ++ E))
theorem cVg (c : ∀ w, Fr S0 w0 w (G ++ E) -> Calls P f args w fun e w' => e = .returned v /\ Below w.heap.size w w')
 (k : RWs ⟨P, ops, Q, S0, w0, E0, hd⟩ n l G E ((s, v) :: ls))
 (ho : ops[j]? = some ⟨some s, op, ty, pos, af, some (g, want)⟩ := by rfl) (hk : (!isDet op && !isNew op && chkO ls op && Nat.blt s n) = true := by kernel_rfl)
 (hg : (ops[g]?).bind (·.dst) = some sg := by rfl) (hi : inLs ls (.tmp sg) = true := by kernel_rfl) (hb : evl ls (.tmp sg) = .bool want := by (simp only [evlN, Nat.reduceEqDiff, ↓reduceIte]) <;> first | rfl | simp [*])
 (hr : ∀ w, (execOp (evl ls) ⟨some s, op, ty, pos, af, some (g, want)⟩).run P w = .ok (.enter f args) w := by intro w; (try simp only [av]); go_simp <;> with_reducible rfl)
 (hst : okSt ops hd j [] = true := by kernel_rfl) : RWs ⟨P, ops, Q, S0, w0, E0, hd⟩ n (j :: l) G E ls := by
 refine cGg (α := Unit) (mk := fun _ => v) (ens := fun _ => []) (fun w hw => (c w hw).mono ?_) (fun _ => k) ho hk hg hi hb hr ⟨()⟩ hst;rintro e w' ⟨rfl, hb⟩;exact ⟨(), rfl, hb, fun e he => (List.not_mem_nil he).elim, .nil⟩
theorem uC (k : RWs ⟨P, ops, Q, S0, w0, E0, hd⟩ n l G E ((s, undef) :: ls))
 (ho : ops[j]? = some ⟨some s, op, ty, pos, af, some (g, want)⟩ := by rfl) (hk : (!isDet op && !isNew op && Nat.blt s n) = true := by kernel_rfl)
 (hg : (ops[g]?).bind (·.dst) = some sg := by rfl) (hi : inLs ls (.tmp sg) = true := by kernel_rfl) (hb : evl ls (.tmp sg) = .bool (!want) := by (simp only [evlN, Nat.reduceEqDiff, ↓reduceIte]) <;> first | rfl | simp [*])
 (hst : okSt ops hd j [] = true := by kernel_rfl) : RWs ⟨P, ops, Q, S0, w0, E0, hd⟩ n (j :: l) G E ls := fun a ha => by
 simp only [Bool.and_eq_true, Bool.not_eq_true'] at hk;refine ⟨_, ho, .inr (.inr ⟨hk.1.1, hk.1.2, Unit, fun _ => undef, fun _ => G, fun _ => E, [], ⟨()⟩, fun X w hX hw => ?_, hst, fun _ _ _ => rfl, fun _ => k _ (ha.put (Nat.le_of_ble_eq_true hk.2) _)⟩)⟩;rw [if_neg (by rw [wanted_of ha hg hi hb]; simp)];exact ⟨(), rfl, hw⟩
theorem bWg {t : TypeId} {cs : List Value} {m : Nat} (k : ∀ g, RWs ⟨P, ops, Q, S0, w0, E0, hd⟩ n l (.row g t cs :: G) E ((s, .slice (some ⟨g, 0, none⟩) m m) :: ls))
 (ho : ops[j]? = some ⟨some s, op, ty, pos, af, some (g, want)⟩ := by rfl) (hk : (!isDet op && isNew op && chkO ls op && Nat.blt s n) = true := by kernel_rfl)
 (hg : (ops[g]?).bind (·.dst) = some sg := by rfl) (hi : inLs ls (.tmp sg) = true := by kernel_rfl) (hb : evl ls (.tmp sg) = .bool want := by (simp only [evlN, Nat.reduceEqDiff, ↓reduceIte]) <;> first | rfl | simp [*])
 (hr : ∀ w, (execOp (evl ls) ⟨some s, op, ty, pos, af, some (g, want)⟩).run P w = .ok (.value (.slice (some ⟨w.heap.size, 0, none⟩) m m)) (w.alloc (.cells cs.toArray t (0, 0))) := by intro w; (try simp only [av]); go_simp <;> with_reducible rfl) : RWs ⟨P, ops, Q, S0, w0, E0, hd⟩ n (j :: l) G E ls := fun a ha => by
 simp only [Bool.and_eq_true, Bool.not_eq_true'] at hk;refine ⟨_, ho, .inr (.inl ⟨hk.1.1.1, hk.1.1.2, fun g => .slice (some ⟨g, 0, none⟩) m m, t, cs, ⟨?_, fun w => ?_⟩, fun g => k g _ (ha.put (Nat.le_of_ble_eq_true hk.2) _)⟩)⟩
 · show Region.wanted _ (yielded ops a.tmps) = true;rw [wanted_of ha hg hi hb]; simp
 · rw [ha.exec hk.1.2];exact hr w
end
theorem cNo' {P : Program} {f : FuncId} {args : Array Value} {w : World} {B : Nat} {x : Int} (h : Calls P f args w fun e w' => (∃ v, e = .returned v /\ OwnI w' w.heap.size v x) /\ Below w.heap.size w w') (hB : B <= w.heap.size) : Calls P f args w fun e w' => ∃ p : P4, e = .returned (av p) /\ Nw w w' [.own B (av p) x] := h.mono fun e w' ⟨⟨v, he, hv⟩, hb⟩ => by
 subst he;obtain ⟨b, ao, l', k', rfl⟩ := OwnI.parts hv;exact ⟨(b, ao, l', k'), rfl, hb, fun e he => by
  rcases List.mem_singleton.1 he with rfl;exact ⟨OwnI.mono hv hB, fun _ h => h.elim⟩, List.pairwise_singleton ..⟩
theorem appC_run {w : World} {ty : TypeId} {ao : Option Addr} {cap g : Nat} {ws : List Nat} (hA : WAt w ao ws) (hb : ws.length <= 1099511627776) :
 ∃ ao' cap' w', (Builtin.append_ #[42, 42] ty #[.slice (some ⟨g, 0, none⟩) 0 0, .slice ao ws.length cap]).run Tryz.prog w = .ok (.slice ao' ws.length cap') w' /\ ws.length <= cap' /\ WAt w' ao' ws /\ Below w.heap.size w w' /\ ∀ b, 0 < ws.length -> (∃ o, ao' = some ⟨b, o, none⟩) -> w.heap.size <= b := by
 obtain ⟨i, hi, hz, hsz, hby⟩ := info_parts info_u64;by_cases h0 : ws.length = 0
 · have hw : ws = [] := List.eq_nil_of_length_eq_zero h0;subst hw;have hs : Src Tryz.prog i.size 42 (.slice ao 0 cap) 0 [] w := by
    cases ao with
    | none => exact Src.ofNil w Tryz.underlying42 cap
    | some a => exact Src.ofSlice w Tryz.underlying42 a 0 cap [] (by simp) (fun j u hj => by simp at hj) (fun u hu => by cases hu)
   exact ⟨_, _, _, run_append_nothing w 42 42 ty 92 i Tryz.underlying42 hi (some ⟨g, 0, none⟩) 0 0 (Nat.le_refl _) _ hs, Nat.le_refl _, ⟨Ok.nil, fun h => absurd h (by simp)⟩, Below.refl _ _, fun b h => absurd h (by simp)⟩
 · obtain ⟨b, o, rfl, hlt, hc⟩ := hA.2 (by omega);have hs : Src Tryz.prog i.size 42 (.slice (some ⟨b, o, none⟩) ws.length cap) ws.length (ws.map wv) w := Src.ofSlice w Tryz.underlying42 _ _ cap (ws.map wv) (by rw [hsz]; simp) (fun j u hj => by
    have hjl : j < ws.length := by have := (List.getElem?_eq_some_iff.1 hj).1; simpa using this
    rw [map_wv_getD ws j hjl] at hj;cases hj;have e : (⟨b, o, none⟩ : Addr).add j = ⟨b, o + j, none⟩ := by simp only [Addr.add]; by_cases hj0 : j = 0 <;> simp [hj0]
    rw [e]; exact hc j hjl) (fun u hu => by
    obtain ⟨x, _, rfl⟩ := List.mem_map.1 hu; rfl)
   have hold : (Builtin.firstCells i.size 0 (.slice (some ⟨g, 0, none⟩) 0 0)).run Tryz.prog w.drew = .ok ([] : List Value).toArray w.drew := run_firstCells_some w.drew i.size 0 _ 0 0 [] (by simp) (fun j v hj => by simp at hj);have hrun := run_append_grow_src w 42 42 ty 92 i (.int .u64 0) Tryz.underlying42 hi hz (some ⟨g, 0, none⟩) 0 0 [] hold _ ws.length _ hs (by omega) (by omega) (growslice_fits (by omega) (by rw [hby]; omega));rw [Nat.zero_add] at hrun;refine ⟨_, _, _, hrun, grownCap_ge .., ⟨hA.1, fun _ => ⟨w.heap.size, 0, rfl, by simp, fun k hk => ?_⟩⟩, ⟨rfl, rfl, rfl, by simp, fun q hq => heap_alloc_old w.drew _ hq⟩, fun b' _ ⟨o', e⟩ => by cases e; exact Nat.le_refl _⟩;have hnew := RowAt.new w.drew (([] ++ ws.map wv).toArray ++ Builtin.zeroCells (Value.int .u64 0).cells (grownCap w ws.length 0 92 - ws.length)) 92;have := hnew.cell (0 + k);rw [Nat.zero_add] at this ⊢;refine this.trans ?_;simp only [Array.toList_append, List.nil_append];rw [List.getElem?_append_left (by simpa using hk)];exact map_wv_getD ws k hk
section
variable {ops : Array Oper} {Q : Exit -> Act -> World -> Prop} {S0 : Nat -> Prop} {w0 : World} {E0 : List En} {hd : List (List Nat)} {n j s : Nat} {l : List Nat} {G E : List En} {ls : List (Nat × Value)} {ty : TypeId} {pos : String} {af : Array Edge}
theorem appC {ao : Option Addr} {cap g : Nat} {ws : List Nat} {sa xa : Operand} (hA : ∀ w, Fr S0 w0 w (G ++ E) -> WAt w ao ws) (hb : ws.length <= 1099511627776)
 (k : ∀ o c, ws.length <= c -> RWs ⟨Tryz.prog, ops, Q, S0, w0, E0, hd⟩ n l (.wat o ws :: G) E ((s, .slice o ws.length c) :: ls))
 (ho : ops[j]? = some ⟨some s, .call { callee := Callee.builtin Builtin.append, args := #[sa, xa], argTypes := #[42, 42] }, ty, pos, af, none⟩ := by rfl) (hk : (chkO ls (.call { callee := Callee.builtin Builtin.append, args := #[sa, xa], argTypes := #[42, 42] }) && Nat.blt s n) = true := by kernel_rfl)
 (ha : evl ls sa = .slice (some ⟨g, 0, none⟩) 0 0 := by (simp only [evlN, Nat.reduceEqDiff, ↓reduceIte]) <;> rfl)
 (hv : evl ls xa = .slice ao ws.length cap := by (simp only [evlN, Nat.reduceEqDiff, ↓reduceIte, av]) <;> rfl)
 (hst : okSt ops hd j [] = true := by kernel_rfl) : RWs ⟨Tryz.prog, ops, Q, S0, w0, E0, hd⟩ n (j :: l) G E ls := fun a hA' => by
 simp only [Bool.and_eq_true] at hk;refine ⟨_, ho, .inr (.inr ⟨rfl, rfl, {p : Option Addr × Nat // ws.length <= p.2}, fun q => .slice q.1.1 ws.length q.1.2, fun q => .wat q.1.1 ws :: G, fun _ => E, [], ⟨⟨(none, ws.length), Nat.le_refl _⟩⟩, fun X w hX hw => ?_, hst, fun _ _ _ => rfl, fun q => k _ _ q.2 _ (hA'.put (Nat.le_of_ble_eq_true hk.2) _)⟩)⟩;obtain ⟨ao', cap', w', hrun, hc, hw1, hbl, hS⟩ := appC_run (ty := ty) (cap := cap) (g := g) (hA w (hw.sub (List.sublist_append_right ..))) hb;refine ifw rfl ?_;show wpR _ _ ((execOp a.eval _).run _ w);rw [hA'.exec (o := ⟨some s, .call { callee := Callee.builtin Builtin.append, args := #[sa, xa], argTypes := #[42, 42] }, ty, pos, af, none⟩) hk.1];have e : (execOp (evl ls) ⟨some s, .call { callee := Callee.builtin Builtin.append, args := #[sa, xa], argTypes := #[42, 42] }, ty, pos, af, none⟩).run Tryz.prog w = .ok (.value (.slice ao' ws.length cap')) w' := by
  simp [execOp, resolve, invoke, builtin, ha, hv, hrun, Result.andThen]
 rw [e];refine ⟨⟨(ao', cap'), hc⟩, rfl, (hw.new hbl (e := .wat ao' ws) hw1 fun b ⟨hl, o, e⟩ => hS b hl ⟨o, e⟩).perm ?_⟩;exact (List.perm_middle (l₁ := X) (l₂ := G ++ E)).symm
end
end Go.Proofs.YtajmkebkgmbfnaaGreat
namespace Go.Proofs.YtajmkebkgmbfnaaGreat
def HX : Nat := 65536
theorem HX_pos : 0 < HX := by unfold HX; omega
theorem HX_pow4 : HX ^ 4 = W := rfl
def hval : List Nat -> Nat
 | [] => 0
 | x :: r => x + HX * hval r
def HOk (l : List Nat) : Prop := ∀ x ∈ l, x < HX
theorem HOk.tail {x : Nat} {r : List Nat} (h : HOk (x :: r)) : HOk r := fun y hy => h y (List.mem_cons_of_mem _ hy)
theorem HOk.head {x : Nat} {r : List Nat} (h : HOk (x :: r)) : x < HX := h x (List.mem_cons_self ..)
theorem HOk.append {a b : List Nat} (ha : HOk a) (hb : HOk b) : HOk (a ++ b) := fun x hx => (List.mem_append.1 hx).elim (ha x) (hb x)
theorem HOk.take {l : List Nat} (h : HOk l) (k : Nat) : HOk (l.take k) := fun x hx => h x (List.mem_of_mem_take hx)
theorem HOk.drop {l : List Nat} (h : HOk l) (k : Nat) : HOk (l.drop k) := fun x hx => h x (List.mem_of_mem_drop hx)
theorem HOk.set {l : List Nat} (h : HOk l) (k v : Nat) (hv : v < HX) : HOk (l.set k v) := fun x hx => (List.mem_or_eq_of_mem_set hx).elim (h x) (fun e => e ▸ hv)
theorem HOk.replicate (n : Nat) : HOk (List.replicate n 0) := fun x hx => by rw [List.eq_of_mem_replicate hx]; exact HX_pos
theorem HOk.gw_ {l : List Nat} (h : HOk l) (k : Nat) : gw l k < HX := by
 unfold gw;rw [List.getD_eq_getElem?_getD];cases hk : l[k]? with
 | none => simpa using HX_pos
 | some v => exact h v (List.mem_of_getElem? hk)
theorem hval_append (a b : List Nat) : hval (a ++ b) = hval a + HX ^ a.length * hval b := by
 induction a with
 | nil => simp [hval]
 | cons x r ih => simp only [List.cons_append, hval, ih, List.length_cons, Nat.pow_succ, Nat.mul_add]; rw [Nat.mul_comm (HX ^ r.length) HX, Nat.mul_assoc]; omega
theorem hval_replicate (n : Nat) : hval (List.replicate n 0) = 0 := by
 induction n with
 | zero => simp [hval]
 | succ n ih => simp [List.replicate_succ, hval, ih]
theorem hval_lt {l : List Nat} (h : HOk l) : hval l < HX ^ l.length := by
 induction l with
 | nil => simp [hval]
 | cons x r ih =>
  have h1 := h.head;have h2 := ih h.tail;simp only [hval, List.length_cons, Nat.pow_succ];have : HX * (hval r + 1) <= HX * HX ^ r.length := Nat.mul_le_mul_left _ h2;rw [Nat.mul_comm (HX ^ r.length) HX];rw [Nat.mul_add] at this;omega
theorem hval_take_succ (l : List Nat) (k : Nat) : hval (l.take (k + 1)) = hval (l.take k) + HX ^ k * gw l k := by
 unfold gw;by_cases hk : k < l.length
 · rw [List.take_succ_eq_append_getElem hk, hval_append, List.length_take, Nat.min_eq_left (by omega)];simp [hval, hk]
 · rw [List.take_of_length_le (by omega), List.take_of_length_le (by omega)];simp [List.getElem?_eq_none (show l.length <= k by omega)]
theorem hval_zeros {l : List Nat} (h : ∀ j, gw l j = 0) : hval l = 0 := by
 induction l with
 | nil => rfl
 | cons x r ih =>
  have h0 := h 0;have := ih (fun j => by have := h (j + 1); unfold gw at *; simpa using this);unfold gw at h0;simp at h0;simp [hval, h0, this]
theorem hval_take_of_zeros {l : List Nat} {k : Nat} (h : ∀ j, k <= j -> gw l j = 0) : hval (l.take k) = hval l := by
 by_cases hk : k <= l.length
 · conv => rhs; rw [<- List.take_append_drop k l, hval_append]
   rw [hval_zeros (l := l.drop k) (fun j => by have := h (k + j) (by omega); unfold gw at *; simpa using this)]; omega
 · rw [List.take_of_length_le (by omega)]
theorem hval_take_tlen (l : List Nat) : hval (l.take (tlen l)) = hval l := hval_take_of_zeros (fun j hj => zero_of_tlen l j hj)
structure Hex (n : Nat) (ds : List Nat) : Prop where
 ok : HOk ds
 trim : tlen ds = ds.length
 val : hval ds = n
theorem tlen_take_tlen (l : List Nat) : tlen (l.take (tlen l)) = (l.take (tlen l)).length := by
 have hl := tlen_le l;rw [List.length_take, Nat.min_eq_left hl];rcases Nat.eq_zero_or_pos (tlen l) with h0 | h0
 · rw [h0]; rfl
 · have h1 := tlen_top l (by omega);have h2 : tlen l - 1 < tlen (l.take (tlen l)) := lt_tlen _ _ (by
    rw [List.getD_eq_getElem?_getD, List.getElem?_take_of_lt (by omega), <- List.getD_eq_getElem?_getD]; exact h1)
   have h3 := tlen_le (l.take (tlen l));rw [List.length_take, Nat.min_eq_left hl] at h3;omega
theorem Hex.of {l : List Nat} (h : HOk l) : Hex (hval l) (l.take (tlen l)) := ⟨h.take _, tlen_take_tlen l, hval_take_tlen l⟩
theorem Hex.top {n : Nat} {ds : List Nat} (h : Hex n ds) (hl : 0 < ds.length) : HX ^ (ds.length - 1) <= n := by
 have h1 := tlen_top ds (by have := h.trim; omega);have h2 := hval_take_succ ds (ds.length - 1);have e : ds.length - 1 + 1 = ds.length := by omega
 rw [e, List.take_length, h.val] at h2;rw [h.trim] at h1;have h3 : 1 <= gw ds (ds.length - 1) := by unfold gw; omega
 have := Nat.mul_le_mul_left (HX ^ (ds.length - 1)) h3;omega
def sp4 (w : Nat) : List Nat := [w % HX, w / HX % HX, w / HX / HX % HX, w / HX / HX / HX % HX]
theorem sp4_ok (w : Nat) : HOk (sp4 w) := fun x hx => by
 simp only [sp4, List.mem_cons, List.not_mem_nil, or_false] at hx;rcases hx with rfl | rfl | rfl | rfl <;> exact Nat.mod_lt _ HX_pos
theorem sp4_val {w : Nat} (h : w < W) : hval (sp4 w) = w := by
 simp only [sp4, hval, Nat.mul_zero, Nat.add_zero];unfold W at h; unfold HX; omega
theorem sp4_length (w : Nat) : (sp4 w).length = 4 := rfl
def spl (ws : List Nat) : List Nat := ws.flatMap sp4
theorem spl_cons (w : Nat) (ws : List Nat) : spl (w :: ws) = sp4 w ++ spl ws := by simp [spl]
theorem spl_ok (ws : List Nat) : HOk (spl ws) := by
 induction ws with
 | nil => intro x hx; simp [spl] at hx
 | cons w ws ih => rw [spl_cons]; exact (sp4_ok w).append ih
theorem spl_length (ws : List Nat) : (spl ws).length = 4 * ws.length := by
 induction ws with
 | nil => rfl
 | cons w ws ih => rw [spl_cons, List.length_append, ih, sp4_length, List.length_cons]; omega
theorem spl_val {ws : List Nat} (h : Ok ws) : hval (spl ws) = nval ws := by
 induction ws with
 | nil => rfl
 | cons w ws ih =>
  rw [spl_cons, hval_append, sp4_length, HX_pow4, sp4_val h.head, ih h.tail]; rfl
def ch4 (ds : List Nat) (q : Nat) : Nat := hval ((ds.drop (4 * q)).take 4)
theorem ch4_lt {ds : List Nat} (h : HOk ds) (q : Nat) : ch4 ds q < W := by
 unfold ch4;refine Nat.lt_of_lt_of_le (hval_lt ((h.drop _).take _)) ?_;rw [<- HX_pow4];exact Nat.pow_le_pow_right HX_pos (by simp; omega)
theorem nval_ch4 : ∀ (n : Nat) (ds : List Nat), ds.length <= 4 * n -> nval ((List.range n).map (ch4 ds)) = hval ds
 | 0, ds, h => by
  have : ds = [] := List.length_eq_zero_iff.1 (by omega);subst this; rfl
 | n + 1, ds, h => by
  have ih := nval_ch4 n (ds.drop 4) (by simp; omega);rw [List.range_succ_eq_map, List.map_cons, List.map_map];have e : (List.range n).map (ch4 ds ∘ Nat.succ) = (List.range n).map (ch4 (ds.drop 4)) := by
   refine List.map_congr_left (fun q _ => ?_);simp only [Function.comp, ch4, List.drop_drop];congr 3; omega
  rw [e, nval, ih];unfold ch4;simp only [Nat.mul_zero, List.drop_zero]
  conv => rhs; rw [<- List.take_append_drop 4 ds, hval_append]
  by_cases h4 : 4 <= ds.length
  · rw [List.length_take, Nat.min_eq_left h4, HX_pow4]
  · rw [List.drop_of_length_le (by omega)]; simp [hval]
theorem ch4_ok {ds : List Nat} (h : HOk ds) (n : Nat) : Ok ((List.range n).map (ch4 ds)) := fun x hx => by
 obtain ⟨q, _, rfl⟩ := List.mem_map.1 hx;exact ch4_lt h q
theorem ch4_dig {ds : List Nat} {n m : Nat} (h : Hex m ds) (h1 : ds.length <= 4 * n) (h2 : 4 * n < ds.length + 4) : (List.range n).map (ch4 ds) = dig m := by
 have hok := ch4_ok h.ok n;have hv := nval_ch4 n ds h1;rw [h.val] at hv;have hd := dig_nval hok;rw [hv] at hd;rw [hd];have hl : tlen ((List.range n).map (ch4 ds)) = n := by
  have := tlen_le ((List.range n).map (ch4 ds));rw [List.length_map, List.length_range] at this;rcases Nat.eq_zero_or_pos n with h0 | h0
  · omega
  · have : n - 1 < tlen ((List.range n).map (ch4 ds)) := lt_tlen _ _ (by
     rw [List.getD_eq_getElem?_getD];simp only [List.getElem?_map, List.getElem?_range (show n - 1 < n by omega), Option.map_some, Option.getD_some];unfold ch4;intro e;have h3 : 0 < (ds.drop (4 * (n - 1))).length := by simp; omega
     have h4 : (ds.drop (4 * (n - 1))).length <= 4 := by simp; omega
     rw [List.take_of_length_le h4] at e;have h5 := h.top (by omega);have h6 : hval ds = hval (ds.take (4 * (n - 1))) := by
      conv => lhs; rw [<- List.take_append_drop (4 * (n - 1)) ds, hval_append, e]
      omega
     have h7 := hval_lt (h.ok.take (4 * (n - 1)));rw [<- h6, h.val, List.length_take, Nat.min_eq_left (by omega)] at h7;have h8 : HX ^ (4 * (n - 1)) <= HX ^ (ds.length - 1) := Nat.pow_le_pow_right HX_pos (by omega);omega)
    omega
 rw [List.take_of_length_le (by rw [List.length_map, List.length_range, hl]; exact Nat.le_refl _)]
end Go.Proofs.YtajmkebkgmbfnaaGreat
namespace Go.Proofs.YtajmkebkgmbfnaaGreat
open Go.RowKit
def lead : List Int -> Nat
 | [] => 0
 | x :: xs => if x = 0 then lead xs + 1 else 0
theorem lead_le : ∀ xs : List Int, lead xs <= xs.length
 | [] => Nat.le_refl _
 | x :: xs => by
  unfold lead; split
  · have := lead_le xs; simp; omega
  · simp
theorem lead_of : ∀ (xs : List Int) (k : Nat) (h : k < xs.length), (∀ i (h' : i < k), xs[i]'(by omega) = 0) -> xs[k] ≠ 0 -> lead xs = k
 | x :: xs, 0, _, _, hn => by unfold lead; rw [if_neg]; simpa using hn
 | x :: xs, k + 1, h, hz, hn => by
  have h0 : x = 0 := hz 0 (by omega);unfold lead; rw [if_pos h0, lead_of xs k (by simpa using h) (fun i hi => by have := hz (i + 1) (by omega); simpa using this) (by simpa using hn)]
theorem lead_all : ∀ (xs : List Int), (∀ i (h : i < xs.length), xs[i] = 0) -> lead xs = xs.length
 | [], _ => rfl
 | x :: xs, hz => by
  have h0 : x = 0 := hz 0 (by simp);unfold lead; rw [if_pos h0, lead_all xs (fun i hi => by have := hz (i + 1) (by simpa using hi); simpa using this)]; rfl
set_option maxRecDepth 100000 in
set_option maxHeartbeats 4000000 in
theorem Lead_c (b cap : Nat) (xs : List Int) (w : World) (hR : RowN w b xs) (hL : ∀ x ∈ xs, wlen x.natAbs <= 17592186044415) (hlen : xs.length <= 9223372036854775807) :
 Calls Tryz.prog 228 #[.slice (some ⟨b, 0, none⟩) xs.length cap] w fun e w' => e = .returned (.int .i64 (lead xs : Nat)) /\ Below w.heap.size w w' := by
 have HL := Lib.hid hL; clear hL;have HR := Lib.hid hR; clear hR;go_enter Tryz.func228, Tryz.ntmps228;go_wp2;go_loopw [7] (fun i wr => ∃ k : Nat, k <= xs.length /\ i = .int .i64 (k : Int) /\ Hid (∀ j (h : j < k) (h' : j < xs.length), xs[j] = 0) /\ Below w.heap.size w wr) (fun i _ => xs.length - (intOf i).toNat)
 case atStart => exact ⟨0, Nat.zero_le _, rfl, fun j h => by omega, Below.refl _ _⟩
 case round =>
  obtain ⟨k, hk, rfl, hz, hb⟩ := hrel;by_cases hkl : k < xs.length
  · have hR2 := HR.out.below hb;obtain ⟨p, hc0, hc1, hn⟩ := hR2.get hkl;have hkl' : (k : Int) < (xs.length : Int) := by omega
    have HN := Lib.hid hn;clear hn;go_wp2_with fail
    have hb1 : Below wr.heap.size wr (wr.alloc (.cells #[.bool p.fst, .slice p.snd.fst p.snd.snd.fst p.snd.snd.snd] 44)) := (Below.refl _ _).alloc (Nat.le_refl _) _;refine (ISign_c (av p) xs[k] _ ((HN.out.int (HL.out _ (List.getElem_mem hkl))).below hb1)).mono ?_;rintro e w2 ⟨rfl, hb2⟩;have hb3 : Below w.heap.size w w2 := hb.trans ((hb1.trans (hb2.mono hb1.size)).mono hb.size);have HB3 := Lib.hid hb3;clear hb1 hb2 hb3 hc0 hc1;by_cases h0 : xs[k] = 0
    · have hz0 : zsign xs[k] = 0 := zsign_beq.2 h0;rw [hz0];have H0 := Lib.hid h0;clear h0 hz0;go_wp2;go_roundw
      case rel => exact ⟨k + 1, by omega, by go_num, Lib.hid (fun j hj hj' => (Nat.lt_succ_iff_lt_or_eq.1 hj).elim (fun h => hz.out j h hj') (fun h => by subst h; exact H0.out)), HB3.out⟩
      case measure => simp [intOf]; omega
    · have hn0 : ¬ zsign xs[k] = 0 := fun h => h0 (zsign_beq.1 h);have hle := lead_of xs k hkl (fun i h' => hz.out i h' (by omega)) h0;have HLE := Lib.hid hle;obtain ⟨s, hs⟩ : ∃ s, zsign xs[k] = s := ⟨_, rfl⟩;rw [hs] at hn0 ⊢;have hb0 : (s != 0) = true := by simpa using hn0
      clear h0 hle hs;go_wp2;go_ret;rw [HLE.out];exact ⟨rfl, HB3.out⟩
  · obtain rfl : k = xs.length := by omega
    have hle := lead_all xs (fun i h => hz.out i h h);have HLE := Lib.hid hle;clear hle;go_wp2;go_ret;rw [HLE.out];exact ⟨rfl, hb⟩
theorem Chg.rowN {S : Nat -> Prop} {w w' : World} (h : Chg S w w') (hS : Wordless S w) {b : Nat} {xs : List Int} (hx : RowN w b xs) (hb : ¬ S b) : RowN w' b xs := by
 obtain ⟨ps, tl, nt, hr, hl, hn⟩ := hx;exact ⟨ps, tl, nt, h.row hr hb, hl, fun i h1 h2 => h.num hS (hn i h1 h2)⟩
theorem RowN.wordless {w : World} {b : Nat} {xs : List Int} (h : RowN w b xs) : Wordless (· = b) w := by
 rintro g rfl;obtain ⟨ps, tl, nt, hr, _⟩ := h;exact ⟨_, _, hr, flat_app nt⟩
def addRow (k : Int) (xs ys : List Int) : List Int := List.zipWith (fun x y => k * y + x) xs ys
def AddTo (k : Int) (xs ys cu : List Int) (m : Nat) : Prop := cu.length = xs.length /\ (∀ j (h : j < cu.length) (h1 : j < xs.length) (h2 : j < ys.length), j < m -> cu[j] = k * ys[j] + xs[j]) /\ (∀ j (h : j < cu.length) (h1 : j < xs.length), m <= j -> cu[j] = xs[j])
theorem AddTo.start (k : Int) (xs ys : List Int) : AddTo k xs ys xs 0 := ⟨rfl, fun _ _ _ _ h => by omega, fun _ _ _ _ => rfl⟩
theorem AddTo.next {k : Int} {xs ys cu : List Int} {m : Nat} (h : AddTo k xs ys cu m) (hm : m < xs.length) (hl : xs.length = ys.length) : AddTo k xs ys (cu.set m (k * ys[m] + xs[m])) (m + 1) := by
 obtain ⟨h1, h2, h3⟩ := h;refine ⟨by simpa using h1, fun j hj hx hy hjm => ?_, fun j hj hx hjm => ?_⟩
 · rw [List.getElem_set];split
   · rename_i e; subst e; rfl
   · exact h2 j (by simpa using hj) hx hy (by omega)
 · rw [List.getElem_set, if_neg (by omega)];exact h3 j (by simpa using hj) hx (by omega)
theorem AddTo.skip {k : Int} {xs ys cu : List Int} {m : Nat} (h : AddTo k xs ys cu m) (hm : m < xs.length) (hl : xs.length = ys.length) (h0 : ys[m] = 0) : AddTo k xs ys cu (m + 1) := by
 obtain ⟨h1, h2, h3⟩ := h;refine ⟨h1, fun j hj hx hy hjm => ?_, fun j hj hx hjm => h3 j hj hx (by omega)⟩;by_cases e : j = m
 · subst e; rw [h3 j hj hx (Nat.le_refl _), h0]; simp
 · exact h2 j hj hx hy (by omega)
theorem AddTo.all {k : Int} {xs ys cu : List Int} (h : AddTo k xs ys cu xs.length) (hl : xs.length = ys.length) : cu = addRow k xs ys := by
 obtain ⟨h1, h2, h3⟩ := h;refine List.ext_getElem (by simp [addRow, h1, <- hl]) fun j hj hj' => ?_;rw [h2 j hj (by omega) (by omega) (by omega)];simp [addRow]
set_option maxRecDepth 100000 in
set_option maxHeartbeats 4000000 in
theorem LAdd_c (bx by_ cx cy LA LB : Nat) (xs ys : List Int) (kv : Value) (k : Int) (w : World) (hX : RowN w bx xs) (hY : RowN w by_ ys) (hK : IntAt w LA kv k) (hne : bx ≠ by_) (hl : xs.length = ys.length)
 (hxL : ∀ x ∈ xs, wlen x.natAbs <= 17592186044415) (hyL : ∀ y ∈ ys, wlen y.natAbs <= LB) (hLab : LA + LB <= 17592186044415) (hlen : xs.length <= 4611686018427387903) :
 Calls Tryz.prog 211 #[.slice (some ⟨bx, 0, none⟩) xs.length cx, .slice (some ⟨by_, 0, none⟩) ys.length cy, kv] w fun e w' => e = .returned (.tuple #[]) /\ RowN w' bx (addRow k xs ys) /\ Chg (· = bx) w w' := by
 obtain ⟨kp, rfl⟩ := hK.parts;have HX := Lib.hid hX; clear hX;have HY := Lib.hid hY; clear hY;have HK := Lib.hid hK; clear hK;have HXL := Lib.hid hxL; clear hxL;have HYL := Lib.hid hyL; clear hyL;have Hl := Lib.hid hl; clear hl;go_enter Tryz.func211, Tryz.ntmps211;unfold av at *;go_wp2;have hb1 : Below w.heap.size w (w.alloc (.cells #[.bool kp.1, .slice kp.2.1 kp.2.2.1 kp.2.2.2] 44)) := (Below.refl _ _).alloc (Nat.le_refl _) _;have hr1 := RowAt.new w #[.bool kp.1, .slice kp.2.1 kp.2.2.1 kp.2.2.2] 44;generalize w.alloc (.cells #[.bool kp.1, .slice kp.2.1 kp.2.2.1 kp.2.2.2] 44) = w1 at *;have HB1 := Lib.hid (Chg.of_below (S := (· = bx)) hb1);have HX1 := Lib.hid (HX.out.below hb1);have HY1 := Lib.hid (HY.out.below hb1);have HK1 := Lib.hid (HK.out.below hb1);have HR1 := Lib.hid hr1;have hs1 : w.heap.size < w1.heap.size := hr1.lt;have hbx := HX.out.lt;have hby := HY.out.lt;clear hr1 hb1;go_loopw [9] (fun i wr => ∃ (m : Nat) (cu : List Int), m <= xs.length /\ i = .int .i64 (m : Int) /\ Hid (AddTo k xs ys cu m) /\ Hid (RowN wr bx cu) /\ Hid (RowN wr by_ ys) /\ Hid (RowAt wr w.heap.size 44 [.bool kp.1, .slice kp.2.1 kp.2.2.1 kp.2.2.2]) /\ Hid (IntAt wr LA (av kp) k) /\ Hid (Chg (· = bx) w wr)) (fun i _ => xs.length - (intOf i).toNat)
 case atStart => exact ⟨0, xs, Nat.zero_le _, rfl, AddTo.start .., HX1, HY1, HR1, HK1, HB1⟩
 case round =>
  obtain ⟨m, cu, hm, rfl, HA, hX, hY, hR, hK, hC⟩ := hrel;by_cases hml : m < xs.length
  · have hmy : m < ys.length := by have := Hl.out; omega
    have hmx : m < cu.length := by rw [HA.out.1]; exact hml
    have hm1 : (m : Int) < (ys.length : Int) := by omega
    have hm2 : (m : Int) < (xs.length : Int) := by omega
    obtain ⟨py, cy0, cy1, hny⟩ := hY.out.get hmy;have Hny := Lib.hid hny; clear hny;go_wp2_with fail
    refine (ISign_c (av py) ys[m] _ (Hny.out.int (by have := HYL.out _ (List.getElem_mem hmy); omega))).mono ?_;rintro e w2 ⟨rfl, hb2⟩;clear cy0 cy1;have X2 := Lib.hid (hX.out.below hb2);have Y2 := Lib.hid (hY.out.below hb2);have R2 := Lib.hid (hR.out.below hb2 hR.out.lt);have K2 := Lib.hid (hK.out.below hb2);have C2 := Lib.hid (hC.out.below hb2);have N2 := Lib.hid (Hny.out.below hb2);have hsw := hC.out.size;have hsw2 := hb2.size;have hswr := hR.out.lt;clear hX hY hR hK hC Hny hb2;by_cases h0 : ys[m] = 0
    · have hz0 : zsign ys[m] = 0 := zsign_beq.2 h0;rw [hz0];have H0 := Lib.hid h0;clear h0 hz0;go_wp2;go_roundw
      case rel => exact ⟨m + 1, cu, by omega, by go_num, HA.out.skip hml Hl.out H0.out, X2, Y2, R2, K2, C2⟩
      case measure => simp [intOf]; omega
    · have hn0 : ¬ zsign ys[m] = 0 := fun h => h0 (zsign_beq.1 h);obtain ⟨s, hs⟩ : ∃ s, zsign ys[m] = s := ⟨_, rfl⟩;rw [hs] at hn0 ⊢;have hb0 : (s != 0) = true := by simpa using hn0
      clear h0 hs;go_wp2;clear hb0 hn0;obtain ⟨px, cx0, cx1, hnx⟩ := X2.out.get hmx;obtain ⟨py, cy0, cy1, hny⟩ := Y2.out.get hmy;have ck0 : w2.cell? ⟨w.heap.size, 0, none⟩ = some (.bool kp.1) := R2.out.cell 0;have ck1 : w2.cell? ⟨w.heap.size, 1, none⟩ = some (.slice kp.2.1 kp.2.2.1 kp.2.2.2) := R2.out.cell 1;have hbx2 := X2.out.lt;have hby2 := Y2.out.lt;have hsk2 := R2.out.lt;have hxe : cu[m] = xs[m] := HA.out.2.2 m hmx hml (Nat.le_refl _);have hxw : wlen (cu[m]).natAbs <= 17592186044415 := by rw [hxe]; exact HXL.out _ (List.getElem_mem hml)
      have hyw : wlen (ys[m]).natAbs <= LB := HYL.out _ (List.getElem_mem hmy);have HXE := Lib.hid hxe; clear hxe;have Hnx := Lib.hid (hnx.int hxw); clear hnx;have Hny := Lib.hid (hny.int hyw); clear hny;clear N2;refine wp_region_K ⟨13, fun q_ => [18, 19, 20, 21, 22, 23, 24, 25, 26, 27, 28, 29, 30].getD q_ 0,
       fun q_ => [.val (.slice (some ⟨bx, 0, none⟩) xs.length cx), .val (.int .i64 (m : Int)), .val (.agg #[.bool kp.1, .slice kp.2.1 kp.2.2.1 kp.2.2.2]), .val (.slice (some ⟨by_, 0, none⟩) ys.length cy), .val (.int .i64 (m : Int)), .val (.pointer (some ⟨by_, m * 2, none⟩)), .val (.agg #[.bool py.1, .slice py.2.1 py.2.2.1 py.2.2.2]), .val (.slice (some ⟨bx, 0, none⟩) xs.length cx), .val (.int .i64 (m : Int)), .val (.pointer (some ⟨bx, m * 2, none⟩)), .val (.agg #[.bool px.1, .slice px.2.1 px.2.2.1 px.2.2.2]), .int 0 (k * ys[m] + cu[m]), .val (.pointer (some ⟨bx, m * 2, none⟩))].getD q_ .any,
       [],
       [(.agg #[.bool kp.1, .slice kp.2.1 kp.2.2.1 kp.2.2.2], .at_ LA k), (.agg #[.bool py.1, .slice py.2.1 py.2.2.1 py.2.2.2], .at_ LB ys[m]), (.agg #[.bool px.1, .slice px.2.1 px.2.2.1 px.2.2.2], .at_ 17592186044415 cu[m])],
       [],
       [], [(⟨w.heap.size, 0, none⟩, .bool kp.1), (⟨w.heap.size, 1, none⟩, .slice kp.2.1 kp.2.2.1 kp.2.2.2), (⟨by_, m * 2, none⟩, .bool py.1), (⟨by_, m * 2 + 1, none⟩, .slice py.2.1 py.2.2.1 py.2.2.2), (⟨bx, m * 2, none⟩, .bool px.1), (⟨bx, m * 2 + 1, none⟩, .slice px.2.1 px.2.2.1 px.2.2.2)], []⟩ [18, 19, 20, 21, 22, 23, 24, 25, 26, 27, 28, 29, 30] (w2.heap.size) (by kernel_rfl) (by kernel_rfl) (by kernel_rfl) (by kernel_rfl) (by kernel_rfl) ?_ ?_ ?_ ?_ ?_ ?_
      · exact allq (K2.out) (allq (Hny.out) (allq (Hnx.out) allz))
      · exact allz
      · exact allq (⟨ck0, by dsimp only; omega, allz⟩) (allq (⟨ck1, by dsimp only; omega, allz⟩) (allq (⟨cy0, by dsimp only; omega, allz⟩) (allq (⟨cy1, by dsimp only; omega, allz⟩) (allq (⟨cx0, by dsimp only; omega, allz⟩) (allq (⟨cx1, by dsimp only; omega, allz⟩) allz)))))
      · exact allz
      · refine allc ?_ (allc ?_ (allc ?_ (allc ?_ (allc ?_ (allc ?_ (allc ?_ (allc ?_ (allc ?_ (allc ?_ (allc ?_ (allc ?_ (allc ?_ alln))))))))))));any_goals (first | (intro L fx w' hJ hL hp hcl; have _ := hp0 hp (by decide +kernel); refine wps rfl fun K hK => ?_; go_simp; exact hJ.q hK (by kernel_rfl) rfl) | fail)
        · intro L fx w' hJ hL hp hcl;refine wps rfl fun K hK => ?_;have cl0 := (hJ.cells _ mm0).1;have cl1 := (hJ.cells _ mm1).1;try dsimp only at cl0 cl1
          go_simp;exact hJ.q hK (by kernel_rfl) rfl
        · intro L fx w' hJ hL hp hcl;have e3 := hJ.pt 3 21 (.slice (some ⟨by_, 0, none⟩) ys.length cy) rfl rfl rfl (hp 3 (by decide));rw [e3] at hJ ⊢; clear e3;have e4 := hJ.pt 4 22 (.int .i64 (m : Int)) rfl rfl rfl (hp 4 (by decide));rw [e4] at hJ ⊢; clear e4;refine wps rfl fun K hK => ?_;go_simp;exact hJ.q hK (by kernel_rfl) rfl
        · intro L fx w' hJ hL hp hcl;have e5 := hJ.pt 5 23 (.pointer (some ⟨by_, m * 2, none⟩)) rfl rfl rfl (hp 5 (by decide));rw [e5] at hJ ⊢; clear e5;refine wps rfl fun K hK => ?_;have cl0 := (hJ.cells _ mm2).1;have cl1 := (hJ.cells _ mm3).1;try dsimp only at cl0 cl1
          go_simp;exact hJ.q hK (by kernel_rfl) rfl
        · intro L fx w' hJ hL hp hcl;have e7 := hJ.pt 7 25 (.slice (some ⟨bx, 0, none⟩) xs.length cx) rfl rfl rfl (hp 7 (by decide));rw [e7] at hJ ⊢; clear e7;have e8 := hJ.pt 8 26 (.int .i64 (m : Int)) rfl rfl rfl (hp 8 (by decide));rw [e8] at hJ ⊢; clear e8;refine wps rfl fun K hK => ?_;go_simp;exact hJ.q hK (by kernel_rfl) rfl
        · intro L fx w' hJ hL hp hcl;have e9 := hJ.pt 9 27 (.pointer (some ⟨bx, m * 2, none⟩)) rfl rfl rfl (hp 9 (by decide));rw [e9] at hJ ⊢; clear e9;refine wps rfl fun K hK => ?_;have cl0 := (hJ.cells _ mm4).1;have cl1 := (hJ.cells _ mm5).1;try dsimp only at cl0 cl1
          go_simp;exact hJ.q hK (by kernel_rfl) rfl
        · intro L fx w' hJ hL hp hcl;have e2 := hJ.pt 2 20 (.agg #[.bool kp.1, .slice kp.2.1 kp.2.2.1 kp.2.2.2]) rfl rfl rfl (hp 2 (by decide));rw [e2] at hJ ⊢; clear e2;have e6 := hJ.pt 6 24 (.agg #[.bool py.1, .slice py.2.1 py.2.2.1 py.2.2.2]) rfl rfl rfl (hp 6 (by decide));rw [e6] at hJ ⊢; clear e6;have e10 := hJ.pt 10 28 (.agg #[.bool px.1, .slice px.2.1 px.2.2.1 px.2.2.2]) rfl rfl rfl (hp 10 (by decide));rw [e10] at hJ ⊢; clear e10;refine wps rfl fun K hK => ?_;go_simp;go_at_call 181;refine (IMulAdd_c _ _ _ k ys[m] cu[m] LA LB _ (show IntAt w' (LA) (.agg #[.bool kp.1, .slice kp.2.1 kp.2.2.1 kp.2.2.2]) (k) from hJ.base _ mm0) (show IntAt w' (LB) (.agg #[.bool py.1, .slice py.2.1 py.2.2.1 py.2.2.2]) (ys[m]) from hJ.base _ mm1) (show IntAt w' (17592186044415) (.agg #[.bool px.1, .slice px.2.1 px.2.2.1 px.2.2.2]) (cu[m]) from hJ.base _ mm2) hLab).mono ?_;rintro e w4 ⟨⟨v5, rfl, h5⟩, hb4⟩;try dsimp only
          exact hK _ _ ⟨_, by kernel_rfl, hJ.gC 11 rfl (by kernel_rfl) hb4 (OwnI.mono h5 (Nat.zero_le _)) (by omega)⟩
        · intro L fx w' hJ hL hp hcl;have e0 := hJ.pt 0 18 (.slice (some ⟨bx, 0, none⟩) xs.length cx) rfl rfl rfl (hp 0 (by decide));rw [e0] at hJ ⊢; clear e0;have e1 := hJ.pt 1 19 (.int .i64 (m : Int)) rfl rfl rfl (hp 1 (by decide));rw [e1] at hJ ⊢; clear e1;refine wps rfl fun K hK => ?_;go_simp;exact hJ.q hK (by kernel_rfl) rfl
      · intro L x' w3 hL hJ;have hfr : Below w2.drew.heap.size w2.drew w3 := hJ.fr;have e11 : OwnI w3 0 (x' 29) (k * ys[m] + cu[m]) := hJ.slot 11 (by show 11 < 13; decide) (hL 11 (by show 11 < 13; decide));have e12 : x' 30 = .pointer (some ⟨bx, m * 2, none⟩) := hJ.slot 12 (by show 12 < 13; decide) (hL 12 (by show 12 < 13; decide));obtain ⟨pz, hpz⟩ := NumAt.parts e11.num;rw [hpz] at e11;unfold av at hpz;rw [patchX (x := x') (d := 29) hpz];rw [patchX (x := updX x' 29 (.agg #[.bool pz.1, .slice pz.2.1 pz.2.2.1 pz.2.2.2])) (d := 30) (v := .pointer (some ⟨bx, m * 2, none⟩)) e12];clear hJ hL;have X3 := Lib.hid (RowN.below (w := w2.drew) X2.out hfr);have Y3 := Lib.hid (RowN.below (w := w2.drew) Y2.out hfr);have R3 := Lib.hid (RowAt.below (w := w2.drew) R2.out hfr R2.out.lt);have K3 := Lib.hid (IntAt.below (w := w2.drew) K2.out hfr);have C3 := Lib.hid (C2.out.drew.below hfr);obtain ⟨pq, q0, q1, _⟩ := X3.out.get hmx;have q2 := X3.out.free (m * 2);have q3 := X3.out.free (m * 2 + 1);refine wps rfl fun K hK => ?_;go_simp;refine hK _ _ ⟨⟨updX (updX x' 29 (.agg #[.bool pz.1, .slice pz.2.1 pz.2.2.1 pz.2.2.2])) 30 (.pointer (some ⟨bx, m * 2, none⟩)), by kernel_rfl⟩, ?_⟩;clear hK q0 q1 q2 q3;go_wp2;go_roundw
        case rel =>
         refine ⟨m + 1, _, by omega, by go_num, ?_, Lib.hid (X3.out.set m e11.num), Lib.hid (X3.out.keepRow Y3.out (fun e => hne e.symm) m pz), Lib.hid ((R3.out.other (by show w.heap.size ≠ bx; omega) _).other (by show w.heap.size ≠ bx; omega) _), Lib.hid (X3.out.keepInt K3.out m pz), Lib.hid ((C3.out.set rfl _).set rfl _)⟩;rw [HXE.out];exact HA.out.next hml Hl.out
        case measure => simp [intOf]; omega
  · obtain rfl : m = xs.length := by omega
    have he := HA.out.all Hl.out;have HE := Lib.hid he;clear he;go_wp2;refine bodyPost_end (results_none (by kernel_rfl) _ _ _) rfl ?_;rw [<- HE.out];exact ⟨rfl, hX.out, hC.out⟩
def CV.cells (cs : List Value) : CV := CV.free (fun _ v => v = cs) (fun h _ => h) (fun h _ _ _ _ _ _ => h)
def mixRow (a b : Int) (xs ys : List Int) : List Int := List.zipWith (fun u v => a * u + b * v) xs ys
def MixTo (a b : Int) (xs ys zs cu : List Int) (m : Nat) : Prop := cu.length = zs.length /\ (∀ j (h : j < cu.length) (h1 : j < xs.length) (h2 : j < ys.length), j < m -> cu[j] = a * xs[j] + b * ys[j]) /\ (∀ j (h : j < cu.length) (h1 : j < zs.length), m <= j -> cu[j] = zs[j])
theorem MixTo.start (a b : Int) (xs ys zs : List Int) : MixTo a b xs ys zs zs 0 := ⟨rfl, fun _ _ _ _ h => by omega, fun _ _ _ _ => rfl⟩
theorem MixTo.next {a b : Int} {xs ys zs cu : List Int} {m : Nat} (h : MixTo a b xs ys zs cu m) (hx : m < xs.length) (hy : m < ys.length) : MixTo a b xs ys zs (cu.set m (a * xs[m] + b * ys[m])) (m + 1) := by
 obtain ⟨h1, h2, h3⟩ := h;refine ⟨by simpa using h1, fun j hj hx hy hjm => ?_, fun j hj hx hjm => ?_⟩
 · rw [List.getElem_set];split
   · rename_i e; subst e; rfl
   · exact h2 j (by simpa using hj) hx hy (by omega)
 · rw [List.getElem_set, if_neg (by omega)];exact h3 j (by simpa using hj) hx (by omega)
theorem MixTo.all {a b : Int} {xs ys zs cu : List Int} (h : MixTo a b xs ys zs cu xs.length) (hl : xs.length = ys.length) (hz : xs.length = zs.length) : cu = mixRow a b xs ys := by
 obtain ⟨h1, h2, h3⟩ := h;refine List.ext_getElem (by simp [mixRow, h1, <- hl, hz]) fun j hj hj' => ?_;rw [h2 j hj (by omega) (by omega) (by omega)];simp [mixRow]
set_option maxRecDepth 100000 in
set_option maxHeartbeats 4000000 in
theorem LMix_c (bx by_ cx cy LA LB : Nat) (xs ys : List Int) (p q r s : P4) (a b c d : Int) (w : World) (hX : RowN w bx xs) (hY : RowN w by_ ys) (hA : IntAt w LA (av p) a) (hB : IntAt w LA (av q) b) (hC : IntAt w LA (av r) c) (hD : IntAt w LA (av s) d) (hne : bx ≠ by_) (hl : xs.length = ys.length)
 (hxL : ∀ x ∈ xs, wlen x.natAbs <= LB) (hyL : ∀ y ∈ ys, wlen y.natAbs <= LB) (hLab : LA + LB <= 17592186044415) (hlen : xs.length <= 4611686018427387903) :
 Calls Tryz.prog 213 #[.slice (some ⟨bx, 0, none⟩) xs.length cx, .slice (some ⟨by_, 0, none⟩) ys.length cy, .agg #[.bool p.1, .slice p.2.1 p.2.2.1 p.2.2.2, .bool q.1, .slice q.2.1 q.2.2.1 q.2.2.2, .bool r.1, .slice r.2.1 r.2.2.1 r.2.2.2, .bool s.1, .slice s.2.1 s.2.2.1 s.2.2.2]] w
  fun e w' => e = .returned (.tuple #[]) /\ RowN w' bx (mixRow a b xs ys) /\ RowN w' by_ (mixRow c d xs ys) /\ Chg (fun k => k = bx ∨ k = by_) w w' := by
 have HX := Lib.hid hX; clear hX;have HY := Lib.hid hY; clear hY;have HA := Lib.hid hA; clear hA;have HB := Lib.hid hB; clear hB;have HC := Lib.hid hC; clear hC;have HD := Lib.hid hD; clear hD;have HXL := Lib.hid hxL; clear hxL;have HYL := Lib.hid hyL; clear hyL;have Hl := Lib.hid hl; clear hl;go_enter Tryz.func213, Tryz.ntmps213;unfold av at *;go_wp2;have hb1 : Below w.heap.size w (w.alloc (.cells #[.bool p.1, .slice p.2.1 p.2.2.1 p.2.2.2, .bool q.1, .slice q.2.1 q.2.2.1 q.2.2.2, .bool r.1, .slice r.2.1 r.2.2.1 r.2.2.2, .bool s.1, .slice s.2.1 s.2.2.1 s.2.2.2] 199)) := (Below.refl _ _).alloc (Nat.le_refl _) _;have hr1 := RowAt.new w #[.bool p.1, .slice p.2.1 p.2.2.1 p.2.2.2, .bool q.1, .slice q.2.1 q.2.2.1 q.2.2.2, .bool r.1, .slice r.2.1 r.2.2.1 r.2.2.2, .bool s.1, .slice s.2.1 s.2.2.1 s.2.2.2] 199;generalize w.alloc (.cells #[.bool p.1, .slice p.2.1 p.2.2.1 p.2.2.2, .bool q.1, .slice q.2.1 q.2.2.1 q.2.2.2, .bool r.1, .slice r.2.1 r.2.2.1 r.2.2.2, .bool s.1, .slice s.2.1 s.2.2.1 s.2.2.2] 199) = w1 at *;have HB1 := Lib.hid (Chg.of_below (S := (fun k => k = bx ∨ k = by_)) hb1);have HX1 := Lib.hid (HX.out.below hb1);have HY1 := Lib.hid (HY.out.below hb1);have HI1 : Hid (IntAt w1 LA (av p) a /\ IntAt w1 LA (av q) b /\ IntAt w1 LA (av r) c /\ IntAt w1 LA (av s) d) := Lib.hid ⟨HA.out.below hb1, HB.out.below hb1, HC.out.below hb1, HD.out.below hb1⟩;have HR1 := Lib.hid hr1;have hs1 : w.heap.size < w1.heap.size := hr1.lt;have hbx := HX.out.lt;have hby := HY.out.lt;clear hr1 hb1;go_loopw [11] (fun i wr => ∃ (m : Nat) (cu cv : List Int), m <= xs.length /\ i = .int .i64 (m : Int) /\ Hid (MixTo a b xs ys xs cu m) /\ Hid (MixTo c d xs ys ys cv m) /\ Hid (RowN wr bx cu) /\ Hid (RowN wr by_ cv) /\ Hid (RowAt wr w.heap.size 199 [.bool p.1, .slice p.2.1 p.2.2.1 p.2.2.2, .bool q.1, .slice q.2.1 q.2.2.1 q.2.2.2, .bool r.1, .slice r.2.1 r.2.2.1 r.2.2.2, .bool s.1, .slice s.2.1 s.2.2.1 s.2.2.2]) /\ Hid (IntAt wr LA (av p) a /\ IntAt wr LA (av q) b /\ IntAt wr LA (av r) c /\ IntAt wr LA (av s) d) /\ Hid (Chg (fun k => k = bx ∨ k = by_) w wr)) (fun i _ => xs.length - (intOf i).toNat)
 case atStart => exact ⟨0, xs, ys, Nat.zero_le _, rfl, MixTo.start .., MixTo.start .., HX1, HY1, HR1, HI1, HB1⟩
 case round =>
  obtain ⟨m, cu, cv, hm, rfl, HU, HV, hX, hY, hR, hI, hC⟩ := hrel;by_cases hml : m < xs.length
  · have hmy : m < ys.length := by have := Hl.out; omega
    have hmx : m < cu.length := by rw [HU.out.1]; exact hml
    have hmv : m < cv.length := by rw [HV.out.1]; exact hmy
    have hm1 : (m : Int) < (ys.length : Int) := by omega
    have hm2 : (m : Int) < (xs.length : Int) := by omega
    go_wp2;obtain ⟨pu, cu0, cu1, hnu⟩ := hX.out.get hmx;obtain ⟨pv, cv0, cv1, hnv⟩ := hY.out.get hmv;have hxe : cu[m] = xs[m] := HU.out.2.2 m hmx hml (Nat.le_refl _);have hye : cv[m] = ys[m] := HV.out.2.2 m hmv hmy (Nat.le_refl _);rw [hxe] at hnu;rw [hye] at hnv;have hxw : wlen (xs[m]).natAbs <= LB := HXL.out _ (List.getElem_mem hml);have hyw : wlen (ys[m]).natAbs <= LB := HYL.out _ (List.getElem_mem hmy);have Hnu := Lib.hid (hnu.int hxw);have Hnv := Lib.hid (hnv.int hyw);clear hxe hye hnu hnv;have hbx2 := hX.out.lt;have hby2 := hY.out.lt;have hsk2 := hR.out.lt;have hswr := hC.out.size;refine wp_region_J ⟨12, fun q_ => [14, 15, 16, 17, 18, 19, 20, 21, 7, 8, 1010, 1011].getD q_ 0,
     fun q_ => [.val (.slice (some ⟨bx, 0, none⟩) xs.length cx), .val (.int .i64 (m : Int)), .val (.pointer (some ⟨bx, m * 2, none⟩)), .val (.agg #[.bool pu.1, .slice pu.2.1 pu.2.2.1 pu.2.2.2]), .val (.slice (some ⟨by_, 0, none⟩) ys.length cy), .val (.int .i64 (m : Int)), .val (.pointer (some ⟨by_, m * 2, none⟩)), .val (.agg #[.bool pv.1, .slice pv.2.1 pv.2.2.1 pv.2.2.2]), .ptr wr.heap.size 44 2, .ptr wr.heap.size 44 2, .any, .any].getD q_ .any,
     [],
     [],
     [],
     [(10, 7, 44, .cells [.bool pu.1, .slice pu.2.1 pu.2.2.1 pu.2.2.2]), (11, 8, 44, .cells [.bool pv.1, .slice pv.2.1 pv.2.2.1 pv.2.2.2])], [(⟨bx, m * 2, none⟩, .bool pu.1), (⟨bx, m * 2 + 1, none⟩, .slice pu.2.1 pu.2.2.1 pu.2.2.2), (⟨by_, m * 2, none⟩, .bool pv.1), (⟨by_, m * 2 + 1, none⟩, .slice pv.2.1 pv.2.2.1 pv.2.2.2)], [(8, 7), (9, 8)]⟩ [14, 15, 16, 17, 18, 19, 20, 21, 7, 8] (wr.heap.size) (by kernel_rfl) (by kernel_rfl) (by kernel_rfl) (by kernel_rfl) ?_ ?_ ?_ ?_ ?_ ?_
    · exact allz
    · exact allz
    · exact allq (⟨cu0, by dsimp only; omega, allz⟩) (allq (⟨cu1, by dsimp only; omega, allz⟩) (allq (⟨cv0, by dsimp only; omega, allz⟩) (allq (⟨cv1, by dsimp only; omega, allz⟩) allz)))
    · exact allz
    · refine allc ?_ (allc ?_ (allc ?_ (allc ?_ (allc ?_ (allc ?_ (allc ?_ (allc ?_ (allc ?_ (allc ?_ (allc ?_ (allc ?_ alln)))))))))));any_goals (first | (intro L fx w' hJ hL hp hcl; have _ := hp0 hp (by decide +kernel); refine wps rfl fun K hK => ?_; go_simp; exact hJ.q hK (by kernel_rfl) rfl) | fail)
      · intro L fx w' hJ hL hp hcl;have e0 := hJ.pt 0 14 (.slice (some ⟨bx, 0, none⟩) xs.length cx) rfl rfl rfl (hp 0 (by decide));rw [e0] at hJ ⊢; clear e0;have e1 := hJ.pt 1 15 (.int .i64 (m : Int)) rfl rfl rfl (hp 1 (by decide));rw [e1] at hJ ⊢; clear e1;refine wps rfl fun K hK => ?_;go_simp;exact hJ.q hK (by kernel_rfl) rfl
      · intro L fx w' hJ hL hp hcl;have e2 := hJ.pt 2 16 (.pointer (some ⟨bx, m * 2, none⟩)) rfl rfl rfl (hp 2 (by decide));rw [e2] at hJ ⊢; clear e2;refine wps rfl fun K hK => ?_;have cl0 := (hJ.cells _ mm0).1;have cl1 := (hJ.cells _ mm1).1;try dsimp only at cl0 cl1
        go_simp;exact hJ.q hK (by kernel_rfl) rfl
      · intro L fx w' hJ hL hp hcl;have e4 := hJ.pt 4 18 (.slice (some ⟨by_, 0, none⟩) ys.length cy) rfl rfl rfl (hp 4 (by decide));rw [e4] at hJ ⊢; clear e4;have e5 := hJ.pt 5 19 (.int .i64 (m : Int)) rfl rfl rfl (hp 5 (by decide));rw [e5] at hJ ⊢; clear e5;refine wps rfl fun K hK => ?_;go_simp;exact hJ.q hK (by kernel_rfl) rfl
      · intro L fx w' hJ hL hp hcl;have e6 := hJ.pt 6 20 (.pointer (some ⟨by_, m * 2, none⟩)) rfl rfl rfl (hp 6 (by decide));rw [e6] at hJ ⊢; clear e6;refine wps rfl fun K hK => ?_;have cl0 := (hJ.cells _ mm2).1;have cl1 := (hJ.cells _ mm3).1;try dsimp only at cl0 cl1
        go_simp;exact hJ.q hK (by kernel_rfl) rfl
      · intro L fx w' hJ hL hp hcl;have hg0 : wr.heap.size <= w'.heap.size := Nat.le_trans (by omega : wr.heap.size <= wr.heap.size) hJ.size;refine wps rfl fun K hK => ?_;go_simp;exact hK _ _ ⟨_, by kernel_rfl, hJ.grow 8 (by show 8 < 12; decide) _ (by kernel_rfl) (by kernel_rfl) (by intro t ht; rcases mc ht with rfl | ht; exact ⟨by show 10 ≠ 8; decide, fun _ => by cases hh : L 10 with | false => rfl | true => have := hcl 10 (by show 10 < 12; decide) hh 8 (by decide); rw [hL] at this; cases this⟩; rcases mc ht with rfl | ht; exact ⟨by show 11 ≠ 8; decide, fun h => absurd (show 8 = 7 from h) (by decide)⟩; cases ht) (by intro p hp; rcases mc hp with rfl | hp; exact ⟨⟨fun _ => rfl, fun _ => rfl⟩, fun _ q hq hne hLq => (by rcases mc hq with rfl | hq; exact absurd rfl hne; rcases mc hq with rfl | hq; (obtain ⟨g9, cs9, hx9, _, hr9, _⟩ := hJ.slot 9 (by show 9 < 12; decide) hLq; have hx9 : fx 8 = _ := hx9; show _ ≠ fx 8; rw [hx9]; intro e9; injection e9 with e9; injection e9 with e9; injection e9 with e9; exact absurd e9 (Nat.ne_of_gt hr9.lt)); cases hq)⟩; rcases mc hp with rfl | hp; exact ⟨⟨fun h => absurd (show 9 = 8 from h) (by decide), fun h => absurd (show 8 = 7 from h) (by decide)⟩, fun h => absurd (show 9 = 8 from h) (by decide)⟩; cases hp) ((Below.refl _ _).alloc (Nat.le_refl _) _) ⟨w'.heap.size, _, rfl, hJ.size, RowAt.new _ _ _, NoW.two _ _ _ _, rfl⟩ hg0⟩
      · intro L fx w' hJ hL hp hcl;have hg0 : wr.heap.size <= w'.heap.size := Nat.le_trans (by omega : wr.heap.size <= wr.heap.size) hJ.size;refine wps rfl fun K hK => ?_;go_simp;exact hK _ _ ⟨_, by kernel_rfl, hJ.grow 9 (by show 9 < 12; decide) _ (by kernel_rfl) (by kernel_rfl) (by intro t ht; rcases mc ht with rfl | ht; exact ⟨by show 10 ≠ 9; decide, fun h => absurd (show 7 = 8 from h) (by decide)⟩; rcases mc ht with rfl | ht; exact ⟨by show 11 ≠ 9; decide, fun _ => by cases hh : L 11 with | false => rfl | true => have := hcl 11 (by show 11 < 12; decide) hh 9 (by decide); rw [hL] at this; cases this⟩; cases ht) (by intro p hp; rcases mc hp with rfl | hp; exact ⟨⟨fun h => absurd (show 8 = 9 from h) (by decide), fun h => absurd (show 7 = 8 from h) (by decide)⟩, fun h => absurd (show 8 = 9 from h) (by decide)⟩; rcases mc hp with rfl | hp; exact ⟨⟨fun _ => rfl, fun _ => rfl⟩, fun _ q hq hne hLq => (by rcases mc hq with rfl | hq; (obtain ⟨g9, cs9, hx9, _, hr9, _⟩ := hJ.slot 8 (by show 8 < 12; decide) hLq; have hx9 : fx 7 = _ := hx9; show _ ≠ fx 7; rw [hx9]; intro e9; injection e9 with e9; injection e9 with e9; injection e9 with e9; exact absurd e9 (Nat.ne_of_gt hr9.lt)); rcases mc hq with rfl | hq; exact absurd rfl hne; cases hq)⟩; cases hp) ((Below.refl _ _).alloc (Nat.le_refl _) _) ⟨w'.heap.size, _, rfl, hJ.size, RowAt.new _ _ _, NoW.two _ _ _ _, rfl⟩ hg0⟩
      · intro L fx w' hJ hL hp hcl;have e8 := hJ.slot 8 (by show 8 < 12; decide) (hp 8 (by decide));have e3 := hJ.pt 3 17 (.agg #[.bool pu.1, .slice pu.2.1 pu.2.2.1 pu.2.2.2]) rfl rfl rfl (hp 3 (by decide));rw [e3] at hJ ⊢; clear e3;obtain ⟨g, cs, hx, hgB, hr0, hn0, hl0⟩ := e8;obtain ⟨z0, z1, rfl⟩ : ∃ z0 z1, cs = [z0, z1] := list2 hl0;have hf0 := RowAt.free hr0 0;have hc0 := RowAt.cell hr0 0;have hf1 := RowAt.free hr0 1;have hc1 := RowAt.cell hr0 1;try dsimp only at hf0 hc0 hf1 hc1
        have hx1 := hx;rw [patchX (x := (updX fx 17 (.agg #[.bool pu.1, .slice pu.2.1 pu.2.2.1 pu.2.2.2]))) (d := 7) hx] at hJ ⊢;refine wps rfl fun K hK => ?_;go_simp;exact hK _ _ ⟨_, by kernel_rfl, hJ.storeNew (us := [.bool pu.1, .slice pu.2.1 pu.2.2.1 pu.2.2.2]) 10 7 _ _ (by show 10 < 12; decide) rfl mm0 (by intro t ht h; rcases mc ht with rfl | ht; rfl; rcases mc ht with rfl | ht; exact absurd (show 11 = 10 from h) (by decide); cases ht) (by intro t ht hne hLt; rcases mc ht with rfl | ht; exact absurd rfl hne; rcases mc ht with rfl | ht; exact hJ.apart (9, 8) mm1 (8, 7) mm0 (by show 9 ≠ 8; decide) (hcl 11 (by show 11 < 12; decide) hLt 9 (by decide)) (hp 8 (by decide)); cases ht) (by kernel_rfl) (by kernel_rfl) (by decide) (by rfl) hgB hr0 hn0 rfl (NoW.two _ _ _ _) rfl (by omega)⟩
      · intro L fx w' hJ hL hp hcl;have e9 := hJ.slot 9 (by show 9 < 12; decide) (hp 9 (by decide));have e7 := hJ.pt 7 21 (.agg #[.bool pv.1, .slice pv.2.1 pv.2.2.1 pv.2.2.2]) rfl rfl rfl (hp 7 (by decide));rw [e7] at hJ ⊢; clear e7;obtain ⟨g, cs, hx, hgB, hr0, hn0, hl0⟩ := e9;obtain ⟨z0, z1, rfl⟩ : ∃ z0 z1, cs = [z0, z1] := list2 hl0;have hf0 := RowAt.free hr0 0;have hc0 := RowAt.cell hr0 0;have hf1 := RowAt.free hr0 1;have hc1 := RowAt.cell hr0 1;try dsimp only at hf0 hc0 hf1 hc1
        have hx1 := hx;rw [patchX (x := (updX fx 21 (.agg #[.bool pv.1, .slice pv.2.1 pv.2.2.1 pv.2.2.2]))) (d := 8) hx] at hJ ⊢;refine wps rfl fun K hK => ?_;go_simp;exact hK _ _ ⟨_, by kernel_rfl, hJ.storeNew (us := [.bool pv.1, .slice pv.2.1 pv.2.2.1 pv.2.2.2]) 11 8 _ _ (by show 11 < 12; decide) rfl mm1 (by intro t ht h; rcases mc ht with rfl | ht; exact absurd (show 10 = 11 from h) (by decide); rcases mc ht with rfl | ht; rfl; cases ht) (by intro t ht hne hLt; rcases mc ht with rfl | ht; exact hJ.apart (8, 7) mm0 (9, 8) mm1 (by show 8 ≠ 9; decide) (hcl 10 (by show 10 < 12; decide) hLt 8 (by decide)) (hp 9 (by decide)); rcases mc ht with rfl | ht; exact absurd rfl hne; cases ht) (by kernel_rfl) (by kernel_rfl) (by decide) (by rfl) hgB hr0 hn0 rfl (NoW.two _ _ _ _) rfl (by omega)⟩
    · intro L x' w3 hL hJ;have hfr : Below wr.drew.heap.size wr.drew w3 := hJ.fr;obtain ⟨g7, cs7, hx7, hg7, hr7, hcs7⟩ := hJ.new _ mm0 (hL 10 (by show 10 < 12; decide));obtain ⟨g8, cs8, hx8, hg8, hr8, hcs8⟩ := hJ.new _ mm1 (hL 11 (by show 11 < 12; decide));obtain rfl : cs7 = _ := hcs7;obtain rfl : cs8 = _ := hcs8;have hx7 : x' 7 = _ := hx7;have hx8 : x' 8 = _ := hx8;rw [patchX (x := x') (d := 7) hx7];rw [patchX (x := updX x' 7 (.pointer (some ⟨g7, 0, none⟩))) (d := 8) (v := .pointer (some ⟨g8, 0, none⟩)) hx8];have hg7 : wr.heap.size <= g7 := hg7;have hg8 : wr.heap.size <= g8 := hg8;have RG : Hid (RowAt w3 g7 44 [.bool pu.1, .slice pu.2.1 pu.2.2.1 pu.2.2.2]) := Lib.hid hr7;have RH : Hid (RowAt w3 g8 44 [.bool pv.1, .slice pv.2.1 pv.2.2.1 pv.2.2.2]) := Lib.hid hr8;clear hJ hL hx7 hx8 hr7 hr8 cu0 cu1 cv0 cv1;simp only [pN, Nat.reduceEqDiff, ↓reduceIte];go_wp2;have X3 := Lib.hid (RowN.below (w := wr.drew) hX.out hfr);have Y3 := Lib.hid (RowN.below (w := wr.drew) hY.out hfr);have R3 := Lib.hid (RowAt.below (w := wr.drew) hR.out hfr hR.out.lt);have A3 := Lib.hid (IntAt.below (w := wr.drew) hI.out.1 hfr);have B3 := Lib.hid (IntAt.below (w := wr.drew) hI.out.2.1 hfr);have D3 := Lib.hid (IntAt.below (w := wr.drew) hI.out.2.2.1 hfr);have E3 := Lib.hid (IntAt.below (w := wr.drew) hI.out.2.2.2 hfr);have U3 := Lib.hid (IntAt.below (w := wr.drew) Hnu.out hfr);have V3 := Lib.hid (IntAt.below (w := wr.drew) Hnv.out hfr);have C3 := Lib.hid (hC.out.drew.below hfr);have hs3 := hfr.size;have hs3' : wr.drew.heap.size = wr.heap.size := rfl;have hg7' := RG.out.lt;have hg8' := RH.out.lt;clear hX hY hR hI hC Hnu Hnv hfr;have hwb : wlen b.natAbs <= LA := HB.out.wlen;have hwd : wlen d.natAbs <= LA := HD.out.wlen;refine wp_region_K ⟨13, fun q_ => [22, 23, 24, 25, 26, 27, 28, 29, 30, 31, 32, 33, 34].getD q_ 0,
       fun q_ => [.val (.slice (some ⟨bx, 0, none⟩) xs.length cx), .val (.int .i64 (m : Int)), .val (.pointer (some ⟨w.heap.size, 0, none⟩)), .val (.pointer (some ⟨w.heap.size, 0, none⟩)), .val (.agg #[.bool p.1, .slice p.2.1 p.2.2.1 p.2.2.2]), .val (.agg #[.bool pu.1, .slice pu.2.1 pu.2.2.1 pu.2.2.2]), .val (.pointer (some ⟨w.heap.size, 0, none⟩)), .val (.pointer (some ⟨w.heap.size, 2, none⟩)), .val (.agg #[.bool q.1, .slice q.2.1 q.2.2.1 q.2.2.2]), .val (.agg #[.bool pv.1, .slice pv.2.1 pv.2.2.1 pv.2.2.2]), .int 0 (b * ys[m]), .int 0 (a * xs[m] + b * ys[m]), .val (.pointer (some ⟨bx, m * 2, none⟩))].getD q_ .any,
       [],
       [(.agg #[.bool p.1, .slice p.2.1 p.2.2.1 p.2.2.2], .at_ LA a), (.agg #[.bool q.1, .slice q.2.1 q.2.2.1 q.2.2.2], .at_ LA b), (.agg #[.bool pu.1, .slice pu.2.1 pu.2.2.1 pu.2.2.2], .at_ LB xs[m]), (.agg #[.bool pv.1, .slice pv.2.1 pv.2.2.1 pv.2.2.2], .at_ LB ys[m])],
       [(w.heap.size, 199, [.bool p.1, .slice p.2.1 p.2.2.1 p.2.2.2, .bool q.1, .slice q.2.1 q.2.2.1 q.2.2.2, .bool r.1, .slice r.2.1 r.2.2.1 r.2.2.2, .bool s.1, .slice s.2.1 s.2.2.1 s.2.2.2]), (g7, 44, [.bool pu.1, .slice pu.2.1 pu.2.2.1 pu.2.2.2]), (g8, 44, [.bool pv.1, .slice pv.2.1 pv.2.2.1 pv.2.2.2])],
       [], [], []⟩ [22, 23, 24, 25, 26, 27, 28, 29, 30, 31, 32, 33, 34] (w3.heap.size) (by kernel_rfl) (by kernel_rfl) (by kernel_rfl) (by kernel_rfl) (by kernel_rfl) ?_ ?_ ?_ ?_ ?_ ?_
      · exact allq (A3.out) (allq (B3.out) (allq (U3.out) (allq (V3.out) allz)))
      · exact allq (⟨R3.out, (R3.out).lt, allz⟩) (allq (⟨RG.out, (RG.out).lt, allz⟩) (allq (⟨RH.out, (RH.out).lt, allz⟩) allz))
      · exact allz
      · exact allz
      · refine allc ?_ (allc ?_ (allc ?_ (allc ?_ (allc ?_ (allc ?_ (allc ?_ (allc ?_ (allc ?_ (allc ?_ (allc ?_ (allc ?_ (allc ?_ alln))))))))))));any_goals (first | (intro L fx w' hJ hL hp hcl; have _ := hp0 hp (by decide +kernel); refine wps rfl fun K hK => ?_; go_simp; exact hJ.q hK (by kernel_rfl) rfl) | fail)
        · intro L fx w' hJ hL hp hcl;have e2 := hJ.pt 2 24 (.pointer (some ⟨w.heap.size, 0, none⟩)) rfl rfl rfl (hp 2 (by decide));rw [e2] at hJ ⊢; clear e2;refine wps rfl fun K hK => ?_;go_simp;exact hJ.q hK (by kernel_rfl) rfl
        · intro L fx w' hJ hL hp hcl;have e3 := hJ.pt 3 25 (.pointer (some ⟨w.heap.size, 0, none⟩)) rfl rfl rfl (hp 3 (by decide));rw [e3] at hJ ⊢; clear e3;refine wps rfl fun K hK => ?_;have rw0 := (hJ.rows _ mm0).1;have cl0 : w'.cell? ⟨w.heap.size, 0, none⟩ = some (.bool p.1) := rw0.cell 0;have cl1 : w'.cell? ⟨w.heap.size, 1, none⟩ = some (.slice p.2.1 p.2.2.1 p.2.2.2) := rw0.cell 1;go_simp;exact hJ.q hK (by kernel_rfl) rfl
        · intro L fx w' hJ hL hp hcl;refine wps rfl fun K hK => ?_;have rw0 := (hJ.rows _ mm1).1;have cl0 : w'.cell? ⟨g7, 0, none⟩ = some (.bool pu.1) := rw0.cell 0;have cl1 : w'.cell? ⟨g7, 1, none⟩ = some (.slice pu.2.1 pu.2.2.1 pu.2.2.2) := rw0.cell 1;go_simp;exact hJ.q hK (by kernel_rfl) rfl
        · intro L fx w' hJ hL hp hcl;have e6 := hJ.pt 6 28 (.pointer (some ⟨w.heap.size, 0, none⟩)) rfl rfl rfl (hp 6 (by decide));rw [e6] at hJ ⊢; clear e6;refine wps rfl fun K hK => ?_;go_simp;exact hJ.q hK (by kernel_rfl) rfl
        · intro L fx w' hJ hL hp hcl;have e7 := hJ.pt 7 29 (.pointer (some ⟨w.heap.size, 2, none⟩)) rfl rfl rfl (hp 7 (by decide));rw [e7] at hJ ⊢; clear e7;refine wps rfl fun K hK => ?_;have rw0 := (hJ.rows _ mm0).1;have cl0 : w'.cell? ⟨w.heap.size, 2, none⟩ = some (.bool q.1) := rw0.cell 2;have cl1 : w'.cell? ⟨w.heap.size, 3, none⟩ = some (.slice q.2.1 q.2.2.1 q.2.2.2) := rw0.cell 3;go_simp;exact hJ.q hK (by kernel_rfl) rfl
        · intro L fx w' hJ hL hp hcl;refine wps rfl fun K hK => ?_;have rw0 := (hJ.rows _ mm2).1;have cl0 : w'.cell? ⟨g8, 0, none⟩ = some (.bool pv.1) := rw0.cell 0;have cl1 : w'.cell? ⟨g8, 1, none⟩ = some (.slice pv.2.1 pv.2.2.1 pv.2.2.2) := rw0.cell 1;go_simp;exact hJ.q hK (by kernel_rfl) rfl
        · intro L fx w' hJ hL hp hcl;have e8 := hJ.pt 8 30 (.agg #[.bool q.1, .slice q.2.1 q.2.2.1 q.2.2.2]) rfl rfl rfl (hp 8 (by decide));rw [e8] at hJ ⊢; clear e8;have e9 := hJ.pt 9 31 (.agg #[.bool pv.1, .slice pv.2.1 pv.2.2.1 pv.2.2.2]) rfl rfl rfl (hp 9 (by decide));rw [e9] at hJ ⊢; clear e9;refine wps rfl fun K hK => ?_;go_simp;go_at_call 29;refine (IMul_c _ _ b ys[m] LA LB _ (show IntAt w' (LA) (.agg #[.bool q.1, .slice q.2.1 q.2.2.1 q.2.2.2]) (b) from hJ.base _ mm1) (show IntAt w' (LB) (.agg #[.bool pv.1, .slice pv.2.1 pv.2.2.1 pv.2.2.2]) (ys[m]) from hJ.base _ mm3) hLab).mono ?_;rintro e w4 ⟨⟨v5, rfl, h5⟩, hb4⟩;try dsimp only
          exact hK _ _ ⟨_, by kernel_rfl, hJ.gC 10 rfl (by kernel_rfl) hb4 (OwnI.mono h5 (Nat.zero_le _)) (by omega)⟩
        · intro L fx w' hJ hL hp hcl;have e10 := hJ.slot 10 (by show 10 < 13; decide) (hp 10 (by decide));have e4 := hJ.pt 4 26 (.agg #[.bool p.1, .slice p.2.1 p.2.2.1 p.2.2.2]) rfl rfl rfl (hp 4 (by decide));rw [e4] at hJ ⊢; clear e4;have e5 := hJ.pt 5 27 (.agg #[.bool pu.1, .slice pu.2.1 pu.2.2.1 pu.2.2.2]) rfl rfl rfl (hp 5 (by decide));rw [e5] at hJ ⊢; clear e5;refine wps rfl fun K hK => ?_;go_simp;go_at_call 181;refine (IMulAdd_c _ _ _ a xs[m] (b * ys[m]) LA LB _ (show IntAt w' (LA) (.agg #[.bool p.1, .slice p.2.1 p.2.2.1 p.2.2.2]) (a) from hJ.base _ mm0) (show IntAt w' (LB) (.agg #[.bool pu.1, .slice pu.2.1 pu.2.2.1 pu.2.2.2]) (xs[m]) from hJ.base _ mm2) (OwnI.int (show OwnI w' _ (fx 32) _ from e10) (by rw [Int.natAbs_mul]; exact Nat.le_trans (wlen_mul _ _) (Nat.le_trans (Nat.add_le_add hwb hyw) hLab))) hLab).mono ?_;rintro e w4 ⟨⟨v5, rfl, h5⟩, hb4⟩;try dsimp only
          exact hK _ _ ⟨_, by kernel_rfl, hJ.gC 11 rfl (by kernel_rfl) hb4 (OwnI.mono h5 (Nat.zero_le _)) (by omega)⟩
        · intro L fx w' hJ hL hp hcl;have e0 := hJ.pt 0 22 (.slice (some ⟨bx, 0, none⟩) xs.length cx) rfl rfl rfl (hp 0 (by decide));rw [e0] at hJ ⊢; clear e0;have e1 := hJ.pt 1 23 (.int .i64 (m : Int)) rfl rfl rfl (hp 1 (by decide));rw [e1] at hJ ⊢; clear e1;refine wps rfl fun K hK => ?_;go_simp;exact hJ.q hK (by kernel_rfl) rfl
      · intro L x' w3b hL hJ;have hfr : Below w3.drew.heap.size w3.drew w3b := hJ.fr;have e11 : OwnI w3b 0 (x' 33) (a * xs[m] + b * ys[m]) := hJ.slot 11 (by show 11 < 13; decide) (hL 11 (by show 11 < 13; decide));have e12 : x' 34 = .pointer (some ⟨bx, m * 2, none⟩) := hJ.slot 12 (by show 12 < 13; decide) (hL 12 (by show 12 < 13; decide));obtain ⟨pz3, hpz⟩ := NumAt.parts e11.num;rw [hpz] at e11;unfold av at hpz;rw [patchX (x := x') (d := 33) hpz];rw [patchX (x := updX x' 33 (.agg #[.bool pz3.1, .slice pz3.2.1 pz3.2.2.1 pz3.2.2.2])) (d := 34) (v := .pointer (some ⟨bx, m * 2, none⟩)) e12];clear hJ hL;have X4 := Lib.hid (RowN.below (w := w3.drew) X3.out hfr);have Y4 := Lib.hid (RowN.below (w := w3.drew) Y3.out hfr);have R4 := Lib.hid (RowAt.below (w := w3.drew) R3.out hfr R3.out.lt);have RG := Lib.hid (RowAt.below (w := w3.drew) RG.out hfr RG.out.lt);have RH := Lib.hid (RowAt.below (w := w3.drew) RH.out hfr RH.out.lt);have A4 := Lib.hid (IntAt.below (w := w3.drew) A3.out hfr);have B4 := Lib.hid (IntAt.below (w := w3.drew) B3.out hfr);have D4 := Lib.hid (IntAt.below (w := w3.drew) D3.out hfr);have E4 := Lib.hid (IntAt.below (w := w3.drew) E3.out hfr);have U4 := Lib.hid (IntAt.below (w := w3.drew) U3.out hfr);have V4 := Lib.hid (IntAt.below (w := w3.drew) V3.out hfr);have C4 := Lib.hid (C3.out.drew.below hfr);have hsz4 := hfr.size;have hsz4' : w3.drew.heap.size = w3.heap.size := rfl;clear X3 Y3 R3 A3 B3 D3 E3 U3 V3 C3;obtain ⟨pq, q0, q1, _⟩ := X4.out.get hmx;have q2 := X4.out.free (m * 2);have q3 := X4.out.free (m * 2 + 1);refine wps rfl fun K hK => ?_;go_simp;refine hK _ _ ⟨⟨updX (updX x' 33 (.agg #[.bool pz3.1, .slice pz3.2.1 pz3.2.2.1 pz3.2.2.2])) 34 (.pointer (some ⟨bx, m * 2, none⟩)), by kernel_rfl⟩, ?_⟩;clear hK q0 q1 q2 q3;have ZX := Lib.hid (X4.out.set m e11.num);have ZY := Lib.hid (X4.out.keepRow Y4.out (fun e => hne e.symm) m pz3);have ZR := Lib.hid ((R4.out.other (p := ⟨bx, m * 2, none⟩) (by show w.heap.size ≠ bx; omega) (.bool pz3.1)).other (p := ⟨bx, m * 2 + 1, none⟩) (by show w.heap.size ≠ bx; omega) (.slice pz3.2.1 pz3.2.2.1 pz3.2.2.2));have Z7 := Lib.hid ((RG.out.other (p := ⟨bx, m * 2, none⟩) (by show g7 ≠ bx; omega) (.bool pz3.1)).other (p := ⟨bx, m * 2 + 1, none⟩) (by show g7 ≠ bx; omega) (.slice pz3.2.1 pz3.2.2.1 pz3.2.2.2));have Z8 := Lib.hid ((RH.out.other (p := ⟨bx, m * 2, none⟩) (by show g8 ≠ bx; omega) (.bool pz3.1)).other (p := ⟨bx, m * 2 + 1, none⟩) (by show g8 ≠ bx; omega) (.slice pz3.2.1 pz3.2.2.1 pz3.2.2.2));have ZA := Lib.hid (X4.out.keepInt A4.out m pz3);have ZB := Lib.hid (X4.out.keepInt B4.out m pz3);have ZD := Lib.hid (X4.out.keepInt D4.out m pz3);have ZE := Lib.hid (X4.out.keepInt E4.out m pz3);have ZU := Lib.hid (X4.out.keepInt U4.out m pz3);have ZV := Lib.hid (X4.out.keepInt V4.out m pz3);have ZC := Lib.hid ((C4.out.set (p := ⟨bx, m * 2, none⟩) (Or.inl rfl) (.bool pz3.1)).set (p := ⟨bx, m * 2 + 1, none⟩) (Or.inl rfl) (.slice pz3.2.1 pz3.2.2.1 pz3.2.2.2));clear X4 Y4 R4 RG RH A4 B4 D4 E4 U4 V4 C4 e11 e12;have hszg : ((w3b.setCell ⟨bx, m * 2, none⟩ (.bool pz3.1)).setCell ⟨bx, m * 2 + 1, none⟩ (.slice pz3.2.1 pz3.2.2.1 pz3.2.2.2)).heap.size = w3b.heap.size := by simp
        generalize ((w3b.setCell ⟨bx, m * 2, none⟩ (.bool pz3.1)).setCell ⟨bx, m * 2 + 1, none⟩ (.slice pz3.2.1 pz3.2.2.1 pz3.2.2.2)) = w5 at *;have X6 := ZX;have Y6 := ZY;have R6 := ZR;have RG := Z7;have RH := Z8;have A6 := ZA;have B6 := ZB;have D6 := ZD;have E6 := ZE;have U6 := ZU;have V6 := ZV;have C6 := ZC;clear ZX ZY ZR Z7 Z8 ZA ZB ZD ZE ZU ZV ZC;go_wp2;refine wp_region_K ⟨13, fun q_ => [35, 36, 37, 38, 39, 40, 41, 42, 43, 44, 45, 46, 47].getD q_ 0,
         fun q_ => [.val (.slice (some ⟨by_, 0, none⟩) ys.length cy), .val (.int .i64 (m : Int)), .val (.pointer (some ⟨w.heap.size, 4, none⟩)), .val (.pointer (some ⟨w.heap.size, 4, none⟩)), .val (.agg #[.bool r.1, .slice r.2.1 r.2.2.1 r.2.2.2]), .val (.agg #[.bool pu.1, .slice pu.2.1 pu.2.2.1 pu.2.2.2]), .val (.pointer (some ⟨w.heap.size, 4, none⟩)), .val (.pointer (some ⟨w.heap.size, 6, none⟩)), .val (.agg #[.bool s.1, .slice s.2.1 s.2.2.1 s.2.2.2]), .val (.agg #[.bool pv.1, .slice pv.2.1 pv.2.2.1 pv.2.2.2]), .int 0 (d * ys[m]), .int 0 (c * xs[m] + d * ys[m]), .val (.pointer (some ⟨by_, m * 2, none⟩))].getD q_ .any,
         [],
         [(.agg #[.bool r.1, .slice r.2.1 r.2.2.1 r.2.2.2], .at_ LA c), (.agg #[.bool s.1, .slice s.2.1 s.2.2.1 s.2.2.2], .at_ LA d), (.agg #[.bool pu.1, .slice pu.2.1 pu.2.2.1 pu.2.2.2], .at_ LB xs[m]), (.agg #[.bool pv.1, .slice pv.2.1 pv.2.2.1 pv.2.2.2], .at_ LB ys[m])],
         [(w.heap.size, 199, [.bool p.1, .slice p.2.1 p.2.2.1 p.2.2.2, .bool q.1, .slice q.2.1 q.2.2.1 q.2.2.2, .bool r.1, .slice r.2.1 r.2.2.1 r.2.2.2, .bool s.1, .slice s.2.1 s.2.2.1 s.2.2.2]), (g7, 44, [.bool pu.1, .slice pu.2.1 pu.2.2.1 pu.2.2.2]), (g8, 44, [.bool pv.1, .slice pv.2.1 pv.2.2.1 pv.2.2.2])],
         [], [], []⟩ [35, 36, 37, 38, 39, 40, 41, 42, 43, 44, 45, 46, 47] (w5.heap.size) (by kernel_rfl) (by kernel_rfl) (by kernel_rfl) (by kernel_rfl) (by kernel_rfl) ?_ ?_ ?_ ?_ ?_ ?_
        · exact allq (D6.out) (allq (E6.out) (allq (U6.out) (allq (V6.out) allz)))
        · exact allq (⟨R6.out, (R6.out).lt, allz⟩) (allq (⟨RG.out, (RG.out).lt, allz⟩) (allq (⟨RH.out, (RH.out).lt, allz⟩) allz))
        · exact allz
        · exact allz
        · refine allc ?_ (allc ?_ (allc ?_ (allc ?_ (allc ?_ (allc ?_ (allc ?_ (allc ?_ (allc ?_ (allc ?_ (allc ?_ (allc ?_ (allc ?_ alln))))))))))));any_goals (first | (intro L fx w' hJ hL hp hcl; have _ := hp0 hp (by decide +kernel); refine wps rfl fun K hK => ?_; go_simp; exact hJ.q hK (by kernel_rfl) rfl) | fail)
          · intro L fx w' hJ hL hp hcl;have e2 := hJ.pt 2 37 (.pointer (some ⟨w.heap.size, 4, none⟩)) rfl rfl rfl (hp 2 (by decide));rw [e2] at hJ ⊢; clear e2;refine wps rfl fun K hK => ?_;go_simp;exact hJ.q hK (by kernel_rfl) rfl
          · intro L fx w' hJ hL hp hcl;have e3 := hJ.pt 3 38 (.pointer (some ⟨w.heap.size, 4, none⟩)) rfl rfl rfl (hp 3 (by decide));rw [e3] at hJ ⊢; clear e3;refine wps rfl fun K hK => ?_;have rw0 := (hJ.rows _ mm0).1;have cl0 : w'.cell? ⟨w.heap.size, 4, none⟩ = some (.bool r.1) := rw0.cell 4;have cl1 : w'.cell? ⟨w.heap.size, 5, none⟩ = some (.slice r.2.1 r.2.2.1 r.2.2.2) := rw0.cell 5;go_simp;exact hJ.q hK (by kernel_rfl) rfl
          · intro L fx w' hJ hL hp hcl;refine wps rfl fun K hK => ?_;have rw0 := (hJ.rows _ mm1).1;have cl0 : w'.cell? ⟨g7, 0, none⟩ = some (.bool pu.1) := rw0.cell 0;have cl1 : w'.cell? ⟨g7, 1, none⟩ = some (.slice pu.2.1 pu.2.2.1 pu.2.2.2) := rw0.cell 1;go_simp;exact hJ.q hK (by kernel_rfl) rfl
          · intro L fx w' hJ hL hp hcl;have e6 := hJ.pt 6 41 (.pointer (some ⟨w.heap.size, 4, none⟩)) rfl rfl rfl (hp 6 (by decide));rw [e6] at hJ ⊢; clear e6;refine wps rfl fun K hK => ?_;go_simp;exact hJ.q hK (by kernel_rfl) rfl
          · intro L fx w' hJ hL hp hcl;have e7 := hJ.pt 7 42 (.pointer (some ⟨w.heap.size, 6, none⟩)) rfl rfl rfl (hp 7 (by decide));rw [e7] at hJ ⊢; clear e7;refine wps rfl fun K hK => ?_;have rw0 := (hJ.rows _ mm0).1;have cl0 : w'.cell? ⟨w.heap.size, 6, none⟩ = some (.bool s.1) := rw0.cell 6;have cl1 : w'.cell? ⟨w.heap.size, 7, none⟩ = some (.slice s.2.1 s.2.2.1 s.2.2.2) := rw0.cell 7;go_simp;exact hJ.q hK (by kernel_rfl) rfl
          · intro L fx w' hJ hL hp hcl;refine wps rfl fun K hK => ?_;have rw0 := (hJ.rows _ mm2).1;have cl0 : w'.cell? ⟨g8, 0, none⟩ = some (.bool pv.1) := rw0.cell 0;have cl1 : w'.cell? ⟨g8, 1, none⟩ = some (.slice pv.2.1 pv.2.2.1 pv.2.2.2) := rw0.cell 1;go_simp;exact hJ.q hK (by kernel_rfl) rfl
          · intro L fx w' hJ hL hp hcl;have e8 := hJ.pt 8 43 (.agg #[.bool s.1, .slice s.2.1 s.2.2.1 s.2.2.2]) rfl rfl rfl (hp 8 (by decide));rw [e8] at hJ ⊢; clear e8;have e9 := hJ.pt 9 44 (.agg #[.bool pv.1, .slice pv.2.1 pv.2.2.1 pv.2.2.2]) rfl rfl rfl (hp 9 (by decide));rw [e9] at hJ ⊢; clear e9;refine wps rfl fun K hK => ?_;go_simp;go_at_call 29;refine (IMul_c _ _ d ys[m] LA LB _ (show IntAt w' (LA) (.agg #[.bool s.1, .slice s.2.1 s.2.2.1 s.2.2.2]) (d) from hJ.base _ mm1) (show IntAt w' (LB) (.agg #[.bool pv.1, .slice pv.2.1 pv.2.2.1 pv.2.2.2]) (ys[m]) from hJ.base _ mm3) hLab).mono ?_;rintro e w4 ⟨⟨v5, rfl, h5⟩, hb4⟩;try dsimp only
            exact hK _ _ ⟨_, by kernel_rfl, hJ.gC 10 rfl (by kernel_rfl) hb4 (OwnI.mono h5 (Nat.zero_le _)) (by omega)⟩
          · intro L fx w' hJ hL hp hcl;have e10 := hJ.slot 10 (by show 10 < 13; decide) (hp 10 (by decide));have e4 := hJ.pt 4 39 (.agg #[.bool r.1, .slice r.2.1 r.2.2.1 r.2.2.2]) rfl rfl rfl (hp 4 (by decide));rw [e4] at hJ ⊢; clear e4;have e5 := hJ.pt 5 40 (.agg #[.bool pu.1, .slice pu.2.1 pu.2.2.1 pu.2.2.2]) rfl rfl rfl (hp 5 (by decide));rw [e5] at hJ ⊢; clear e5;refine wps rfl fun K hK => ?_;go_simp;go_at_call 181;refine (IMulAdd_c _ _ _ c xs[m] (d * ys[m]) LA LB _ (show IntAt w' (LA) (.agg #[.bool r.1, .slice r.2.1 r.2.2.1 r.2.2.2]) (c) from hJ.base _ mm0) (show IntAt w' (LB) (.agg #[.bool pu.1, .slice pu.2.1 pu.2.2.1 pu.2.2.2]) (xs[m]) from hJ.base _ mm2) (OwnI.int (show OwnI w' _ (fx 45) _ from e10) (by rw [Int.natAbs_mul]; exact Nat.le_trans (wlen_mul _ _) (Nat.le_trans (Nat.add_le_add hwd hyw) hLab))) hLab).mono ?_;rintro e w4 ⟨⟨v5, rfl, h5⟩, hb4⟩;try dsimp only
            exact hK _ _ ⟨_, by kernel_rfl, hJ.gC 11 rfl (by kernel_rfl) hb4 (OwnI.mono h5 (Nat.zero_le _)) (by omega)⟩
          · intro L fx w' hJ hL hp hcl;have e0 := hJ.pt 0 35 (.slice (some ⟨by_, 0, none⟩) ys.length cy) rfl rfl rfl (hp 0 (by decide));rw [e0] at hJ ⊢; clear e0;have e1 := hJ.pt 1 36 (.int .i64 (m : Int)) rfl rfl rfl (hp 1 (by decide));rw [e1] at hJ ⊢; clear e1;refine wps rfl fun K hK => ?_;go_simp;exact hJ.q hK (by kernel_rfl) rfl
        · intro L x' w5b hL hJ;have hfr : Below w5.drew.heap.size w5.drew w5b := hJ.fr;have e11 : OwnI w5b 0 (x' 46) (c * xs[m] + d * ys[m]) := hJ.slot 11 (by show 11 < 13; decide) (hL 11 (by show 11 < 13; decide));have e12 : x' 47 = .pointer (some ⟨by_, m * 2, none⟩) := hJ.slot 12 (by show 12 < 13; decide) (hL 12 (by show 12 < 13; decide));obtain ⟨pz6, hpz⟩ := NumAt.parts e11.num;rw [hpz] at e11;unfold av at hpz;rw [patchX (x := x') (d := 46) hpz];rw [patchX (x := updX x' 46 (.agg #[.bool pz6.1, .slice pz6.2.1 pz6.2.2.1 pz6.2.2.2])) (d := 47) (v := .pointer (some ⟨by_, m * 2, none⟩)) e12];clear hJ hL;have X7 := Lib.hid (RowN.below (w := w5.drew) X6.out hfr);have Y7 := Lib.hid (RowN.below (w := w5.drew) Y6.out hfr);have R7 := Lib.hid (RowAt.below (w := w5.drew) R6.out hfr R6.out.lt);have RG := Lib.hid (RowAt.below (w := w5.drew) RG.out hfr RG.out.lt);have RH := Lib.hid (RowAt.below (w := w5.drew) RH.out hfr RH.out.lt);have A7 := Lib.hid (IntAt.below (w := w5.drew) A6.out hfr);have B7 := Lib.hid (IntAt.below (w := w5.drew) B6.out hfr);have D7 := Lib.hid (IntAt.below (w := w5.drew) D6.out hfr);have E7 := Lib.hid (IntAt.below (w := w5.drew) E6.out hfr);have U7 := Lib.hid (IntAt.below (w := w5.drew) U6.out hfr);have V7 := Lib.hid (IntAt.below (w := w5.drew) V6.out hfr);have C7 := Lib.hid (C6.out.drew.below hfr);have hsz7 := hfr.size;have hsz7' : w5.drew.heap.size = w5.heap.size := rfl;clear X6 Y6 R6 A6 B6 D6 E6 U6 V6 C6;obtain ⟨pq, q0, q1, _⟩ := Y7.out.get hmv;have q2 := Y7.out.free (m * 2);have q3 := Y7.out.free (m * 2 + 1);refine wps rfl fun K hK => ?_;go_simp;refine hK _ _ ⟨⟨updX (updX x' 46 (.agg #[.bool pz6.1, .slice pz6.2.1 pz6.2.2.1 pz6.2.2.2])) 47 (.pointer (some ⟨by_, m * 2, none⟩)), by kernel_rfl⟩, ?_⟩;clear hK q0 q1 q2 q3;have ZY := Lib.hid (Y7.out.set m e11.num);have ZX := Lib.hid (Y7.out.keepRow X7.out (fun e => hne e) m pz6);have ZR := Lib.hid ((R7.out.other (p := ⟨by_, m * 2, none⟩) (by show w.heap.size ≠ by_; omega) (.bool pz6.1)).other (p := ⟨by_, m * 2 + 1, none⟩) (by show w.heap.size ≠ by_; omega) (.slice pz6.2.1 pz6.2.2.1 pz6.2.2.2));have Z7 := Lib.hid ((RG.out.other (p := ⟨by_, m * 2, none⟩) (by show g7 ≠ by_; omega) (.bool pz6.1)).other (p := ⟨by_, m * 2 + 1, none⟩) (by show g7 ≠ by_; omega) (.slice pz6.2.1 pz6.2.2.1 pz6.2.2.2));have Z8 := Lib.hid ((RH.out.other (p := ⟨by_, m * 2, none⟩) (by show g8 ≠ by_; omega) (.bool pz6.1)).other (p := ⟨by_, m * 2 + 1, none⟩) (by show g8 ≠ by_; omega) (.slice pz6.2.1 pz6.2.2.1 pz6.2.2.2));have ZA := Lib.hid (Y7.out.keepInt A7.out m pz6);have ZB := Lib.hid (Y7.out.keepInt B7.out m pz6);have ZD := Lib.hid (Y7.out.keepInt D7.out m pz6);have ZE := Lib.hid (Y7.out.keepInt E7.out m pz6);have ZU := Lib.hid (Y7.out.keepInt U7.out m pz6);have ZV := Lib.hid (Y7.out.keepInt V7.out m pz6);have ZC := Lib.hid ((C7.out.set (p := ⟨by_, m * 2, none⟩) (Or.inr rfl) (.bool pz6.1)).set (p := ⟨by_, m * 2 + 1, none⟩) (Or.inr rfl) (.slice pz6.2.1 pz6.2.2.1 pz6.2.2.2));clear X7 Y7 R7 RG RH A7 B7 D7 E7 U7 V7 C7 e11 e12;go_wp2;go_roundw
          case rel =>
           exact ⟨m + 1, _, _, by omega, by go_num, HU.out.next hml hmy, HV.out.next hml hmy, ZX, ZY, ZR, Lib.hid ⟨ZA.out, ZB.out, ZD.out, ZE.out⟩, ZC⟩
          case measure => simp [intOf]; omega
  · obtain rfl : m = xs.length := by omega
    have he := HU.out.all Hl.out rfl;have he2 := HV.out.all Hl.out Hl.out;have HE := Lib.hid he;have HE2 := Lib.hid he2;clear he he2;go_wp2;refine bodyPost_end (results_none (by kernel_rfl) _ _ _) rfl ?_;rw [<- HE.out, <- HE2.out];exact ⟨rfl, hX.out, hY.out, hC.out⟩
structure Hd where
 blk : Nat
 cap : Nat
 xs : List Int
def Hd.hdr (h : Hd) : Value := .slice (some ⟨h.blk, 0, none⟩) h.xs.length h.cap
theorem NoW_hdrs : ∀ R : List Hd, NoW (R.map Hd.hdr)
 | [] => NoW.nil
 | h :: R => NoW.slice (NoW_hdrs R)
def RowP (w : World) (b : Nat) (t : TypeId) (cs : List Value) : Prop := ∃ tl, NoW tl /\ RowAt w b t (cs ++ tl)
theorem RowAt.pre {w : World} {b : Nat} {t : TypeId} {cs : List Value} (h : RowAt w b t cs) : RowP w b t cs := ⟨[], NoW.nil, by rw [List.append_nil]; exact h⟩
theorem RowP.lt {w : World} {b : Nat} {t : TypeId} {cs : List Value} (h : RowP w b t cs) : b < w.heap.size := by obtain ⟨_, _, h⟩ := h; exact h.lt
theorem RowP.free {w : World} {b : Nat} {t : TypeId} {cs : List Value} (h : RowP w b t cs) (i : Nat) : w.frozen? ⟨b, i, none⟩ = false := by obtain ⟨_, _, h⟩ := h; exact h.free i
theorem RowP.below {w w' : World} {b B : Nat} {t : TypeId} {cs : List Value} (h : RowP w b t cs) (hb : Below B w w') (hB : b < B) : RowP w' b t cs := by obtain ⟨tl, n, h⟩ := h; exact ⟨tl, n, h.below hb hB⟩
theorem RowP.other {w : World} {b : Nat} {t : TypeId} {cs : List Value} (h : RowP w b t cs) {p : Addr} (hp : b ≠ p.block) (v : Value) : RowP (w.setCell p v) b t cs := by obtain ⟨tl, n, h⟩ := h; exact ⟨tl, n, h.other hp v⟩
theorem RowP.set {w : World} {b : Nat} {t : TypeId} {cs : List Value} (h : RowP w b t cs) {i : Nat} (hi : i < cs.length) (v : Value) : RowP (w.setCell ⟨b, i, none⟩ v) b t (cs.set i v) := by
 obtain ⟨tl, n, h⟩ := h;have := h.set i v;rw [List.set_append_left _ _ hi] at this;exact ⟨tl, n, this⟩
theorem RowP.cell {w : World} {b : Nat} {t : TypeId} {cs : List Value} (h : RowP w b t cs) {i : Nat} (hi : i < cs.length) : w.cell? ⟨b, i, none⟩ = cs[i]? := by
 obtain ⟨tl, n, h⟩ := h; rw [h.cell, List.getElem?_append_left hi]
theorem RowP.chg {S : Nat -> Prop} {w w' : World} {b : Nat} {t : TypeId} {cs : List Value} (h : RowP w b t cs) (hc : Chg S w w') (hb : ¬ S b) : RowP w' b t cs := by obtain ⟨tl, n, h⟩ := h; exact ⟨tl, n, hc.row h hb⟩
structure MatN (w : World) (o : Nat) (R : List Hd) : Prop where
 out : RowP w o 22 (R.map Hd.hdr)
 row : ∀ h ∈ R, RowN w h.blk h.xs
 nd : (R.map Hd.blk).Nodup
theorem MatN.below {w w' : World} {o : Nat} {R : List Hd} (h : MatN w o R) (hb : Below w.heap.size w w') : MatN w' o R :=
 ⟨h.out.below hb h.out.lt, fun r hr => (h.row r hr).below hb, h.nd⟩
theorem MatN.ne {w : World} {o : Nat} {R : List Hd} (h : MatN w o R) {r : Hd} (hr : r ∈ R) : r.blk ≠ o := by
 intro e;obtain ⟨ps, tl, nt, hp, _⟩ := h.row r hr;obtain ⟨tl, _, ho⟩ := h.out;unfold RowAt at hp ho;rw [e, ho] at hp;simp only [Option.some.injEq, Obj.cells.injEq] at hp;exact absurd hp.2.1 (by decide)
theorem MatN.hdr {w : World} {o : Nat} {R : List Hd} (h : MatN w o R) {i : Nat} (hi : i < R.length) : w.cell? ⟨o, i, none⟩ = some (R[i]).hdr := by
 rw [h.out.cell (by simpa using hi)]; simp [hi]
theorem MatN.lt {w : World} {o : Nat} {R : List Hd} (h : MatN w o R) : o < w.heap.size := h.out.lt
theorem MatN.setOther {w : World} {o : Nat} {R : List Hd} (h : MatN w o R) {g : Nat} {t : TypeId} {cs : List Value} (hr : RowAt w g t cs) (hn : NoW cs) (ho : o ≠ g) (hb : ∀ r ∈ R, r.blk ≠ g) (i : Nat) (u : Value) : MatN (w.setCell ⟨g, i, none⟩ u) o R :=
 ⟨h.out.other ho u, fun r hr' => (h.row r hr').other (hb r hr') hr hn i u, h.nd⟩
structure TwoS where
 o : Nat
 g : Nat
 g3 : Nat
 cap : Nat
 cs : Nat
 own : Nat -> Prop
 fit : List Hd -> Prop
 rel : List Hd -> List Hd -> Prop
structure LSt where
 lb : Nat
 o : Nat
 sb : Nat
 g : Nat
 cap : Nat
 R : List Hd
 two : Option TwoS
def LSt.rws (S : LSt) (k : Nat) : Prop := k = S.o ∨ ∃ h ∈ S.R, h.blk = k
def LSt.own (S : LSt) (k : Nat) : Prop := S.rws k ∨ ∃ t, S.two = some t /\ t.own k
def LSt.withR (S : LSt) (R : List Hd) : LSt := ⟨S.lb, S.o, S.sb, S.g, S.cap, R, S.two⟩
def LSt.ns (S : LSt) : Nat := match S.two with | none => 1 | some _ => 2
def LSt.cs (S : LSt) : Nat := match S.two with | none => 1 | some t => t.cs
def TwoS.st (t : TwoS) (V : List Hd) : LSt := ⟨0, t.o, 0, t.g, t.cap, V, none⟩
def LSt.hdr (S : LSt) : Value := .slice (some ⟨S.o, 0, none⟩) S.R.length S.cap
def likeF (g : Nat) : List Value := [.func (.func 224) #[] #[.pointer (some ⟨g, 0, none⟩)], .func (.func 225) #[] #[.pointer (some ⟨g, 0, none⟩)], .func (.func 226) #[] #[.pointer (some ⟨g, 0, none⟩)], .func (.func 227) #[] #[.pointer (some ⟨g, 0, none⟩)]]
def agF (g g3 : Nat) : List Value := [.func (.func 224) #[] #[.pointer (some ⟨g, 0, none⟩)], .func (.func 225) #[] #[.pointer (some ⟨g, 0, none⟩)], .func (.func 210) #[] #[.pointer (some ⟨g3, 0, none⟩)], .func (.func 212) #[] #[.pointer (some ⟨g3, 0, none⟩)]]
def LSt.more (S : LSt) : List Value := match S.two with | none => [] | some t => agF t.g t.g3
theorem run_store_fn (P : Program) (w : World) (p : Addr) (f : Fn) (a b : Array Value) (m : Mode) : (store p (.func f a b) m).run P w = stored P w p (.func f a b) m := run_store P w p _ m rfl
attribute [local go_sem] run_store_fn
theorem results_side {fn : Func} {p : Tmp} (h : fn.results = #[.cell p 178]) (tmps : Array Value) (w : World) (g : Nat) (a b c d : Value) (hp : tmps.getD p undef = .pointer (some ⟨g, 0, none⟩)) (hr : RowAt w g 178 [a, b, c, d]) :
 (results fn tmps).run Tryz.prog w = .ok (.agg #[a, b, c, d]) w :=
 results_cell_row h tmps w g 178 #[a, b, c, d] (0, 0) _ hp hr Tryz.underlying178 rfl (by kernel_rfl)
set_option maxRecDepth 100000 in
set_option maxHeartbeats 4000000 in
theorem Like_c (ao : Option Addr) (n cap : Nat) (w : World) :
 Calls Tryz.prog 191 #[.slice ao n cap] w fun e w' => e = .returned (.agg (likeF w.heap.size).toArray) /\ RowAt w' w.heap.size 63 [.slice ao n cap] /\ Below w.heap.size w w' := by
 go_enter Tryz.func191, Tryz.ntmps191;go_wp2;obtain ⟨r1, r2, hb⟩ := two_new w #[.slice ao n cap] (likeF w.heap.size).toArray 63 178;simp only [likeF] at r1 r2 hb;refine bodyPost_ret (results_side (p := 2) (by kernel_rfl) _ _ (w.heap.size + 1) _ _ _ _ rfl r2) rfl ?_;exact ⟨rfl, r1, hb⟩
structure SdAt (w : World) (S : LSt) : Prop where
 box : RowAt w S.g 63 [S.hdr]
 mat : MatN w S.o S.R
theorem SdAt.below {w w' : World} {S : LSt} (h : SdAt w S) (hb : Below w.heap.size w w') : SdAt w' S := ⟨h.box.below hb h.box.lt, h.mat.below hb⟩
theorem SdAt.wordless {w : World} {S : LSt} (h : SdAt w S) : Wordless S.rws w := by
 intro g hg;rcases hg with rfl | ⟨r, hr, rfl⟩
 · obtain ⟨tl, n, ho⟩ := h.mat.out; exact ⟨_, _, ho, NoW.append (NoW_hdrs _) n⟩
 · obtain ⟨ps, tl, nt, hp, _⟩ := h.mat.row r hr;exact ⟨_, _, hp, flat_app nt⟩
structure TwoAt (w : World) (S : LSt) (t : TwoS) (V : List Hd) : Prop where
 sd : SdAt w (t.st V)
 box3 : RowAt w t.g3 63 [(t.st V).hdr]
 rel : t.rel S.R V
 own : ∀ k, t.own k ↔ (t.st V).rws k
 apart : ∀ k, t.own k -> ¬ S.rws k
structure LadAt (w : World) (S : LSt) : Prop where
 lad : RowAt w S.lb 160 [S.hdr, .slice (some ⟨S.sb, 0, none⟩) S.ns S.cs]
 sides : RowP w S.sb 178 (likeF S.g ++ S.more)
 box : RowAt w S.g 63 [S.hdr]
 mat : MatN w S.o S.R
 ext : ∀ t, S.two = some t -> ∃ V, TwoAt w S t V
theorem LadAt.sd {w : World} {S : LSt} (h : LadAt w S) : SdAt w S := ⟨h.box, h.mat⟩
set_option maxRecDepth 100000 in
set_option maxHeartbeats 4000000 in
theorem New_c (o cap : Nat) (R : List Hd) (w : World) (hM : MatN w o R) :
 Calls Tryz.prog 155 #[.slice (some ⟨o, 0, none⟩) R.length cap] w fun e w' => (∃ lb sb g, e = .returned (.pointer (some ⟨lb, 0, none⟩)) /\ LadAt w' ⟨lb, o, sb, g, cap, R, none⟩ /\ w.heap.size <= lb /\ w.heap.size <= sb /\ w.heap.size <= g) /\ Below w.heap.size w w' := by
 have HM := Lib.hid hM;have HM0 := Lib.hid hM; clear hM;go_enter Tryz.func155, Tryz.ntmps155;go_wp2_with fail
 have hb1 : Below w.heap.size w (w.alloc (.cells #[.slice (some ⟨o, 0, none⟩) R.length cap, .slice none 0 0] 160)) := (Below.refl _ _).alloc (Nat.le_refl _) _;have hr1 := RowAt.new w #[.slice (some ⟨o, 0, none⟩) R.length cap, .slice none 0 0] 160;generalize w.alloc (.cells #[.slice (some ⟨o, 0, none⟩) R.length cap, .slice none 0 0] 160) = w1 at *;refine (Like_c _ _ _ _).mono ?_;rintro e w2 ⟨rfl, hbox, hb2⟩;simp only [likeF];have hr2 := hr1.below hb2 hr1.lt;have hM2 := (HM.out.below hb1).below hb2;have hbw : Below w.heap.size w w2 := hb1.trans (hb2.mono hb1.size);have hs1 : w.heap.size < w1.heap.size := hr1.lt;have hs2 : w1.heap.size < w2.heap.size := hbox.lt;have hb3 : Below w2.heap.size w2 (w2.alloc (.cells (likeF w1.heap.size).toArray 178)) := (Below.refl _ _).alloc (Nat.le_refl _) _;have hr3 := RowAt.new w2 (likeF w1.heap.size).toArray 178;have hr4 := hr2.below hb3 hr2.lt;have hbox3 := hbox.below hb3 hbox.lt;have hM3 := hM2.below hb3;have hbw3 := hbw.trans (hb3.mono hbw.size);have f1 := hr4.free 1;have c1 := hr4.cell 1;simp only [likeF] at hr3 f1 c1;have HR3 := Lib.hid hr3;have HR4 := Lib.hid hr4;have HM3 := Lib.hid hM3;have HB3 := Lib.hid hbw3;have HX3 := Lib.hid hbox3;clear hr1 hr2 hr3 hr4 hM2 hM3 hbw hbw3 hb1 hb2 hb3 hbox hbox3 HM;go_wp2;go_ret;have ho := HM0.out.lt;refine ⟨⟨w.heap.size, rfl, w2.heap.size, w1.heap.size, ⟨?_, ?_, ?_, ?_, fun t h => by cases h⟩, Nat.le_refl _, by omega, by omega⟩, ?_⟩
 · exact HR4.out.set 1 (.slice (some ⟨w2.heap.size, 0, none⟩) 1 1)
 · exact (RowAt.other (p := ⟨w.heap.size, 1, none⟩) HR3.out (by show w2.heap.size ≠ w.heap.size; omega) _).pre
 · exact RowAt.other (p := ⟨w.heap.size, 1, none⟩) HX3.out (by show w1.heap.size ≠ w.heap.size; omega) _
 · exact HM3.out.setOther HR4.out (NoW.slice (NoW.slice NoW.nil)) (by show o ≠ w.heap.size; omega) (fun r hr => by have := (HM0.out.row r hr).lt; omega) 1 _
 · exact HB3.out.setCell (p := ⟨w.heap.size, 1, none⟩) (Nat.le_refl _) _
theorem RowAt.ne {w : World} {a b : Nat} {t t' : TypeId} {cs cs' : List Value} (h : RowAt w a t cs) (h' : RowAt w b t' cs') (ht : t ≠ t') : a ≠ b := by
 rintro rfl;unfold RowAt at h h';rw [h] at h';simp only [Option.some.injEq, Obj.cells.injEq] at h';exact ht h'.2.1
theorem RowAt.neP {w : World} {a b : Nat} {t t' : TypeId} {cs cs' : List Value} (h : RowAt w a t cs) (h' : RowP w b t' cs') (ht : t ≠ t') : a ≠ b := by obtain ⟨_, _, h'⟩ := h'; exact h.ne h' ht
def setXs (R : List Hd) (i : Nat) (xs : List Int) : List Hd := R.modify i (fun h => ⟨h.blk, h.cap, xs⟩)
theorem setXs_length (R : List Hd) (i : Nat) (xs : List Int) : (setXs R i xs).length = R.length := by simp [setXs]
theorem setXs_get {R : List Hd} {i : Nat} {xs : List Int} {j : Nat} (hj : j < R.length) : (setXs R i xs)[j]'(by rw [setXs_length]; exact hj) = if i = j then ⟨R[j].blk, R[j].cap, xs⟩ else R[j] := by
 unfold setXs; rw [List.getElem_modify]
theorem setXs_blk (R : List Hd) (i : Nat) (xs : List Int) : (setXs R i xs).map Hd.blk = R.map Hd.blk := by
 refine List.ext_getElem (by simp [setXs_length]) fun j h1 h2 => ?_;simp only [List.getElem_map];rw [setXs_get (by simpa using h2)];split <;> rfl
theorem setXs_hdr {R : List Hd} {i : Nat} {xs : List Int} (hi : i < R.length) (hl : xs.length = R[i].xs.length) : (setXs R i xs).map Hd.hdr = R.map Hd.hdr := by
 refine List.ext_getElem (by simp [setXs_length]) fun j h1 h2 => ?_;simp only [List.getElem_map];rw [setXs_get (by simpa using h2)];split
 · rename_i e; subst e; unfold Hd.hdr; rw [hl]
 · rfl
theorem blk_ne {R : List Hd} (hn : (R.map Hd.blk).Nodup) {i j : Nat} (hi : i < R.length) (hj : j < R.length) (h : i ≠ j) : R[i].blk ≠ R[j].blk := by
 intro e;have h1 : (R.map Hd.blk)[i]'(by simpa using hi) = (R.map Hd.blk)[j]'(by simpa using hj) := by simpa using e
 have hp := List.pairwise_iff_getElem.1 hn;rcases Nat.lt_or_gt_of_ne h with hlt | hlt
 · exact hp i j (by simpa using hi) (by simpa using hj) hlt h1
 · exact hp j i (by simpa using hj) (by simpa using hi) hlt h1.symm
theorem MatN.setXs {w w' : World} {o : Nat} {R : List Hd} (h : MatN w o R) {i : Nat} (hi : i < R.length) {xs : List Int} (hl : xs.length = R[i].xs.length) (hc : Chg (· = R[i].blk) w w') (hr : RowN w' R[i].blk xs) : MatN w' o (setXs R i xs) := by
 have hw : Wordless (· = R[i].blk) w := (h.row _ (List.getElem_mem hi)).wordless;refine ⟨by rw [setXs_hdr hi hl]; exact h.out.chg hc (fun e => h.ne (List.getElem_mem hi) e.symm), fun r hr' => ?_, by rw [setXs_blk]; exact h.nd⟩;obtain ⟨j, hj, rfl⟩ := List.getElem_of_mem hr';rw [setXs_length] at hj;rw [setXs_get hj];split
 · rename_i e; subst e; exact hr
 · rename_i e; exact hc.rowN hw (h.row _ (List.getElem_mem hj)) (blk_ne h.nd hj hi (fun e' => e e'.symm))
theorem addRow_length {k : Int} {xs ys : List Int} (h : xs.length = ys.length) : (addRow k xs ys).length = xs.length := by simp [addRow, h]
theorem mixRow_length {a b : Int} {xs ys : List Int} (h : xs.length = ys.length) : (mixRow a b xs ys).length = xs.length := by simp [mixRow, h]
theorem SdAt.keep {w w' : World} {S : LSt} (h : SdAt w S) (hc : Chg S.rws w w') {b : Nat} {t : TypeId} {cs : List Value} (hb : RowAt w b t cs) (h1 : t ≠ 44) (h2 : t ≠ 22) : RowAt w' b t cs := by
 refine hc.row hb ?_;rintro (rfl | ⟨r, hr, rfl⟩)
 · exact hb.neP h.mat.out h2 rfl
 · obtain ⟨ps, tl, nt, hp, _⟩ := h.mat.row r hr;exact hb.ne hp h1 rfl
theorem SdAt.rows {w w' : World} {S : LSt} (h : SdAt w S) {R : List Hd} (hc : Chg S.rws w w') (hM : MatN w' S.o R) (hl : R.length = S.R.length) : SdAt w' (S.withR R) := by
 have e : LSt.hdr (S.withR R) = S.hdr := by unfold LSt.hdr LSt.withR; rw [hl]
 exact ⟨by rw [e]; exact h.keep hc h.box (by decide) (by decide), hM⟩
def addR (R : List Hd) (i j : Nat) (k : Int) (hi : i < R.length) (hj : j < R.length) : List Hd := setXs R i (addRow k R[i].xs R[j].xs)
set_option maxRecDepth 100000 in
set_option maxHeartbeats 4000000 in
theorem LikeAdd_c (S : LSt) (i j : Nat) (kv : Value) (k : Int) (LA LB : Nat) (w : World) (h : SdAt w S) (hi : i < S.R.length) (hj : j < S.R.length) (hij : i ≠ j) (hK : IntAt w LA kv k) (hl : S.R[i].xs.length = S.R[j].xs.length)
 (hxL : ∀ x ∈ S.R[i].xs, wlen x.natAbs <= 17592186044415) (hyL : ∀ y ∈ S.R[j].xs, wlen y.natAbs <= LB) (hLab : LA + LB <= 17592186044415) (hlen : S.R[i].xs.length <= 4611686018427387903) :
 Calls Tryz.prog 226 #[.int .i64 (i : Int), .int .i64 (j : Int), kv, .pointer (some ⟨S.g, 0, none⟩)] w fun e w' => e = .returned (.tuple #[]) /\ SdAt w' (S.withR (addR S.R i j k hi hj)) /\ Chg S.rws w w' := by
 obtain ⟨kp, rfl⟩ := hK.parts;have HL := Lib.hid h; clear h;have HK := Lib.hid hK; clear hK;have HXL := Lib.hid hxL; clear hxL;have HYL := Lib.hid hyL; clear hyL;have Hl := Lib.hid hl; clear hl;go_enter Tryz.func226, Tryz.ntmps226;unfold av at *;go_wp2;have hb1 : Below w.heap.size w (w.alloc (.cells #[.bool kp.1, .slice kp.2.1 kp.2.2.1 kp.2.2.2] 44)) := (Below.refl _ _).alloc (Nat.le_refl _) _;have hr1 := RowAt.new w #[.bool kp.1, .slice kp.2.1 kp.2.2.1 kp.2.2.2] 44;generalize w.alloc (.cells #[.bool kp.1, .slice kp.2.1 kp.2.2.1 kp.2.2.2] 44) = w1 at *;have hbox := HL.out.box.below hb1 HL.out.box.lt;have hM1 := HL.out.mat.below hb1;have hK1 := HK.out.below hb1;have HX1 := Lib.hid (hM1.row _ (List.getElem_mem hi));have HY1 := Lib.hid (hM1.row _ (List.getElem_mem hj));have hne := blk_ne hM1.nd hi hj hij;have cg : w1.cell? ⟨S.g, 0, none⟩ = some (.slice (some ⟨S.o, 0, none⟩) S.R.length S.cap) := hbox.cell 0;have ci : w1.cell? ⟨S.o, i, none⟩ = some (.slice (some ⟨S.R[i].blk, 0, none⟩) S.R[i].xs.length S.R[i].cap) := hM1.hdr hi;have cj : w1.cell? ⟨S.o, j, none⟩ = some (.slice (some ⟨S.R[j].blk, 0, none⟩) S.R[j].xs.length S.R[j].cap) := hM1.hdr hj;have ck0 : w1.cell? ⟨w.heap.size, 0, none⟩ = some (.bool kp.1) := hr1.cell 0;have ck1 : w1.cell? ⟨w.heap.size, 1, none⟩ = some (.slice kp.2.1 kp.2.2.1 kp.2.2.2) := hr1.cell 1;have hs0 : S.g < w1.heap.size := hbox.lt;have hs1 : S.o < w1.heap.size := hM1.out.lt;have hs2 : w.heap.size < w1.heap.size := hr1.lt;have hi' : (i : Int) < (S.R.length : Int) := by omega
 have hj' : (j : Int) < (S.R.length : Int) := by omega
 have HM1 := Lib.hid hM1; clear hM1;have HK1 := Lib.hid hK1; clear hK1;have HB1 := Lib.hid hb1; clear hb1;clear hr1 hbox;refine wp_region_K ⟨9, fun q_ => [7, 8, 9, 10, 11, 12, 13, 14, 15].getD q_ 0,
  fun q_ => [.val (.slice (some ⟨S.o, 0, none⟩) S.R.length S.cap), .val (.int .i64 (i : Int)), .val (.pointer (some ⟨S.o, i, none⟩)), .val (.slice (some ⟨S.R[i].blk, 0, none⟩) S.R[i].xs.length S.R[i].cap), .val (.slice (some ⟨S.o, 0, none⟩) S.R.length S.cap), .val (.int .i64 (j : Int)), .val (.pointer (some ⟨S.o, j, none⟩)), .val (.slice (some ⟨S.R[j].blk, 0, none⟩) S.R[j].xs.length S.R[j].cap), .val (.agg #[.bool kp.1, .slice kp.2.1 kp.2.2.1 kp.2.2.2])].getD q_ .any,
  [],
  [],
  [],
  [], [(⟨S.g, 0, none⟩, .slice (some ⟨S.o, 0, none⟩) S.R.length S.cap), (⟨S.o, i, none⟩, .slice (some ⟨S.R[i].blk, 0, none⟩) S.R[i].xs.length S.R[i].cap), (⟨S.o, j, none⟩, .slice (some ⟨S.R[j].blk, 0, none⟩) S.R[j].xs.length S.R[j].cap), (⟨w.heap.size, 0, none⟩, .bool kp.1), (⟨w.heap.size, 1, none⟩, .slice kp.2.1 kp.2.2.1 kp.2.2.2)], []⟩ [7, 8, 9, 10, 11, 12, 13, 14, 15, 16] (w1.heap.size) (by kernel_rfl) (by kernel_rfl) (by kernel_rfl) (by kernel_rfl) (by kernel_rfl) ?_ ?_ ?_ ?_ ?_ ?_
 · intro p hp;cases hp
 · intro p hp;cases hp
 · intro p hp;rcases mc hp with rfl | hp
   · refine ⟨cg, by show S.g < w1.heap.size; omega, ?_⟩;intro t ht;cases ht
   rcases mc hp with rfl | hp
   · refine ⟨ci, by show S.o < w1.heap.size; omega, ?_⟩;intro t ht;cases ht
   rcases mc hp with rfl | hp
   · refine ⟨cj, by show S.o < w1.heap.size; omega, ?_⟩;intro t ht;cases ht
   rcases mc hp with rfl | hp
   · refine ⟨ck0, by show w.heap.size < w1.heap.size; omega, ?_⟩;intro t ht;cases ht
   rcases mc hp with rfl | hp
   · refine ⟨ck1, by show w.heap.size < w1.heap.size; omega, ?_⟩;intro t ht;cases ht
   cases hp
 · intro t ht;cases ht
 · refine allc ?_ (allc ?_ (allc ?_ (allc ?_ (allc ?_ (allc ?_ (allc ?_ (allc ?_ (allc ?_ alln))))))));any_goals (first | (intro L fx w' hJ hL hp hcl; have _ := hp0 hp (by decide +kernel); refine wps rfl fun K hK => ?_; go_simp; exact hJ.q hK (by kernel_rfl) rfl) | fail)
   · intro L fx w' hJ hL hp hcl;refine wps rfl fun K hK => ?_;have cl0 := (hJ.cells _ mm0).1;try dsimp only at cl0
     go_simp;exact hJ.q hK (by kernel_rfl) rfl
   · intro L fx w' hJ hL hp hcl;have e0 := hJ.pt 0 7 (.slice (some ⟨S.o, 0, none⟩) S.R.length S.cap) rfl rfl rfl (hp 0 (by decide));rw [e0] at hJ ⊢; clear e0;have e1 := hJ.pt 1 8 (.int .i64 (i : Int)) rfl rfl rfl (hp 1 (by decide));rw [e1] at hJ ⊢; clear e1;refine wps rfl fun K hK => ?_;go_simp;exact hJ.q hK (by kernel_rfl) rfl
   · intro L fx w' hJ hL hp hcl;have e2 := hJ.pt 2 9 (.pointer (some ⟨S.o, i, none⟩)) rfl rfl rfl (hp 2 (by decide));rw [e2] at hJ ⊢; clear e2;refine wps rfl fun K hK => ?_;have cl0 := (hJ.cells _ mm1).1;try dsimp only at cl0
     go_simp;exact hJ.q hK (by kernel_rfl) rfl
   · intro L fx w' hJ hL hp hcl;refine wps rfl fun K hK => ?_;have cl0 := (hJ.cells _ mm0).1;try dsimp only at cl0
     go_simp;exact hJ.q hK (by kernel_rfl) rfl
   · intro L fx w' hJ hL hp hcl;have e4 := hJ.pt 4 11 (.slice (some ⟨S.o, 0, none⟩) S.R.length S.cap) rfl rfl rfl (hp 4 (by decide));rw [e4] at hJ ⊢; clear e4;have e5 := hJ.pt 5 12 (.int .i64 (j : Int)) rfl rfl rfl (hp 5 (by decide));rw [e5] at hJ ⊢; clear e5;refine wps rfl fun K hK => ?_;go_simp;exact hJ.q hK (by kernel_rfl) rfl
   · intro L fx w' hJ hL hp hcl;have e6 := hJ.pt 6 13 (.pointer (some ⟨S.o, j, none⟩)) rfl rfl rfl (hp 6 (by decide));rw [e6] at hJ ⊢; clear e6;refine wps rfl fun K hK => ?_;have cl0 := (hJ.cells _ mm2).1;try dsimp only at cl0
     go_simp;exact hJ.q hK (by kernel_rfl) rfl
   · intro L fx w' hJ hL hp hcl;refine wps rfl fun K hK => ?_;have cl0 := (hJ.cells _ mm3).1;have cl1 := (hJ.cells _ mm4).1;try dsimp only at cl0 cl1
     go_simp;exact hJ.q hK (by kernel_rfl) rfl
 · intro L x' w3 hL hJ;have hfr : Below w1.drew.heap.size w1.drew w3 := hJ.fr;have e3 : x' 10 = .slice (some ⟨S.R[i].blk, 0, none⟩) S.R[i].xs.length S.R[i].cap := hJ.slot 3 (by show 3 < 9; decide) (hL 3 (by show 3 < 9; decide));have e7 : x' 14 = .slice (some ⟨S.R[j].blk, 0, none⟩) S.R[j].xs.length S.R[j].cap := hJ.slot 7 (by show 7 < 9; decide) (hL 7 (by show 7 < 9; decide));have e8 : x' 15 = .agg #[.bool kp.1, .slice kp.2.1 kp.2.2.1 kp.2.2.2] := hJ.slot 8 (by show 8 < 9; decide) (hL 8 (by show 8 < 9; decide));rw [patchX (x := x') (d := 10) (v := .slice (some ⟨S.R[i].blk, 0, none⟩) S.R[i].xs.length S.R[i].cap) e3];rw [patchX (x := (updX x' 10 (.slice (some ⟨S.R[i].blk, 0, none⟩) S.R[i].xs.length S.R[i].cap))) (d := 14) (v := .slice (some ⟨S.R[j].blk, 0, none⟩) S.R[j].xs.length S.R[j].cap) e7];rw [patchX (x := (updX (updX x' 10 (.slice (some ⟨S.R[i].blk, 0, none⟩) S.R[i].xs.length S.R[i].cap)) 14 (.slice (some ⟨S.R[j].blk, 0, none⟩) S.R[j].xs.length S.R[j].cap))) (d := 15) (v := .agg #[.bool kp.1, .slice kp.2.1 kp.2.2.1 kp.2.2.2]) e8];clear hJ hL e3 e7 e8 cg ci cj ck0 ck1;refine wps rfl fun K hK => ?_;go_simp;go_at_call 211;refine (LAdd_c _ _ _ _ LA LB _ _ _ k _ (RowN.below (w := w1.drew) HX1.out hfr) (RowN.below (w := w1.drew) HY1.out hfr) (IntAt.below (w := w1.drew) HK1.out hfr) hne Hl.out HXL.out HYL.out hLab hlen).mono ?_;rintro e w4 ⟨rfl, hR4, hC4⟩;try dsimp only
   refine hK _ _ ⟨⟨updX (updX (updX (updX x' 10 (.slice (some ⟨S.R[i].blk, 0, none⟩) S.R[i].xs.length S.R[i].cap)) 14 (.slice (some ⟨S.R[j].blk, 0, none⟩) S.R[j].xs.length S.R[j].cap)) 15 (.agg #[.bool kp.1, .slice kp.2.1 kp.2.2.1 kp.2.2.2])) 16 (.tuple #[]), by kernel_rfl⟩, ?_⟩;clear hK;go_wp2;refine bodyPost_end (results_none (by kernel_rfl) _ _ _) rfl ?_;have hC0 : Chg S.rws w w3 := (Chg.of_below HB1.out).drew.below hfr;have hs3 := hfr.size;have hs4 : w1.drew.heap.size = w1.heap.size := rfl;have hCs : Chg (· = S.R[i].blk) w w4 := ((Chg.of_below HB1.out).drew.below hfr).trans (hC4.mono (fun k _ e => e));have hCo : Chg S.rws w w4 := hCs.mono (fun k _ e => .inr ⟨S.R[i], List.getElem_mem hi, e.symm⟩);have hM4 := HL.out.mat.setXs hi (addRow_length Hl.out) hCs hR4;exact ⟨rfl, HL.out.rows hCo hM4 (by unfold addR; rw [setXs_length]), hCo⟩
theorem matN_setXs2 {w w' : World} {o : Nat} {R : List Hd} (h : MatN w o R) {i j : Nat} (hi : i < R.length) (hj : j < R.length) (hij : i ≠ j) {xs ys : List Int} (hl : xs.length = R[i].xs.length) (hl2 : ys.length = R[j].xs.length) (hc : Chg (fun k => k = R[i].blk ∨ k = R[j].blk) w w') (hr : RowN w' R[i].blk xs) (hr2 : RowN w' R[j].blk ys) : MatN w' o (setXs (setXs R i xs) j ys) := by
 have hw : Wordless (fun k => k = R[i].blk ∨ k = R[j].blk) w := by
  rintro g (rfl | rfl)
  · exact (h.row _ (List.getElem_mem hi)).wordless _ rfl
  · exact (h.row _ (List.getElem_mem hj)).wordless _ rfl
 have hj' : j < (setXs R i xs).length := by rw [setXs_length]; exact hj
 have ej : (setXs R i xs)[j].xs = R[j].xs := by rw [setXs_get hj, if_neg hij]
 refine ⟨?_, fun r hr' => ?_, by rw [setXs_blk, setXs_blk]; exact h.nd⟩
 · rw [setXs_hdr hj' (by rw [ej]; exact hl2), setXs_hdr hi hl];exact h.out.chg hc (fun e => e.elim (fun e => h.ne (List.getElem_mem hi) e.symm) (fun e => h.ne (List.getElem_mem hj) e.symm))
 · obtain ⟨m, hm, rfl⟩ := List.getElem_of_mem hr';rw [setXs_length] at hm;have hm2 : m < R.length := by rw [setXs_length] at hm; exact hm
   rw [setXs_get hm];split
   · rename_i e;subst e;have : (setXs R i xs)[j].blk = R[j].blk := by rw [setXs_get hj, if_neg hij]
     simp only [this]; exact hr2
   · rename_i hjm;rw [setXs_get hm2];split
     · rename_i e; subst e; exact hr
     · rename_i him;exact hc.rowN hw (h.row _ (List.getElem_mem hm2)) (fun e => e.elim (blk_ne h.nd hm2 hi (fun e' => him e'.symm)) (blk_ne h.nd hm2 hj (fun e' => hjm e'.symm)))
def mixR (R : List Hd) (i j : Nat) (a b c d : Int) (hi : i < R.length) (hj : j < R.length) : List Hd := setXs (setXs R i (mixRow a b R[i].xs R[j].xs)) j (mixRow c d R[i].xs R[j].xs)
set_option maxRecDepth 100000 in
set_option maxHeartbeats 4000000 in
theorem LikeMix_c (S : LSt) (i j : Nat) (mp mq mr ms : P4) (a b c d : Int) (LA LB : Nat) (w : World) (h : SdAt w S) (hi : i < S.R.length) (hj : j < S.R.length) (hij : i ≠ j) (hA : IntAt w LA (av mp) a) (hB : IntAt w LA (av mq) b) (hC : IntAt w LA (av mr) c) (hD : IntAt w LA (av ms) d) (hl : S.R[i].xs.length = S.R[j].xs.length)
 (hxL : ∀ x ∈ S.R[i].xs, wlen x.natAbs <= LB) (hyL : ∀ y ∈ S.R[j].xs, wlen y.natAbs <= LB) (hLab : LA + LB <= 17592186044415) (hlen : S.R[i].xs.length <= 4611686018427387903) :
 Calls Tryz.prog 227 #[.int .i64 (i : Int), .int .i64 (j : Int), .agg #[.bool mp.1, .slice mp.2.1 mp.2.2.1 mp.2.2.2, .bool mq.1, .slice mq.2.1 mq.2.2.1 mq.2.2.2, .bool mr.1, .slice mr.2.1 mr.2.2.1 mr.2.2.2, .bool ms.1, .slice ms.2.1 ms.2.2.1 ms.2.2.2], .pointer (some ⟨S.g, 0, none⟩)] w fun e w' => e = .returned (.tuple #[]) /\ SdAt w' (S.withR (mixR S.R i j a b c d hi hj)) /\ Chg S.rws w w' := by
 have HL := Lib.hid h; clear h;have HA := Lib.hid hA; clear hA;have HB := Lib.hid hB; clear hB;have HC := Lib.hid hC; clear hC;have HD := Lib.hid hD; clear hD;have HXL := Lib.hid hxL; clear hxL;have HYL := Lib.hid hyL; clear hyL;have Hl := Lib.hid hl; clear hl;go_enter Tryz.func227, Tryz.ntmps227;unfold av at *;go_wp2;have hb1 : Below w.heap.size w (w.alloc (.cells #[.bool mp.1, .slice mp.2.1 mp.2.2.1 mp.2.2.2, .bool mq.1, .slice mq.2.1 mq.2.2.1 mq.2.2.2, .bool mr.1, .slice mr.2.1 mr.2.2.1 mr.2.2.2, .bool ms.1, .slice ms.2.1 ms.2.2.1 ms.2.2.2] 199)) := (Below.refl _ _).alloc (Nat.le_refl _) _;have hr1 := RowAt.new w #[.bool mp.1, .slice mp.2.1 mp.2.2.1 mp.2.2.2, .bool mq.1, .slice mq.2.1 mq.2.2.1 mq.2.2.2, .bool mr.1, .slice mr.2.1 mr.2.2.1 mr.2.2.2, .bool ms.1, .slice ms.2.1 ms.2.2.1 ms.2.2.2] 199;generalize w.alloc (.cells #[.bool mp.1, .slice mp.2.1 mp.2.2.1 mp.2.2.2, .bool mq.1, .slice mq.2.1 mq.2.2.1 mq.2.2.2, .bool mr.1, .slice mr.2.1 mr.2.2.1 mr.2.2.2, .bool ms.1, .slice ms.2.1 ms.2.2.1 ms.2.2.2] 199) = w1 at *;have hbox := HL.out.box.below hb1 HL.out.box.lt;have hM1 := HL.out.mat.below hb1;have HA1 := Lib.hid (HA.out.below hb1);have HB1' := Lib.hid (HB.out.below hb1);have HC1 := Lib.hid (HC.out.below hb1);have HD1 := Lib.hid (HD.out.below hb1);have HX1 := Lib.hid (hM1.row _ (List.getElem_mem hi));have HY1 := Lib.hid (hM1.row _ (List.getElem_mem hj));have hne := blk_ne hM1.nd hi hj hij;have cg : w1.cell? ⟨S.g, 0, none⟩ = some (.slice (some ⟨S.o, 0, none⟩) S.R.length S.cap) := hbox.cell 0;have ci : w1.cell? ⟨S.o, i, none⟩ = some (.slice (some ⟨S.R[i].blk, 0, none⟩) S.R[i].xs.length S.R[i].cap) := hM1.hdr hi;have cj : w1.cell? ⟨S.o, j, none⟩ = some (.slice (some ⟨S.R[j].blk, 0, none⟩) S.R[j].xs.length S.R[j].cap) := hM1.hdr hj;have HR1 := Lib.hid hr1;have hs0 : S.g < w1.heap.size := hbox.lt;have hs1 : S.o < w1.heap.size := hM1.out.lt;have hs2 : w.heap.size < w1.heap.size := hr1.lt;have hi' : (i : Int) < (S.R.length : Int) := by omega
 have hj' : (j : Int) < (S.R.length : Int) := by omega
 have HM1 := Lib.hid hM1; clear hM1;have HB1 := Lib.hid hb1; clear hb1;clear hr1 hbox;refine wp_region_K ⟨9, fun q_ => [7, 8, 9, 10, 11, 12, 13, 14, 15].getD q_ 0,
  fun q_ => [.val (.slice (some ⟨S.o, 0, none⟩) S.R.length S.cap), .val (.int .i64 (i : Int)), .val (.pointer (some ⟨S.o, i, none⟩)), .val (.slice (some ⟨S.R[i].blk, 0, none⟩) S.R[i].xs.length S.R[i].cap), .val (.slice (some ⟨S.o, 0, none⟩) S.R.length S.cap), .val (.int .i64 (j : Int)), .val (.pointer (some ⟨S.o, j, none⟩)), .val (.slice (some ⟨S.R[j].blk, 0, none⟩) S.R[j].xs.length S.R[j].cap), .val (.agg #[.bool mp.1, .slice mp.2.1 mp.2.2.1 mp.2.2.2, .bool mq.1, .slice mq.2.1 mq.2.2.1 mq.2.2.2, .bool mr.1, .slice mr.2.1 mr.2.2.1 mr.2.2.2, .bool ms.1, .slice ms.2.1 ms.2.2.1 ms.2.2.2])].getD q_ .any,
  [],
  [],
  [(w.heap.size, 199, [.bool mp.1, .slice mp.2.1 mp.2.2.1 mp.2.2.2, .bool mq.1, .slice mq.2.1 mq.2.2.1 mq.2.2.2, .bool mr.1, .slice mr.2.1 mr.2.2.1 mr.2.2.2, .bool ms.1, .slice ms.2.1 ms.2.2.1 ms.2.2.2])],
  [], [(⟨S.g, 0, none⟩, .slice (some ⟨S.o, 0, none⟩) S.R.length S.cap), (⟨S.o, i, none⟩, .slice (some ⟨S.R[i].blk, 0, none⟩) S.R[i].xs.length S.R[i].cap), (⟨S.o, j, none⟩, .slice (some ⟨S.R[j].blk, 0, none⟩) S.R[j].xs.length S.R[j].cap)], []⟩ [7, 8, 9, 10, 11, 12, 13, 14, 15, 16] (w1.heap.size) (by kernel_rfl) (by kernel_rfl) (by kernel_rfl) (by kernel_rfl) (by kernel_rfl) ?_ ?_ ?_ ?_ ?_ ?_
 · intro p hp;cases hp
 · intro p hp;rcases mc hp with rfl | hp
   · refine ⟨HR1.out, by show w.heap.size < w1.heap.size; omega, ?_⟩;intro t ht;cases ht
   cases hp
 · intro p hp;rcases mc hp with rfl | hp
   · refine ⟨cg, by show S.g < w1.heap.size; omega, ?_⟩;intro t ht;cases ht
   rcases mc hp with rfl | hp
   · refine ⟨ci, by show S.o < w1.heap.size; omega, ?_⟩;intro t ht;cases ht
   rcases mc hp with rfl | hp
   · refine ⟨cj, by show S.o < w1.heap.size; omega, ?_⟩;intro t ht;cases ht
   cases hp
 · intro t ht;cases ht
 · refine allc ?_ (allc ?_ (allc ?_ (allc ?_ (allc ?_ (allc ?_ (allc ?_ (allc ?_ (allc ?_ alln))))))));any_goals (first | (intro L fx w' hJ hL hp hcl; have _ := hp0 hp (by decide +kernel); refine wps rfl fun K hK => ?_; go_simp; exact hJ.q hK (by kernel_rfl) rfl) | fail)
   · intro L fx w' hJ hL hp hcl;refine wps rfl fun K hK => ?_;have cl0 := (hJ.cells _ mm0).1;try dsimp only at cl0
     go_simp;exact hJ.q hK (by kernel_rfl) rfl
   · intro L fx w' hJ hL hp hcl;have e0 := hJ.pt 0 7 (.slice (some ⟨S.o, 0, none⟩) S.R.length S.cap) rfl rfl rfl (hp 0 (by decide));rw [e0] at hJ ⊢; clear e0;have e1 := hJ.pt 1 8 (.int .i64 (i : Int)) rfl rfl rfl (hp 1 (by decide));rw [e1] at hJ ⊢; clear e1;refine wps rfl fun K hK => ?_;go_simp;exact hJ.q hK (by kernel_rfl) rfl
   · intro L fx w' hJ hL hp hcl;have e2 := hJ.pt 2 9 (.pointer (some ⟨S.o, i, none⟩)) rfl rfl rfl (hp 2 (by decide));rw [e2] at hJ ⊢; clear e2;refine wps rfl fun K hK => ?_;have cl0 := (hJ.cells _ mm1).1;try dsimp only at cl0
     go_simp;exact hJ.q hK (by kernel_rfl) rfl
   · intro L fx w' hJ hL hp hcl;refine wps rfl fun K hK => ?_;have cl0 := (hJ.cells _ mm0).1;try dsimp only at cl0
     go_simp;exact hJ.q hK (by kernel_rfl) rfl
   · intro L fx w' hJ hL hp hcl;have e4 := hJ.pt 4 11 (.slice (some ⟨S.o, 0, none⟩) S.R.length S.cap) rfl rfl rfl (hp 4 (by decide));rw [e4] at hJ ⊢; clear e4;have e5 := hJ.pt 5 12 (.int .i64 (j : Int)) rfl rfl rfl (hp 5 (by decide));rw [e5] at hJ ⊢; clear e5;refine wps rfl fun K hK => ?_;go_simp;exact hJ.q hK (by kernel_rfl) rfl
   · intro L fx w' hJ hL hp hcl;have e6 := hJ.pt 6 13 (.pointer (some ⟨S.o, j, none⟩)) rfl rfl rfl (hp 6 (by decide));rw [e6] at hJ ⊢; clear e6;refine wps rfl fun K hK => ?_;have cl0 := (hJ.cells _ mm2).1;try dsimp only at cl0
     go_simp;exact hJ.q hK (by kernel_rfl) rfl
   · intro L fx w' hJ hL hp hcl;refine wps rfl fun K hK => ?_;have rw0 := (hJ.rows _ mm0).1;have cl0 : w'.cell? ⟨w.heap.size, 0, none⟩ = some (.bool mp.1) := rw0.cell 0;have cl1 : w'.cell? ⟨w.heap.size, 1, none⟩ = some (.slice mp.2.1 mp.2.2.1 mp.2.2.2) := rw0.cell 1;have cl2 : w'.cell? ⟨w.heap.size, 2, none⟩ = some (.bool mq.1) := rw0.cell 2;have cl3 : w'.cell? ⟨w.heap.size, 3, none⟩ = some (.slice mq.2.1 mq.2.2.1 mq.2.2.2) := rw0.cell 3;have cl4 : w'.cell? ⟨w.heap.size, 4, none⟩ = some (.bool mr.1) := rw0.cell 4;have cl5 : w'.cell? ⟨w.heap.size, 5, none⟩ = some (.slice mr.2.1 mr.2.2.1 mr.2.2.2) := rw0.cell 5;have cl6 : w'.cell? ⟨w.heap.size, 6, none⟩ = some (.bool ms.1) := rw0.cell 6;have cl7 : w'.cell? ⟨w.heap.size, 7, none⟩ = some (.slice ms.2.1 ms.2.2.1 ms.2.2.2) := rw0.cell 7;go_simp;exact hJ.q hK (by kernel_rfl) rfl
 · intro L x' w3 hL hJ;have hfr : Below w1.drew.heap.size w1.drew w3 := hJ.fr;have e3 : x' 10 = .slice (some ⟨S.R[i].blk, 0, none⟩) S.R[i].xs.length S.R[i].cap := hJ.slot 3 (by show 3 < 9; decide) (hL 3 (by show 3 < 9; decide));have e7 : x' 14 = .slice (some ⟨S.R[j].blk, 0, none⟩) S.R[j].xs.length S.R[j].cap := hJ.slot 7 (by show 7 < 9; decide) (hL 7 (by show 7 < 9; decide));have e8 : x' 15 = .agg #[.bool mp.1, .slice mp.2.1 mp.2.2.1 mp.2.2.2, .bool mq.1, .slice mq.2.1 mq.2.2.1 mq.2.2.2, .bool mr.1, .slice mr.2.1 mr.2.2.1 mr.2.2.2, .bool ms.1, .slice ms.2.1 ms.2.2.1 ms.2.2.2] := hJ.slot 8 (by show 8 < 9; decide) (hL 8 (by show 8 < 9; decide));rw [patchX (x := x') (d := 10) (v := .slice (some ⟨S.R[i].blk, 0, none⟩) S.R[i].xs.length S.R[i].cap) e3];rw [patchX (x := (updX x' 10 (.slice (some ⟨S.R[i].blk, 0, none⟩) S.R[i].xs.length S.R[i].cap))) (d := 14) (v := .slice (some ⟨S.R[j].blk, 0, none⟩) S.R[j].xs.length S.R[j].cap) e7];rw [patchX (x := (updX (updX x' 10 (.slice (some ⟨S.R[i].blk, 0, none⟩) S.R[i].xs.length S.R[i].cap)) 14 (.slice (some ⟨S.R[j].blk, 0, none⟩) S.R[j].xs.length S.R[j].cap))) (d := 15) (v := .agg #[.bool mp.1, .slice mp.2.1 mp.2.2.1 mp.2.2.2, .bool mq.1, .slice mq.2.1 mq.2.2.1 mq.2.2.2, .bool mr.1, .slice mr.2.1 mr.2.2.1 mr.2.2.2, .bool ms.1, .slice ms.2.1 ms.2.2.1 ms.2.2.2]) e8];clear hJ hL e3 e7 e8 cg ci cj;refine wps rfl fun K hK => ?_;go_simp;go_at_call 213;refine (LMix_c _ _ _ _ LA LB _ _ mp mq mr ms a b c d _ (RowN.below (w := w1.drew) HX1.out hfr) (RowN.below (w := w1.drew) HY1.out hfr) (IntAt.below (w := w1.drew) HA1.out hfr) (IntAt.below (w := w1.drew) HB1'.out hfr) (IntAt.below (w := w1.drew) HC1.out hfr) (IntAt.below (w := w1.drew) HD1.out hfr) hne Hl.out HXL.out HYL.out hLab hlen).mono ?_;rintro e w4 ⟨rfl, hR4, hR4', hC4⟩;try dsimp only
   refine hK _ _ ⟨⟨updX (updX (updX (updX x' 10 (.slice (some ⟨S.R[i].blk, 0, none⟩) S.R[i].xs.length S.R[i].cap)) 14 (.slice (some ⟨S.R[j].blk, 0, none⟩) S.R[j].xs.length S.R[j].cap)) 15 (.agg #[.bool mp.1, .slice mp.2.1 mp.2.2.1 mp.2.2.2, .bool mq.1, .slice mq.2.1 mq.2.2.1 mq.2.2.2, .bool mr.1, .slice mr.2.1 mr.2.2.1 mr.2.2.2, .bool ms.1, .slice ms.2.1 ms.2.2.1 ms.2.2.2])) 16 (.tuple #[]), by kernel_rfl⟩, ?_⟩;clear hK;go_wp2;refine bodyPost_end (results_none (by kernel_rfl) _ _ _) rfl ?_;have hC0 : Chg S.rws w w3 := (Chg.of_below HB1.out).drew.below hfr;have hs3 := hfr.size;have hs4 : w1.drew.heap.size = w1.heap.size := rfl;have hCs : Chg (fun k => k = S.R[i].blk ∨ k = S.R[j].blk) w w4 := ((Chg.of_below HB1.out).drew.below hfr).trans (hC4.mono (fun k _ e => e));have hCo : Chg S.rws w w4 := hCs.mono (fun k _ e => .inr (e.elim (fun e => ⟨S.R[i], List.getElem_mem hi, e.symm⟩) (fun e => ⟨S.R[j], List.getElem_mem hj, e.symm⟩)));have hM4 := matN_setXs2 HL.out.mat hi hj hij (mixRow_length Hl.out) ((mixRow_length Hl.out).trans Hl.out) hCs hR4 hR4';exact ⟨rfl, HL.out.rows hCo hM4 (by unfold mixR; rw [setXs_length, setXs_length]), hCo⟩
theorem MatN.drew {w : World} {o : Nat} {R : List Hd} (h : MatN w o R) : MatN w.drew o R := ⟨h.out, h.row, h.nd⟩
theorem SdAt.drew {w : World} {S : LSt} (h : SdAt w S) : SdAt w.drew S := ⟨h.box, h.mat.drew⟩
theorem LadAt.drew {w : World} {S : LSt} (h : LadAt w S) : LadAt w.drew S := ⟨h.lad, h.sides, h.box, h.mat.drew, fun t ht => by obtain ⟨V, hV⟩ := h.ext t ht; exact ⟨V, hV.sd.drew, hV.box3, hV.rel, hV.own, hV.apart⟩⟩
def swapR (R : List Hd) (i j : Nat) (hi : i < R.length) (hj : j < R.length) : List Hd := (R.set i R[j]).set j R[i]
def swp (i j m : Nat) : Nat := if m = j then i else if m = i then j else m
theorem swp_lt {i j m n : Nat} (hi : i < n) (hj : j < n) (hm : m < n) : swp i j m < n := by unfold swp; (repeat' split) <;> assumption
theorem swp_inj {i j a b : Nat} (h : swp i j a = swp i j b) : a = b := by unfold swp at h; (repeat' split at h) <;> omega
theorem swapR_length {R : List Hd} {i j : Nat} (hi : i < R.length) (hj : j < R.length) : (swapR R i j hi hj).length = R.length := by simp [swapR]
theorem swapR_get {R : List Hd} {i j m : Nat} (hi : i < R.length) (hj : j < R.length) (hm : m < R.length) : (swapR R i j hi hj)[m]'(by rw [swapR_length]; exact hm) = R[swp i j m]'(swp_lt hi hj hm) := by
 unfold swapR;rw [List.getElem_set];split
 · rename_i e; subst e; congr 1; unfold swp; rw [if_pos rfl]
 · rename_i e;rw [List.getElem_set];split
   · rename_i e'; subst e'; congr 1; unfold swp; rw [if_neg (fun h => e h.symm), if_pos rfl]
   · rename_i e'; congr 1; unfold swp; rw [if_neg (fun h => e h.symm), if_neg (fun h => e' h.symm)]
theorem swapR_hdr {R : List Hd} {i j : Nat} (hi : i < R.length) (hj : j < R.length) : (swapR R i j hi hj).map Hd.hdr = ((R.map Hd.hdr).set i (R[j]).hdr).set j (R[i]).hdr := by
 unfold swapR; rw [List.map_set, List.map_set]
theorem matN_swap {w w' : World} {o : Nat} {R : List Hd} (h : MatN w o R) {i j : Nat} (hi : i < R.length) (hj : j < R.length) (hc : Chg (· = o) w w') (hr : RowP w' o 22 (((R.map Hd.hdr).set i (R[j]).hdr).set j (R[i]).hdr)) : MatN w' o (swapR R i j hi hj) := by
 have hw : Wordless (· = o) w := by rintro g rfl; obtain ⟨tl, n, ho⟩ := h.out; exact ⟨_, _, ho, NoW.append (NoW_hdrs _) n⟩
 refine ⟨by rw [swapR_hdr]; exact hr, fun r hr' => ?_, ?_⟩
 · obtain ⟨m, hm, rfl⟩ := List.getElem_of_mem hr';rw [swapR_length] at hm;rw [swapR_get hi hj hm];have hmem := List.getElem_mem (l := R) (swp_lt hi hj hm);exact hc.rowN hw (h.row _ hmem) (h.ne hmem)
 · refine List.pairwise_iff_getElem.2 fun a b ha hb hab => ?_;have ha' : a < R.length := by simpa [swapR_length] using ha
   have hb' : b < R.length := by simpa [swapR_length] using hb
   simp only [List.getElem_map];rw [swapR_get hi hj ha', swapR_get hi hj hb'];exact blk_ne h.nd (swp_lt hi hj ha') (swp_lt hi hj hb') (fun e => by have := swp_inj e; omega)
theorem wp_region_L (J : (Nat -> Bool) -> (Nat -> Value) -> World -> Prop) (ds : List Nat) {P : Program} {ops : Array Oper} {Q : Exit -> Act -> World -> Prop} {id n : Nat} {a : Act} {w : World} (hm : P.follows .mixedOrders = true) (hn : ops.size = n)
 (hb : ((List.range n).all fun i => ((ops[i]?).map (·.after.all fun e => !Region.binds .any e || decide (e.on < i))).getD false) = true)
 (hF : a = putAll a (fun k => a.tmps.getD k undef) ds) (h0 : ∀ x, J (fun _ => false) x w.drew)
 (hs : ∀ i ∈ List.range n, ∀ L x w', J L x w' -> (∀ k < n, L k = true -> ∀ j ∈ preOf ops k, L j = true) -> L i = false -> (∀ j ∈ preOf ops i, L j = true) -> wpOp P ops Q i (fun a' w'' => ∃ x', a' = putAll a x' ds /\ J (updL L i) x' w'') (putAll a x ds) w')
 (hend : ∀ L x w', (∀ i < n, L i = true) -> J L x w' -> Q .normal (putAll a x ds) w') : (Code.region id ops true).wp P Q a w :=
 wp_region_inv hm hn hb (fun x => putAll a x ds) J (fun k => a.tmps.getD k undef) hF (h0 _) (fun i hi L x w' hJ hG hL hp => hs i (List.mem_range.2 hi) L x w' hJ (fun k hk hLk => preOf_spec L k (hG k hk hLk)) hL (preOf_spec L i hp)) hend
def swD (k : Nat) : Nat := if k < 13 then k + 5 else 18
def swV (S : LSt) (i j : Nat) (hi : i < S.R.length) (hj : j < S.R.length) (k : Nat) : Value := [.slice (some ⟨S.o, 0, none⟩) S.R.length S.cap, .int .i64 (i : Int), .slice (some ⟨S.o, 0, none⟩) S.R.length S.cap, .int .i64 (j : Int), .slice (some ⟨S.o, 0, none⟩) S.R.length S.cap, .int .i64 (j : Int), .pointer (some ⟨S.o, j, none⟩), .slice (some ⟨(S.R[j]'hj).blk, 0, none⟩) (S.R[j]'hj).xs.length (S.R[j]'hj).cap, .slice (some ⟨S.o, 0, none⟩) S.R.length S.cap, .int .i64 (i : Int), .pointer (some ⟨S.o, i, none⟩), .slice (some ⟨(S.R[i]'hi).blk, 0, none⟩) (S.R[i]'hi).xs.length (S.R[i]'hi).cap, .pointer (some ⟨S.o, i, none⟩), undef, .pointer (some ⟨S.o, j, none⟩), undef].getD k undef
def swW (S : LSt) (i j : Nat) (hi : i < S.R.length) (hj : j < S.R.length) (w : World) : Bool -> Bool -> World
 | true, true => (w.setCell ⟨S.o, i, none⟩ (.slice (some ⟨(S.R[j]'hj).blk, 0, none⟩) (S.R[j]'hj).xs.length (S.R[j]'hj).cap)).setCell ⟨S.o, j, none⟩ (.slice (some ⟨(S.R[i]'hi).blk, 0, none⟩) (S.R[i]'hi).xs.length (S.R[i]'hi).cap)
 | true, false => w.setCell ⟨S.o, i, none⟩ (.slice (some ⟨(S.R[j]'hj).blk, 0, none⟩) (S.R[j]'hj).xs.length (S.R[j]'hj).cap)
 | false, _ => w
def swJ (S : LSt) (i j : Nat) (hi : i < S.R.length) (hj : j < S.R.length) (w : World) (L : Nat -> Bool) (x : Nat -> Value) (w' : World) : Prop :=
 (∀ k, k < 16 -> k ≠ 13 -> k ≠ 15 -> L k = true -> x (swD k) = swV S i j hi hj k) /\ w' = swW S i j hi hj w (L 13) (L 15)
theorem swJ.pure {S : LSt} {i j : Nat} {hi : i < S.R.length} {hj : j < S.R.length} {w w' : World} {L : Nat -> Bool} {x : Nat -> Value} (h : swJ S i j hi hj w L x w') (k : Nat) (hk : Nat.blt k 16 = true) (h1 : Nat.beq k 13 = false) (h2 : Nat.beq k 15 = false) :
 swJ S i j hi hj w (updL L k) (updX x (swD k) (swV S i j hi hj k)) w' := by
 have hk := Nat.le_of_ble_eq_true hk;have h1 : k ≠ 13 := fun e => by subst e; cases h1
 have h2 : k ≠ 15 := fun e => by subst e; cases h2
 refine ⟨fun m hm hm1 hm2 hL => ?_, ?_⟩
 · unfold updX;by_cases e : m = k
   · subst e; rw [if_pos rfl]
   · rw [if_neg (by unfold swD; split <;> split <;> omega)];unfold updL at hL;rw [if_neg e] at hL;exact h.1 m hm hm1 hm2 hL
 · show w' = swW S i j hi hj w (updL L k 13) (updL L k 15);unfold updL;rw [if_neg (Ne.symm h1), if_neg (Ne.symm h2)];exact h.2
set_option maxRecDepth 100000 in
set_option maxHeartbeats 4000000 in
theorem LikeSwap_c (S : LSt) (i j : Nat) (w : World) (h : SdAt w S) (hi : i < S.R.length) (hj : j < S.R.length) (hij : i ≠ j) :
 Calls Tryz.prog 224 #[.int .i64 (i : Int), .int .i64 (j : Int), .pointer (some ⟨S.g, 0, none⟩)] w fun e w' => e = .returned (.tuple #[]) /\ SdAt w' (S.withR (swapR S.R i j hi hj)) /\ Chg S.rws w w' := by
 have hgo : S.g ≠ S.o := h.box.neP h.mat.out (by decide);have hog : ¬ S.o = S.g := fun e => hgo e.symm;have cg : w.cell? ⟨S.g, 0, none⟩ = some (.slice (some ⟨S.o, 0, none⟩) S.R.length S.cap) := h.box.cell 0;have ci : w.cell? ⟨S.o, i, none⟩ = some (.slice (some ⟨S.R[i].blk, 0, none⟩) S.R[i].xs.length S.R[i].cap) := h.mat.hdr hi;have cj : w.cell? ⟨S.o, j, none⟩ = some (.slice (some ⟨S.R[j].blk, 0, none⟩) S.R[j].xs.length S.R[j].cap) := h.mat.hdr hj;have fi := h.mat.out.free i;have fj := h.mat.out.free j;have hi' : (i : Int) < (S.R.length : Int) := by omega
 have hj' : (j : Int) < (S.R.length : Int) := by omega
 have hji : ¬ j = i := fun e => hij e.symm;have HL := Lib.hid h; clear h;go_enter Tryz.func224, Tryz.ntmps224;go_wp2;have hcell : ∀ a b, (swW S i j hi hj w.drew a b).cell? ⟨S.g, 0, none⟩ = some (.slice (some ⟨S.o, 0, none⟩) S.R.length S.cap) := by
  intro a b;cases a
  · exact cg
  · cases b
    · exact (World.cell?_setCell_far _ _ _ _ hog).trans cg
    · exact (World.cell?_setCell_far _ _ _ _ hog).trans ((World.cell?_setCell_far _ _ _ _ hog).trans cg)
 have HC := Lib.hid hcell;clear hcell;refine wp_region_L (swJ S i j hi hj w.drew) [5, 6, 7, 8, 9, 10, 11, 12, 13, 14, 15, 16, 17, 18] (n := 16) (by kernel_rfl) (by kernel_rfl) (by kernel_rfl) (by kernel_rfl) ?_ ?_ ?_
 · exact fun _ => ⟨fun _ _ _ _ h => by simp at h, rfl⟩
 · refine allc ?_ (allc ?_ (allc ?_ (allc ?_ (allc ?_ (allc ?_ (allc ?_ (allc ?_ (allc ?_ (allc ?_ (allc ?_ (allc ?_ (allc ?_ (allc ?_ (allc ?_ (allc ?_ alln)))))))))))))))
   · intro L x w' hJ hG hL hp;have c0 : w'.cell? ⟨S.g, 0, none⟩ = some (.slice (some ⟨S.o, 0, none⟩) S.R.length S.cap) := by rw [hJ.2]; exact HC.out _ _
     refine wpOp_step rfl (fun K hK => ?_);simp only [pN, Nat.reduceEqDiff, ↓reduceIte];go_simp;exact hK _ _ ⟨_, by kernel_rfl, hJ.pure 0 rfl rfl rfl⟩
   · intro L x w' hJ hG hL hp;refine wpOp_step rfl (fun K hK => ?_);simp only [pN, Nat.reduceEqDiff, ↓reduceIte];go_simp;exact hK _ _ ⟨_, by kernel_rfl, hJ.pure 1 rfl rfl rfl⟩
   · intro L x w' hJ hG hL hp;have c0 : w'.cell? ⟨S.g, 0, none⟩ = some (.slice (some ⟨S.o, 0, none⟩) S.R.length S.cap) := by rw [hJ.2]; exact HC.out _ _
     refine wpOp_step rfl (fun K hK => ?_);simp only [pN, Nat.reduceEqDiff, ↓reduceIte];go_simp;exact hK _ _ ⟨_, by kernel_rfl, hJ.pure 2 rfl rfl rfl⟩
   · intro L x w' hJ hG hL hp;refine wpOp_step rfl (fun K hK => ?_);simp only [pN, Nat.reduceEqDiff, ↓reduceIte];go_simp;exact hK _ _ ⟨_, by kernel_rfl, hJ.pure 3 rfl rfl rfl⟩
   · intro L x w' hJ hG hL hp;have c0 : w'.cell? ⟨S.g, 0, none⟩ = some (.slice (some ⟨S.o, 0, none⟩) S.R.length S.cap) := by rw [hJ.2]; exact HC.out _ _
     refine wpOp_step rfl (fun K hK => ?_);simp only [pN, Nat.reduceEqDiff, ↓reduceIte];go_simp;exact hK _ _ ⟨_, by kernel_rfl, hJ.pure 4 rfl rfl rfl⟩
   · intro L x w' hJ hG hL hp;refine wpOp_step rfl (fun K hK => ?_);simp only [pN, Nat.reduceEqDiff, ↓reduceIte];go_simp;exact hK _ _ ⟨_, by kernel_rfl, hJ.pure 5 rfl rfl rfl⟩
   · intro L x w' hJ hG hL hp;have e4 : x 9 = (.slice (some ⟨S.o, 0, none⟩) S.R.length S.cap) := hJ.1 4 (by decide) (by decide) (by decide) (hp 4 (by decide));have e5 : x 10 = (.int .i64 (j : Int)) := hJ.1 5 (by decide) (by decide) (by decide) (hp 5 (by decide));rw [patchX (x := x) (d := 9) e4] at hJ ⊢;rw [patchX (x := (updX x 9 (.slice (some ⟨S.o, 0, none⟩) S.R.length S.cap))) (d := 10) e5] at hJ ⊢;refine wpOp_step rfl (fun K hK => ?_);simp only [pN, Nat.reduceEqDiff, ↓reduceIte];go_simp;exact hK _ _ ⟨_, by kernel_rfl, hJ.pure 6 rfl rfl rfl⟩
   · intro L x w' hJ hG hL hp;have e6 : x 11 = (.pointer (some ⟨S.o, j, none⟩)) := hJ.1 6 (by decide) (by decide) (by decide) (hp 6 (by decide));rw [patchX (x := x) (d := 11) e6] at hJ ⊢;have h13 : L 13 = false := by cases h : L 13 with | false => rfl | true => have := hG 13 (by decide) h 7 (by decide); rw [hL] at this; cases this
     have hw : w' = w.drew := by rw [hJ.2, h13]; rfl
     rw [hw] at hJ ⊢;have cj' : w.drew.cell? ⟨S.o, j, none⟩ = some (.slice (some ⟨(S.R[j]'hj).blk, 0, none⟩) (S.R[j]'hj).xs.length (S.R[j]'hj).cap) := cj;refine wpOp_step rfl (fun K hK => ?_);simp only [pN, Nat.reduceEqDiff, ↓reduceIte];go_simp;exact hK _ _ ⟨_, by kernel_rfl, hJ.pure 7 rfl rfl rfl⟩
   · intro L x w' hJ hG hL hp;have c0 : w'.cell? ⟨S.g, 0, none⟩ = some (.slice (some ⟨S.o, 0, none⟩) S.R.length S.cap) := by rw [hJ.2]; exact HC.out _ _
     refine wpOp_step rfl (fun K hK => ?_);simp only [pN, Nat.reduceEqDiff, ↓reduceIte];go_simp;exact hK _ _ ⟨_, by kernel_rfl, hJ.pure 8 rfl rfl rfl⟩
   · intro L x w' hJ hG hL hp;refine wpOp_step rfl (fun K hK => ?_);simp only [pN, Nat.reduceEqDiff, ↓reduceIte];go_simp;exact hK _ _ ⟨_, by kernel_rfl, hJ.pure 9 rfl rfl rfl⟩
   · intro L x w' hJ hG hL hp;have e8 : x 13 = (.slice (some ⟨S.o, 0, none⟩) S.R.length S.cap) := hJ.1 8 (by decide) (by decide) (by decide) (hp 8 (by decide));have e9 : x 14 = (.int .i64 (i : Int)) := hJ.1 9 (by decide) (by decide) (by decide) (hp 9 (by decide));rw [patchX (x := x) (d := 13) e8] at hJ ⊢;rw [patchX (x := (updX x 13 (.slice (some ⟨S.o, 0, none⟩) S.R.length S.cap))) (d := 14) e9] at hJ ⊢;refine wpOp_step rfl (fun K hK => ?_);simp only [pN, Nat.reduceEqDiff, ↓reduceIte];go_simp;exact hK _ _ ⟨_, by kernel_rfl, hJ.pure 10 rfl rfl rfl⟩
   · intro L x w' hJ hG hL hp;have e10 : x 15 = (.pointer (some ⟨S.o, i, none⟩)) := hJ.1 10 (by decide) (by decide) (by decide) (hp 10 (by decide));rw [patchX (x := x) (d := 15) e10] at hJ ⊢;have h13 : L 13 = false := by cases h : L 13 with | false => rfl | true => have := hG 13 (by decide) h 11 (by decide); rw [hL] at this; cases this
     have hw : w' = w.drew := by rw [hJ.2, h13]; rfl
     rw [hw] at hJ ⊢;have ci' : w.drew.cell? ⟨S.o, i, none⟩ = some (.slice (some ⟨(S.R[i]'hi).blk, 0, none⟩) (S.R[i]'hi).xs.length (S.R[i]'hi).cap) := ci;refine wpOp_step rfl (fun K hK => ?_);simp only [pN, Nat.reduceEqDiff, ↓reduceIte];go_simp;exact hK _ _ ⟨_, by kernel_rfl, hJ.pure 11 rfl rfl rfl⟩
   · intro L x w' hJ hG hL hp;have e0 : x 5 = (.slice (some ⟨S.o, 0, none⟩) S.R.length S.cap) := hJ.1 0 (by decide) (by decide) (by decide) (hp 0 (by decide));have e1 : x 6 = (.int .i64 (i : Int)) := hJ.1 1 (by decide) (by decide) (by decide) (hp 1 (by decide));rw [patchX (x := x) (d := 5) e0] at hJ ⊢;rw [patchX (x := (updX x 5 (.slice (some ⟨S.o, 0, none⟩) S.R.length S.cap))) (d := 6) e1] at hJ ⊢;refine wpOp_step rfl (fun K hK => ?_);simp only [pN, Nat.reduceEqDiff, ↓reduceIte];go_simp;exact hK _ _ ⟨_, by kernel_rfl, hJ.pure 12 rfl rfl rfl⟩
   · intro L x w' hJ hG hL hp;have e12 : x 17 = (.pointer (some ⟨S.o, i, none⟩)) := hJ.1 12 (by decide) (by decide) (by decide) (hp 12 (by decide));have e7 : x 12 = (.slice (some ⟨(S.R[j]'hj).blk, 0, none⟩) (S.R[j]'hj).xs.length (S.R[j]'hj).cap) := hJ.1 7 (by decide) (by decide) (by decide) (hp 7 (by decide));rw [patchX (x := x) (d := 17) e12] at hJ ⊢;rw [patchX (x := (updX x 17 (.pointer (some ⟨S.o, i, none⟩)))) (d := 12) e7] at hJ ⊢;have hw : w' = w.drew := by rw [hJ.2, hL]; rfl
     rw [hw] at hJ ⊢;refine wpOp_step rfl (fun K hK => ?_);simp only [pN, Nat.reduceEqDiff, ↓reduceIte];go_simp;have h15 : L 15 = false := by cases h : L 15 with | false => rfl | true => have := hG 15 (by decide) h 13 (by decide); rw [hL] at this; cases this
     refine hK _ _ ⟨_, by kernel_rfl, fun m hm h1 h2 hLm => hJ.1 m hm h1 h2 (by unfold updL at hLm; rw [if_neg h1] at hLm; exact hLm), ?_⟩;have e1 : updL L 13 13 = true := rfl;have e2 : updL L 13 15 = false := h15;rw [e1, e2];rfl
   · intro L x w' hJ hG hL hp;have e2 : x 7 = (.slice (some ⟨S.o, 0, none⟩) S.R.length S.cap) := hJ.1 2 (by decide) (by decide) (by decide) (hp 2 (by decide));have e3 : x 8 = (.int .i64 (j : Int)) := hJ.1 3 (by decide) (by decide) (by decide) (hp 3 (by decide));rw [patchX (x := x) (d := 7) e2] at hJ ⊢;rw [patchX (x := (updX x 7 (.slice (some ⟨S.o, 0, none⟩) S.R.length S.cap))) (d := 8) e3] at hJ ⊢;refine wpOp_step rfl (fun K hK => ?_);simp only [pN, Nat.reduceEqDiff, ↓reduceIte];go_simp;exact hK _ _ ⟨_, by kernel_rfl, hJ.pure 14 rfl rfl rfl⟩
   · intro L x w' hJ hG hL hp;have e14 : x 18 = (.pointer (some ⟨S.o, j, none⟩)) := hJ.1 14 (by decide) (by decide) (by decide) (hp 14 (by decide));have e11 : x 16 = (.slice (some ⟨(S.R[i]'hi).blk, 0, none⟩) (S.R[i]'hi).xs.length (S.R[i]'hi).cap) := hJ.1 11 (by decide) (by decide) (by decide) (hp 11 (by decide));rw [patchX (x := x) (d := 18) e14] at hJ ⊢;rw [patchX (x := (updX x 18 (.pointer (some ⟨S.o, j, none⟩)))) (d := 16) e11] at hJ ⊢;have h13 : L 13 = true := hp 13 (by decide);have hw : w' = w.drew.setCell ⟨S.o, i, none⟩ (S.R[j]'hj).hdr := by rw [hJ.2, h13, hL]; rfl
     rw [hw] at hJ ⊢;refine wpOp_step rfl (fun K hK => ?_);simp only [pN, Nat.reduceEqDiff, ↓reduceIte];go_simp;refine hK _ _ ⟨_, by kernel_rfl, fun m hm h1 h2 hLm => hJ.1 m hm h1 h2 (by unfold updL at hLm; rw [if_neg h2] at hLm; exact hLm), ?_⟩;have e1 : updL L 15 13 = true := h13;have e2 : updL L 15 15 = true := rfl;rw [e1, e2];rfl
 · intro L x w' hL hJ;have hw : w' = (w.drew.setCell ⟨S.o, i, none⟩ (S.R[j]'hj).hdr).setCell ⟨S.o, j, none⟩ (S.R[i]'hi).hdr := by rw [hJ.2, hL 13 (by decide), hL 15 (by decide)]; rfl
   rw [hw];simp only [pN, Nat.reduceEqDiff, ↓reduceIte];go_wp2;refine bodyPost_end (results_none (by kernel_rfl) _ _ _) rfl ?_;have hC : Chg (· = S.o) w ((w.setCell ⟨S.o, i, none⟩ (S.R[j]).hdr).setCell ⟨S.o, j, none⟩ (S.R[i]).hdr) := ((Chg.refl (· = S.o) w).set (p := ⟨S.o, i, none⟩) rfl _).set (p := ⟨S.o, j, none⟩) rfl _;have hR := (HL.out.mat.out.set (i := i) (by simpa using hi) (S.R[j]).hdr).set (i := j) (by simpa using hj) (S.R[i]).hdr;have hM := matN_swap HL.out.mat hi hj hC hR;have hCo : Chg S.rws w ((w.setCell ⟨S.o, i, none⟩ (S.R[j]).hdr).setCell ⟨S.o, j, none⟩ (S.R[i]).hdr) := hC.mono (fun k _ e => .inl e);have hL := HL.out.rows hCo hM (swapR_length hi hj);exact ⟨rfl, SdAt.drew hL, hCo.drew⟩
def negRow (xs : List Int) : List Int := xs.map (fun x => -x)
def NegTo (xs cu : List Int) (m : Nat) : Prop := cu.length = xs.length /\ (∀ j (h : j < cu.length) (h1 : j < xs.length), j < m -> cu[j] = -xs[j]) /\ (∀ j (h : j < cu.length) (h1 : j < xs.length), m <= j -> cu[j] = xs[j])
theorem NegTo.start (xs : List Int) : NegTo xs xs 0 := ⟨rfl, fun _ _ _ h => by omega, fun _ _ _ _ => rfl⟩
theorem NegTo.next {xs cu : List Int} {m : Nat} (h : NegTo xs cu m) (hm : m < xs.length) : NegTo xs (cu.set m (-xs[m])) (m + 1) := by
 obtain ⟨h1, h2, h3⟩ := h;refine ⟨by simpa using h1, fun j hj hx hjm => ?_, fun j hj hx hjm => ?_⟩
 · rw [List.getElem_set];split
   · rename_i e; subst e; rfl
   · exact h2 j (by simpa using hj) hx (by omega)
 · rw [List.getElem_set, if_neg (by omega)];exact h3 j (by simpa using hj) hx (by omega)
theorem NegTo.all {xs cu : List Int} (h : NegTo xs cu xs.length) : cu = negRow xs := by
 obtain ⟨h1, h2, h3⟩ := h;refine List.ext_getElem (by simp [negRow, h1]) fun j hj hj' => ?_;rw [h2 j hj (by omega) (by omega)];simp [negRow]
def turnR (R : List Hd) (i : Nat) (hi : i < R.length) : List Hd := setXs R i (negRow R[i].xs)
set_option maxRecDepth 100000 in
set_option maxHeartbeats 4000000 in
theorem LikeTurn_c (S : LSt) (i : Nat) (w : World) (h : SdAt w S) (hi : i < S.R.length)
 (hxL : ∀ x ∈ S.R[i].xs, wlen x.natAbs <= 17592186044415) (hlen : S.R[i].xs.length <= 4611686018427387903) :
 Calls Tryz.prog 225 #[.int .i64 (i : Int), .pointer (some ⟨S.g, 0, none⟩)] w fun e w' => e = .returned (.tuple #[]) /\ SdAt w' (S.withR (turnR S.R i hi)) /\ Chg S.rws w w' := by
 have HXL := Lib.hid hxL; clear hxL;have cg : w.cell? ⟨S.g, 0, none⟩ = some (.slice (some ⟨S.o, 0, none⟩) S.R.length S.cap) := h.box.cell 0;have ci : w.cell? ⟨S.o, i, none⟩ = some (.slice (some ⟨S.R[i].blk, 0, none⟩) S.R[i].xs.length S.R[i].cap) := h.mat.hdr hi;have hi' : (i : Int) < (S.R.length : Int) := by omega
 have hX := Lib.hid (h.mat.row _ (List.getElem_mem hi));have hG := Lib.hid h.box;have hO := Lib.hid h.mat.out;have hob : S.o ≠ S.R[i].blk := fun e => h.mat.ne (List.getElem_mem hi) e.symm;have hgb : S.g ≠ S.R[i].blk := by
  obtain ⟨ps, tl, nt, hp, _⟩ := h.mat.row _ (List.getElem_mem hi);exact h.box.ne hp (by decide)
 have HL := Lib.hid h; clear h;go_enter Tryz.func225, Tryz.ntmps225;go_wp2;go_loopw [10] (fun c wr => ∃ (m : Nat) (cu : List Int), m <= S.R[i].xs.length /\ c = .int .i64 (m : Int) /\ Hid (NegTo S.R[i].xs cu m) /\ Hid (RowN wr S.R[i].blk cu) /\ Hid (RowAt wr S.g 63 [S.hdr]) /\ Hid (RowP wr S.o 22 (S.R.map Hd.hdr)) /\ Hid (Chg (· = S.R[i].blk) w wr)) (fun c _ => S.R[i].xs.length - (intOf c).toNat)
 case atStart => exact ⟨0, _, Nat.zero_le _, rfl, NegTo.start _, hX, hG, hO, Chg.refl ..⟩
 case round =>
  obtain ⟨m, cu, hm, rfl, HA, hX, hG, hO, hC⟩ := hrel;by_cases hml : m < S.R[i].xs.length
  · have hmx : m < cu.length := by rw [HA.out.1]; exact hml
    have hm2 : (m : Int) < (S.R[i].xs.length : Int) := by omega
    obtain ⟨px, cx0, cx1, hnx⟩ := hX.out.get hmx;have Hnx := Lib.hid hnx; clear hnx;clear cg ci;go_wp2;have hb1 : Below wr.heap.size wr (wr.alloc (.cells #[.bool px.1, .slice px.2.1 px.2.2.1 px.2.2.2] 44)) := (Below.refl _ _).alloc (Nat.le_refl _) _;have hr1 := RowAt.new wr #[.bool px.1, .slice px.2.1 px.2.2.1 px.2.2.2] 44;generalize wr.alloc (.cells #[.bool px.1, .slice px.2.1 px.2.2.1 px.2.2.2] 44) = w2 at *;have X2 := Lib.hid (hX.out.below hb1);have G2 := Lib.hid (hG.out.below hb1 hG.out.lt);have O2 := Lib.hid (hO.out.below hb1 hO.out.lt);have C2 := Lib.hid (hC.out.below hb1);have N2 := Lib.hid (Hnx.out.below hb1);have R2 := Lib.hid hr1;have hs1 : wr.heap.size < w2.heap.size := hr1.lt;have hxe : cu[m] = S.R[i].xs[m] := HA.out.2.2 m hmx hml (Nat.le_refl _);have hxw : wlen (S.R[i].xs[m]).natAbs <= 17592186044415 := HXL.out _ (List.getElem_mem hml);have N3 := N2.out;rw [hxe] at N3;have N3 := Lib.hid (N3.int hxw);clear hX hG hO hC Hnx N2 hb1 hr1 cx0 cx1 hxe;have cg : w2.cell? ⟨S.g, 0, none⟩ = some (.slice (some ⟨S.o, 0, none⟩) S.R.length S.cap) := G2.out.cell 0;have ci : w2.cell? ⟨S.o, i, none⟩ = some (.slice (some ⟨S.R[i].blk, 0, none⟩) S.R[i].xs.length S.R[i].cap) := by rw [O2.out.cell (by simpa using hi)]; simp [hi, Hd.hdr]
    have cx0 : w2.cell? ⟨wr.heap.size, 0, none⟩ = some (.bool px.1) := R2.out.cell 0;have cx1 : w2.cell? ⟨wr.heap.size, 1, none⟩ = some (.slice px.2.1 px.2.2.1 px.2.2.2) := R2.out.cell 1;have hg2 := G2.out.lt;have ho2 := O2.out.lt;refine wp_region_K ⟨8, fun q_ => [15, 16, 17, 18, 19, 20, 21, 22].getD q_ 0,
     fun q_ => [.val (.slice (some ⟨S.o, 0, none⟩) S.R.length S.cap), .val (.int .i64 (i : Int)), .val (.pointer (some ⟨S.o, i, none⟩)), .val (.slice (some ⟨S.R[i].blk, 0, none⟩) S.R[i].xs.length S.R[i].cap), .val (.int .i64 (m : Int)), .val (.agg #[.bool px.1, .slice px.2.1 px.2.2.1 px.2.2.2]), .int 0 (-S.R[i].xs[m]), .val (.pointer (some ⟨S.R[i].blk, m * 2, none⟩))].getD q_ .any,
     [],
     [(.agg #[.bool px.1, .slice px.2.1 px.2.2.1 px.2.2.2], .at_ 17592186044415 (S.R[i].xs[m]))],
     [],
     [], [(⟨S.g, 0, none⟩, .slice (some ⟨S.o, 0, none⟩) S.R.length S.cap), (⟨S.o, i, none⟩, .slice (some ⟨S.R[i].blk, 0, none⟩) S.R[i].xs.length S.R[i].cap), (⟨wr.heap.size, 0, none⟩, .bool px.1), (⟨wr.heap.size, 1, none⟩, .slice px.2.1 px.2.2.1 px.2.2.2)], []⟩ [15, 16, 17, 18, 19, 20, 21, 22] (w2.heap.size) (by kernel_rfl) (by kernel_rfl) (by kernel_rfl) (by kernel_rfl) (by kernel_rfl) ?_ ?_ ?_ ?_ ?_ ?_
    · intro p hp;rcases mc hp with rfl | hp
      · exact N3.out
      cases hp
    · intro p hp;cases hp
    · intro p hp;rcases mc hp with rfl | hp
      · refine ⟨cg, by show S.g < w2.heap.size; omega, ?_⟩;intro t ht;cases ht
      rcases mc hp with rfl | hp
      · refine ⟨ci, by show S.o < w2.heap.size; omega, ?_⟩;intro t ht;cases ht
      rcases mc hp with rfl | hp
      · refine ⟨cx0, by show wr.heap.size < w2.heap.size; omega, ?_⟩;intro t ht;cases ht
      rcases mc hp with rfl | hp
      · refine ⟨cx1, by show wr.heap.size < w2.heap.size; omega, ?_⟩;intro t ht;cases ht
      cases hp
    · intro t ht;cases ht
    · refine allc ?_ (allc ?_ (allc ?_ (allc ?_ (allc ?_ (allc ?_ (allc ?_ (allc ?_ alln)))))));any_goals (first | (intro L fx w' hJ hL hp hcl; have _ := hp0 hp (by decide +kernel); refine wps rfl fun K hK => ?_; go_simp; exact hJ.q hK (by kernel_rfl) rfl) | fail)
      · intro L fx w' hJ hL hp hcl;refine wps rfl fun K hK => ?_;have cl0 := (hJ.cells _ mm0).1;try dsimp only at cl0
        go_simp;exact hJ.q hK (by kernel_rfl) rfl
      · intro L fx w' hJ hL hp hcl;have e0 := hJ.pt 0 15 (.slice (some ⟨S.o, 0, none⟩) S.R.length S.cap) rfl rfl rfl (hp 0 (by decide));rw [e0] at hJ ⊢; clear e0;have e1 := hJ.pt 1 16 (.int .i64 (i : Int)) rfl rfl rfl (hp 1 (by decide));rw [e1] at hJ ⊢; clear e1;refine wps rfl fun K hK => ?_;go_simp;exact hJ.q hK (by kernel_rfl) rfl
      · intro L fx w' hJ hL hp hcl;have e2 := hJ.pt 2 17 (.pointer (some ⟨S.o, i, none⟩)) rfl rfl rfl (hp 2 (by decide));rw [e2] at hJ ⊢; clear e2;refine wps rfl fun K hK => ?_;have cl0 := (hJ.cells _ mm1).1;try dsimp only at cl0
        go_simp;exact hJ.q hK (by kernel_rfl) rfl
      · intro L fx w' hJ hL hp hcl;refine wps rfl fun K hK => ?_;have cl0 := (hJ.cells _ mm2).1;have cl1 := (hJ.cells _ mm3).1;try dsimp only at cl0 cl1
        go_simp;exact hJ.q hK (by kernel_rfl) rfl
      · intro L fx w' hJ hL hp hcl;have e5 := hJ.pt 5 20 (.agg #[.bool px.1, .slice px.2.1 px.2.2.1 px.2.2.2]) rfl rfl rfl (hp 5 (by decide));rw [e5] at hJ ⊢; clear e5;refine wps rfl fun K hK => ?_;go_simp;go_at_call 81;refine (INeg_c _ (S.R[i].xs[m]) _ (show IntAt w' _ _ _ from hJ.base _ mm0)).mono ?_;rintro e w4 ⟨⟨v5, rfl, h5⟩, hb4⟩;try dsimp only
        exact hK _ _ ⟨_, by kernel_rfl, hJ.gC 6 rfl (by kernel_rfl) hb4 (OwnI.mono h5 (Nat.zero_le _)) (by omega)⟩
      · intro L fx w' hJ hL hp hcl;have e3 := hJ.pt 3 18 (.slice (some ⟨S.R[i].blk, 0, none⟩) S.R[i].xs.length S.R[i].cap) rfl rfl rfl (hp 3 (by decide));rw [e3] at hJ ⊢; clear e3;have e4 := hJ.pt 4 19 (.int .i64 (m : Int)) rfl rfl rfl (hp 4 (by decide));rw [e4] at hJ ⊢; clear e4;refine wps rfl fun K hK => ?_;go_simp;exact hJ.q hK (by kernel_rfl) rfl
    · intro L x' w3 hL hJ;have hfr : Below w2.drew.heap.size w2.drew w3 := hJ.fr;have e11 : OwnI w3 0 (x' 21) (-S.R[i].xs[m]) := hJ.slot 6 (by show 6 < 8; decide) (hL 6 (by show 6 < 8; decide));have e12 : x' 22 = .pointer (some ⟨S.R[i].blk, m * 2, none⟩) := hJ.slot 7 (by show 7 < 8; decide) (hL 7 (by show 7 < 8; decide));obtain ⟨pz, hpz⟩ := NumAt.parts e11.num;rw [hpz] at e11;unfold av at hpz;rw [patchX (x := x') (d := 21) hpz];rw [patchX (x := updX x' 21 (.agg #[.bool pz.1, .slice pz.2.1 pz.2.2.1 pz.2.2.2])) (d := 22) (v := .pointer (some ⟨S.R[i].blk, m * 2, none⟩)) e12];clear hJ hL cg ci cx0 cx1;have X3 := Lib.hid (RowN.below (w := w2.drew) X2.out hfr);have G3 := Lib.hid (RowAt.below (w := w2.drew) G2.out hfr G2.out.lt);have O3 := Lib.hid (RowP.below (w := w2.drew) O2.out hfr O2.out.lt);have C3 := Lib.hid (C2.out.drew.below hfr);obtain ⟨pq, q0, q1, _⟩ := X3.out.get hmx;have q2 := X3.out.free (m * 2);have q3 := X3.out.free (m * 2 + 1);refine wps rfl fun K hK => ?_;go_simp;refine hK _ _ ⟨⟨updX (updX x' 21 (.agg #[.bool pz.1, .slice pz.2.1 pz.2.2.1 pz.2.2.2])) 22 (.pointer (some ⟨S.R[i].blk, m * 2, none⟩)), by kernel_rfl⟩, ?_⟩;clear hK q0 q1 q2 q3;go_wp2;go_roundw
      case rel =>
       exact ⟨m + 1, _, by omega, by go_num, HA.out.next hml, Lib.hid (X3.out.set m e11.num), Lib.hid ((G3.out.other (by show S.g ≠ S.R[i].blk; exact hgb) _).other (by show S.g ≠ S.R[i].blk; exact hgb) _), Lib.hid ((O3.out.other (by show S.o ≠ S.R[i].blk; exact hob) _).other (by show S.o ≠ S.R[i].blk; exact hob) _), Lib.hid ((C3.out.set (p := ⟨S.R[i].blk, m * 2, none⟩) rfl _).set (p := ⟨S.R[i].blk, m * 2 + 1, none⟩) rfl _)⟩
      case measure => simp [intOf]; omega
  · obtain rfl : m = S.R[i].xs.length := by omega
    have he := HA.out.all;have HE := Lib.hid he;clear he;go_wp2;refine bodyPost_end (results_none (by kernel_rfl) _ _ _) rfl ?_;have hR4 := hX.out;rw [HE.out] at hR4;have hCo : Chg S.rws w wr := hC.out.mono (fun k _ e => .inr ⟨S.R[i], List.getElem_mem hi, e.symm⟩);have hM4 := HL.out.mat.setXs hi (by simp [negRow]) hC.out hR4;exact ⟨rfl, HL.out.rows hCo hM4 (by unfold turnR; rw [setXs_length]), hCo⟩
attribute [local go_sem] run_store_fn
def AV.at2 (L : Nat) (x y : Int) : AV := AV.free (fun w v => ∃ p q : P4, v = .agg #[.bool p.1, .slice p.2.1 p.2.2.1 p.2.2.2, .bool q.1, .slice q.2.1 q.2.2.1 q.2.2.2] /\ IntAt w L (av p) x /\ IntAt w L (av q) y)
 (fun ⟨p, q, e, h1, h2⟩ hb => ⟨p, q, e, h1.below hb, h2.below hb⟩) (fun ⟨p, q, e, h1, h2⟩ hr hn _ k u _ => ⟨p, q, e, IntAt.setRow h1 hr hn k u, IntAt.setRow h2 hr hn k u⟩)
def AV.at4 (L : Nat) (a b c d : Int) : AV := AV.free (fun w v => ∃ p q r s : P4, v = .agg #[.bool p.1, .slice p.2.1 p.2.2.1 p.2.2.2, .bool q.1, .slice q.2.1 q.2.2.1 q.2.2.2, .bool r.1, .slice r.2.1 r.2.2.1 r.2.2.2, .bool s.1, .slice s.2.1 s.2.2.1 s.2.2.2] /\ IntAt w L (av p) a /\ IntAt w L (av q) b /\ IntAt w L (av r) c /\ IntAt w L (av s) d)
 (fun ⟨p, q, r, s, e, h1, h2, h3, h4⟩ hb => ⟨p, q, r, s, e, h1.below hb, h2.below hb, h3.below hb, h4.below hb⟩) (fun ⟨p, q, r, s, e, h1, h2, h3, h4⟩ hr hn _ k u _ => ⟨p, q, r, s, e, IntAt.setRow h1 hr hn k u, IntAt.setRow h2 hr hn k u, IntAt.setRow h3 hr hn k u, IntAt.setRow h4 hr hn k u⟩)
def CV.at4 (L : Nat) (a b c d : Int) : CV := CV.free (fun w v => ∃ p q r s : P4, v = [.bool p.1, .slice p.2.1 p.2.2.1 p.2.2.2, .bool q.1, .slice q.2.1 q.2.2.1 q.2.2.2, .bool r.1, .slice r.2.1 r.2.2.1 r.2.2.2, .bool s.1, .slice s.2.1 s.2.2.1 s.2.2.2] /\ IntAt w L (av p) a /\ IntAt w L (av q) b /\ IntAt w L (av r) c /\ IntAt w L (av s) d)
 (fun ⟨p, q, r, s, e, h1, h2, h3, h4⟩ hb => ⟨p, q, r, s, e, h1.below hb, h2.below hb, h3.below hb, h4.below hb⟩) (fun ⟨p, q, r, s, e, h1, h2, h3, h4⟩ hr hn _ k u _ => ⟨p, q, r, s, e, IntAt.setRow h1 hr hn k u, IntAt.setRow h2 hr hn k u, IntAt.setRow h3 hr hn k u, IntAt.setRow h4 hr hn k u⟩)
theorem list8 {cs : List Value} (h : cs.length = 8) : ∃ a b c d e f g i, cs = [a, b, c, d, e, f, g, i] := by
 match cs, h with
 | [a, b, c, d, e, f, g, i], _ => exact ⟨a, b, c, d, e, f, g, i, rfl⟩
set_option maxRecDepth 100000 in
set_option maxHeartbeats 4000000 in
theorem AgAdd_c (T : LSt) (g3 i j : Nat) (kv : Value) (k : Int) (LA LB : Nat) (w : World) (h : SdAt w T) (h3 : RowAt w g3 63 [T.hdr]) (hi : i < T.R.length) (hj : j < T.R.length) (hij : i ≠ j) (hK : IntAt w LA kv k) (hl : T.R[j].xs.length = T.R[i].xs.length)
 (hxL : ∀ x ∈ T.R[j].xs, wlen x.natAbs <= 17592186044415) (hyL : ∀ y ∈ T.R[i].xs, wlen y.natAbs <= LB) (hLab : LA + LB <= 17592186044415) (hlen : T.R[j].xs.length <= 4611686018427387903) :
 Calls Tryz.prog 210 #[.int .i64 (i : Int), .int .i64 (j : Int), kv, .pointer (some ⟨g3, 0, none⟩)] w fun e w' => e = .returned (.tuple #[]) /\ SdAt w' (T.withR (addR T.R j i (-k) hj hi)) /\ Chg T.rws w w' := by
 obtain ⟨kp, rfl⟩ := hK.parts;have hkw := hK.wlen;have HK := Lib.hid hK; clear hK;have HL := Lib.hid h; clear h;have HXL := Lib.hid hxL; clear hxL;have HYL := Lib.hid hyL; clear hyL;have Hl := Lib.hid hl; clear hl;go_enter Tryz.func210, Tryz.ntmps210;unfold av at *;go_wp2;have hb1 : Below w.heap.size w (w.alloc (.cells #[.bool kp.1, .slice kp.2.1 kp.2.2.1 kp.2.2.2] 44)) := (Below.refl _ _).alloc (Nat.le_refl _) _;have hr1 := RowAt.new w #[.bool kp.1, .slice kp.2.1 kp.2.2.1 kp.2.2.2] 44;generalize w.alloc (.cells #[.bool kp.1, .slice kp.2.1 kp.2.2.1 kp.2.2.2] 44) = w1 at *;have hbox := h3.below hb1 h3.lt;have hM1 := HL.out.mat.below hb1;have hK1 := HK.out.below hb1;have HX1 := Lib.hid (hM1.row _ (List.getElem_mem hj));have HY1 := Lib.hid (hM1.row _ (List.getElem_mem hi));have hne := blk_ne hM1.nd hj hi (fun e => hij e.symm);have cg : w1.cell? ⟨g3, 0, none⟩ = some (.slice (some ⟨T.o, 0, none⟩) T.R.length T.cap) := hbox.cell 0;have ci : w1.cell? ⟨T.o, i, none⟩ = some (.slice (some ⟨T.R[i].blk, 0, none⟩) T.R[i].xs.length T.R[i].cap) := hM1.hdr hi;have cj : w1.cell? ⟨T.o, j, none⟩ = some (.slice (some ⟨T.R[j].blk, 0, none⟩) T.R[j].xs.length T.R[j].cap) := hM1.hdr hj;have ck0 : w1.cell? ⟨w.heap.size, 0, none⟩ = some (.bool kp.1) := hr1.cell 0;have ck1 : w1.cell? ⟨w.heap.size, 1, none⟩ = some (.slice kp.2.1 kp.2.2.1 kp.2.2.2) := hr1.cell 1;have hs0 : g3 < w1.heap.size := hbox.lt;have hs1 : T.o < w1.heap.size := hM1.out.lt;have hs2 : w.heap.size < w1.heap.size := hr1.lt;have hi' : (i : Int) < (T.R.length : Int) := by omega
 have hj' : (j : Int) < (T.R.length : Int) := by omega
 have HM1 := Lib.hid hM1; clear hM1;have HK1 := Lib.hid (hK1.mono (L' := 17592186044415) (by omega)); clear hK1;have HB1 := Lib.hid hb1; clear hb1;clear hr1 hbox h3;refine wp_region_K ⟨10, fun q_ => [7, 8, 9, 10, 11, 12, 13, 14, 15, 16].getD q_ 0,
  fun q_ => [.val (.slice (some ⟨T.o, 0, none⟩) T.R.length T.cap), .val (.int .i64 (j : Int)), .val (.pointer (some ⟨T.o, j, none⟩)), .val (.slice (some ⟨T.R[j].blk, 0, none⟩) T.R[j].xs.length T.R[j].cap), .val (.slice (some ⟨T.o, 0, none⟩) T.R.length T.cap), .val (.int .i64 (i : Int)), .val (.pointer (some ⟨T.o, i, none⟩)), .val (.slice (some ⟨T.R[i].blk, 0, none⟩) T.R[i].xs.length T.R[i].cap), .val (.agg #[.bool kp.1, .slice kp.2.1 kp.2.2.1 kp.2.2.2]), .int 0 (-k)].getD q_ .any,
  [],
  [(.agg #[.bool kp.1, .slice kp.2.1 kp.2.2.1 kp.2.2.2], .at_ 17592186044415 k)],
  [],
  [], [(⟨g3, 0, none⟩, .slice (some ⟨T.o, 0, none⟩) T.R.length T.cap), (⟨T.o, i, none⟩, .slice (some ⟨T.R[i].blk, 0, none⟩) T.R[i].xs.length T.R[i].cap), (⟨T.o, j, none⟩, .slice (some ⟨T.R[j].blk, 0, none⟩) T.R[j].xs.length T.R[j].cap), (⟨w.heap.size, 0, none⟩, .bool kp.1), (⟨w.heap.size, 1, none⟩, .slice kp.2.1 kp.2.2.1 kp.2.2.2)], []⟩ [7, 8, 9, 10, 11, 12, 13, 14, 15, 16, 17] (w1.heap.size) (by kernel_rfl) (by kernel_rfl) (by kernel_rfl) (by kernel_rfl) (by kernel_rfl) ?_ ?_ ?_ ?_ ?_ ?_
 · exact allq (HK1.out) allz
 · exact allz
 · exact allq (⟨cg, by dsimp only; omega, allz⟩) (allq (⟨ci, by dsimp only; omega, allz⟩) (allq (⟨cj, by dsimp only; omega, allz⟩) (allq (⟨ck0, by dsimp only; omega, allz⟩) (allq (⟨ck1, by dsimp only; omega, allz⟩) allz))))
 · exact allz
 · refine allc ?_ (allc ?_ (allc ?_ (allc ?_ (allc ?_ (allc ?_ (allc ?_ (allc ?_ (allc ?_ (allc ?_ alln)))))))));any_goals (first | (intro L fx w' hJ hL hp hcl; have _ := hp0 hp (by decide +kernel); refine wps rfl fun K hK => ?_; go_simp; exact hJ.q hK (by kernel_rfl) rfl) | fail)
   · intro L fx w' hJ hL hp hcl;refine wps rfl fun K hK => ?_;have cl0 := (hJ.cells _ mm0).1;try dsimp only at cl0
     go_simp;exact hJ.q hK (by kernel_rfl) rfl
   · intro L fx w' hJ hL hp hcl;have e0 := hJ.pt 0 7 (.slice (some ⟨T.o, 0, none⟩) T.R.length T.cap) rfl rfl rfl (hp 0 (by decide));rw [e0] at hJ ⊢; clear e0;have e1 := hJ.pt 1 8 (.int .i64 (j : Int)) rfl rfl rfl (hp 1 (by decide));rw [e1] at hJ ⊢; clear e1;refine wps rfl fun K hK => ?_;go_simp;exact hJ.q hK (by kernel_rfl) rfl
   · intro L fx w' hJ hL hp hcl;have e2 := hJ.pt 2 9 (.pointer (some ⟨T.o, j, none⟩)) rfl rfl rfl (hp 2 (by decide));rw [e2] at hJ ⊢; clear e2;refine wps rfl fun K hK => ?_;have cl0 := (hJ.cells _ mm2).1;try dsimp only at cl0
     go_simp;exact hJ.q hK (by kernel_rfl) rfl
   · intro L fx w' hJ hL hp hcl;refine wps rfl fun K hK => ?_;have cl0 := (hJ.cells _ mm0).1;try dsimp only at cl0
     go_simp;exact hJ.q hK (by kernel_rfl) rfl
   · intro L fx w' hJ hL hp hcl;have e4 := hJ.pt 4 11 (.slice (some ⟨T.o, 0, none⟩) T.R.length T.cap) rfl rfl rfl (hp 4 (by decide));rw [e4] at hJ ⊢; clear e4;have e5 := hJ.pt 5 12 (.int .i64 (i : Int)) rfl rfl rfl (hp 5 (by decide));rw [e5] at hJ ⊢; clear e5;refine wps rfl fun K hK => ?_;go_simp;exact hJ.q hK (by kernel_rfl) rfl
   · intro L fx w' hJ hL hp hcl;have e6 := hJ.pt 6 13 (.pointer (some ⟨T.o, i, none⟩)) rfl rfl rfl (hp 6 (by decide));rw [e6] at hJ ⊢; clear e6;refine wps rfl fun K hK => ?_;have cl0 := (hJ.cells _ mm1).1;try dsimp only at cl0
     go_simp;exact hJ.q hK (by kernel_rfl) rfl
   · intro L fx w' hJ hL hp hcl;refine wps rfl fun K hK => ?_;have cl0 := (hJ.cells _ mm3).1;have cl1 := (hJ.cells _ mm4).1;try dsimp only at cl0 cl1
     go_simp;exact hJ.q hK (by kernel_rfl) rfl
   · intro L fx w' hJ hL hp hcl;have e8 := hJ.pt 8 15 (.agg #[.bool kp.1, .slice kp.2.1 kp.2.2.1 kp.2.2.2]) rfl rfl rfl (hp 8 (by decide));rw [e8] at hJ ⊢; clear e8;refine wps rfl fun K hK => ?_;go_simp;go_at_call 81;refine (INeg_c _ k _ (show IntAt w' _ _ _ from hJ.base _ mm0)).mono ?_;rintro e w4 ⟨⟨v5, rfl, h5⟩, hb4⟩;try dsimp only
     exact hK _ _ ⟨_, by kernel_rfl, hJ.gC 9 rfl (by kernel_rfl) hb4 (OwnI.mono h5 (Nat.zero_le _)) (by omega)⟩
 · intro L x' w3 hL hJ;have hfr : Below w1.drew.heap.size w1.drew w3 := hJ.fr;have e3 : x' 10 = .slice (some ⟨T.R[j].blk, 0, none⟩) T.R[j].xs.length T.R[j].cap := hJ.slot 3 (by show 3 < 10; decide) (hL 3 (by show 3 < 10; decide));have e7 : x' 14 = .slice (some ⟨T.R[i].blk, 0, none⟩) T.R[i].xs.length T.R[i].cap := hJ.slot 7 (by show 7 < 10; decide) (hL 7 (by show 7 < 10; decide));have e9 : OwnI w3 0 (x' 16) (-k) := hJ.slot 9 (by show 9 < 10; decide) (hL 9 (by show 9 < 10; decide));obtain ⟨pn, hpn⟩ := NumAt.parts e9.num;rw [hpn] at e9;unfold av at hpn;rw [patchX (x := x') (d := 10) (v := .slice (some ⟨T.R[j].blk, 0, none⟩) T.R[j].xs.length T.R[j].cap) e3];rw [patchX (x := updX x' 10 (.slice (some ⟨T.R[j].blk, 0, none⟩) T.R[j].xs.length T.R[j].cap)) (d := 14) (v := .slice (some ⟨T.R[i].blk, 0, none⟩) T.R[i].xs.length T.R[i].cap) e7];rw [patchX (x := updX (updX x' 10 (.slice (some ⟨T.R[j].blk, 0, none⟩) T.R[j].xs.length T.R[j].cap)) 14 (.slice (some ⟨T.R[i].blk, 0, none⟩) T.R[i].xs.length T.R[i].cap)) (d := 16) (v := .agg #[.bool pn.1, .slice pn.2.1 pn.2.2.1 pn.2.2.2]) hpn];have HN := Lib.hid (e9.num.int (L := LA) (by rw [Int.natAbs_neg]; exact hkw));clear hJ hL e3 e7 e9 hpn cg ci cj ck0 ck1;refine wps rfl fun K hK => ?_;go_simp;go_at_call 211;refine (LAdd_c _ _ _ _ LA LB _ _ _ (-k) _ (RowN.below (w := w1.drew) HX1.out hfr) (RowN.below (w := w1.drew) HY1.out hfr) HN.out hne Hl.out HXL.out HYL.out hLab hlen).mono ?_;rintro e w4 ⟨rfl, hR4, hC4⟩;try dsimp only
   refine hK _ _ ⟨⟨updX (updX (updX (updX x' 10 (.slice (some ⟨T.R[j].blk, 0, none⟩) T.R[j].xs.length T.R[j].cap)) 14 (.slice (some ⟨T.R[i].blk, 0, none⟩) T.R[i].xs.length T.R[i].cap)) 16 (.agg #[.bool pn.1, .slice pn.2.1 pn.2.2.1 pn.2.2.2])) 17 (.tuple #[]), by kernel_rfl⟩, ?_⟩;clear hK;go_wp2;refine bodyPost_end (results_none (by kernel_rfl) _ _ _) rfl ?_;have hCs : Chg (· = T.R[j].blk) w w4 := ((Chg.of_below HB1.out).drew.below hfr).trans (hC4.mono (fun k _ e => e));have hCo : Chg T.rws w w4 := hCs.mono (fun k _ e => .inr ⟨T.R[j], List.getElem_mem hj, e.symm⟩);have hM4 := HL.out.mat.setXs hj (addRow_length Hl.out) hCs hR4;exact ⟨rfl, HL.out.rows hCo hM4 (by unfold addR; rw [setXs_length]), hCo⟩
set_option maxRecDepth 100000 in
set_option maxHeartbeats 4000000 in
theorem AgMix_c (T : LSt) (g3 i j : Nat) (mp mq mr ms : P4) (a b c d : Int) (LA LB : Nat) (w : World) (h : SdAt w T) (h3 : RowAt w g3 63 [T.hdr]) (hi : i < T.R.length) (hj : j < T.R.length) (hij : i ≠ j) (hA : IntAt w LA (av mp) a) (hB : IntAt w LA (av mq) b) (hC : IntAt w LA (av mr) c) (hD : IntAt w LA (av ms) d) (hl : T.R[i].xs.length = T.R[j].xs.length)
 (hxL : ∀ x ∈ T.R[i].xs, wlen x.natAbs <= LB) (hyL : ∀ y ∈ T.R[j].xs, wlen y.natAbs <= LB) (hLab : LA + LB <= 17592186044415) (hlen : T.R[i].xs.length <= 4611686018427387903) :
 Calls Tryz.prog 212 #[.int .i64 (i : Int), .int .i64 (j : Int), .agg #[.bool mp.1, .slice mp.2.1 mp.2.2.1 mp.2.2.2, .bool mq.1, .slice mq.2.1 mq.2.2.1 mq.2.2.2, .bool mr.1, .slice mr.2.1 mr.2.2.1 mr.2.2.2, .bool ms.1, .slice ms.2.1 ms.2.2.1 ms.2.2.2], .pointer (some ⟨g3, 0, none⟩)] w fun e w' => e = .returned (.tuple #[]) /\ SdAt w' (T.withR (mixR T.R i j d (-c) (-b) a hi hj)) /\ Chg T.rws w w' := by
 have HL := Lib.hid h; clear h;have HXL := Lib.hid hxL; clear hxL;have HYL := Lib.hid hyL; clear hyL;have Hl := Lib.hid hl; clear hl;have hbw := hB.wlen;have hcw := hC.wlen;have HA := Lib.hid hA; clear hA;have HB := Lib.hid hB; clear hB;have HC := Lib.hid hC; clear hC;have HD := Lib.hid hD; clear hD;go_enter Tryz.func212, Tryz.ntmps212;unfold av at *;go_wp2;have hb1 : Below w.heap.size w (w.alloc (.cells #[.bool mp.1, .slice mp.2.1 mp.2.2.1 mp.2.2.2, .bool mq.1, .slice mq.2.1 mq.2.2.1 mq.2.2.2, .bool mr.1, .slice mr.2.1 mr.2.2.1 mr.2.2.2, .bool ms.1, .slice ms.2.1 ms.2.2.1 ms.2.2.2] 199)) := (Below.refl _ _).alloc (Nat.le_refl _) _;have hr1 := RowAt.new w #[.bool mp.1, .slice mp.2.1 mp.2.2.1 mp.2.2.2, .bool mq.1, .slice mq.2.1 mq.2.2.1 mq.2.2.2, .bool mr.1, .slice mr.2.1 mr.2.2.1 mr.2.2.2, .bool ms.1, .slice ms.2.1 ms.2.2.1 ms.2.2.2] 199;generalize w.alloc (.cells #[.bool mp.1, .slice mp.2.1 mp.2.2.1 mp.2.2.2, .bool mq.1, .slice mq.2.1 mq.2.2.1 mq.2.2.2, .bool mr.1, .slice mr.2.1 mr.2.2.1 mr.2.2.2, .bool ms.1, .slice ms.2.1 ms.2.2.1 ms.2.2.2] 199) = w1 at *;have hbox := h3.below hb1 h3.lt;have HA1 := Lib.hid (HA.out.below hb1);have HB1' := Lib.hid (HB.out.below hb1);have HC1 := Lib.hid (HC.out.below hb1);have HD1 := Lib.hid (HD.out.below hb1);have hM1 := HL.out.mat.below hb1;have hne := blk_ne hM1.nd hi hj hij;have HR1 := Lib.hid hr1;have HG1 := Lib.hid hbox;have HM1 := Lib.hid hM1; clear hM1;have hs2 : w.heap.size < w1.heap.size := hr1.lt;have HB1 := Lib.hid hb1; clear hb1;clear hr1 hbox h3;refine wp_region_J ⟨19, fun q_ => [8, 9, 10, 11, 12, 13, 14, 15, 16, 17, 18, 19, 20, 21, 22, 23, 24, 7, 1018].getD q_ 0,
  fun q_ => [.val (.pointer (some ⟨w.heap.size, 4, none⟩)), .val (.pointer (some ⟨w.heap.size, 6, none⟩)), .val (.agg #[.bool ms.1, .slice ms.2.1 ms.2.2.1 ms.2.2.2]), .val (.pointer (some ⟨w.heap.size, 4, none⟩)), .val (.pointer (some ⟨w.heap.size, 4, none⟩)), .val (.agg #[.bool mr.1, .slice mr.2.1 mr.2.2.1 mr.2.2.2]), .int 0 (-c), .at2 LA d (-c), .val (.pointer (some ⟨w.heap.size, 0, none⟩)), .val (.pointer (some ⟨w.heap.size, 2, none⟩)), .val (.agg #[.bool mq.1, .slice mq.2.1 mq.2.2.1 mq.2.2.2]), .int 0 (-b), .val (.pointer (some ⟨w.heap.size, 0, none⟩)), .val (.pointer (some ⟨w.heap.size, 0, none⟩)), .val (.agg #[.bool mp.1, .slice mp.2.1 mp.2.2.1 mp.2.2.2]), .at2 LA (-b) a, .at4 LA d (-c) (-b) a, .ptr w1.heap.size 199 8, .any].getD q_ .any,
  [],
  [(.agg #[.bool mp.1, .slice mp.2.1 mp.2.2.1 mp.2.2.2], .at_ LA a), (.agg #[.bool mq.1, .slice mq.2.1 mq.2.2.1 mq.2.2.2], .at_ LA b), (.agg #[.bool mr.1, .slice mr.2.1 mr.2.2.1 mr.2.2.2], .at_ LA c), (.agg #[.bool ms.1, .slice ms.2.1 ms.2.2.1 ms.2.2.2], .at_ LA d)],
  [(w.heap.size, 199, [.bool mp.1, .slice mp.2.1 mp.2.2.1 mp.2.2.2, .bool mq.1, .slice mq.2.1 mq.2.2.1 mq.2.2.2, .bool mr.1, .slice mr.2.1 mr.2.2.1 mr.2.2.2, .bool ms.1, .slice ms.2.1 ms.2.2.1 ms.2.2.2])],
  [(18, 7, 199, .at4 LA d (-c) (-b) a)], [], [(17, 7)]⟩ [8, 9, 10, 11, 12, 13, 14, 15, 16, 17, 18, 19, 20, 21, 22, 23, 24, 7] (w1.heap.size) (by kernel_rfl) (by kernel_rfl) (by kernel_rfl) (by kernel_rfl) ?_ ?_ ?_ ?_ ?_ ?_
 · exact allq (HA1.out) (allq (HB1'.out) (allq (HC1.out) (allq (HD1.out) allz)))
 · exact allq (⟨HR1.out, (HR1.out).lt, allz⟩) allz
 · exact allz
 · exact allz
 · refine allc ?_ (allc ?_ (allc ?_ (allc ?_ (allc ?_ (allc ?_ (allc ?_ (allc ?_ (allc ?_ (allc ?_ (allc ?_ (allc ?_ (allc ?_ (allc ?_ (allc ?_ (allc ?_ (allc ?_ (allc ?_ (allc ?_ alln))))))))))))))))));any_goals (first | (intro L fx w' hJ hL hp hcl; have _ := hp0 hp (by decide +kernel); refine wps rfl fun K hK => ?_; go_simp; exact hJ.q hK (by kernel_rfl) rfl) | fail)
   · intro L fx w' hJ hL hp hcl;have e0 := hJ.pt 0 8 (.pointer (some ⟨w.heap.size, 4, none⟩)) rfl rfl rfl (hp 0 (by decide));rw [e0] at hJ ⊢; clear e0;refine wps rfl fun K hK => ?_;go_simp;exact hJ.q hK (by kernel_rfl) rfl
   · intro L fx w' hJ hL hp hcl;have e1 := hJ.pt 1 9 (.pointer (some ⟨w.heap.size, 6, none⟩)) rfl rfl rfl (hp 1 (by decide));rw [e1] at hJ ⊢; clear e1;refine wps rfl fun K hK => ?_;have rw0 := (hJ.rows _ mm0).1;have cl0 : w'.cell? ⟨w.heap.size, 6, none⟩ = some (.bool ms.1) := rw0.cell 6;have cl1 : w'.cell? ⟨w.heap.size, 7, none⟩ = some (.slice ms.2.1 ms.2.2.1 ms.2.2.2) := rw0.cell 7;go_simp;exact hJ.q hK (by kernel_rfl) rfl
   · intro L fx w' hJ hL hp hcl;have e3 := hJ.pt 3 11 (.pointer (some ⟨w.heap.size, 4, none⟩)) rfl rfl rfl (hp 3 (by decide));rw [e3] at hJ ⊢; clear e3;refine wps rfl fun K hK => ?_;go_simp;exact hJ.q hK (by kernel_rfl) rfl
   · intro L fx w' hJ hL hp hcl;have e4 := hJ.pt 4 12 (.pointer (some ⟨w.heap.size, 4, none⟩)) rfl rfl rfl (hp 4 (by decide));rw [e4] at hJ ⊢; clear e4;refine wps rfl fun K hK => ?_;have rw0 := (hJ.rows _ mm0).1;have cl0 : w'.cell? ⟨w.heap.size, 4, none⟩ = some (.bool mr.1) := rw0.cell 4;have cl1 : w'.cell? ⟨w.heap.size, 5, none⟩ = some (.slice mr.2.1 mr.2.2.1 mr.2.2.2) := rw0.cell 5;go_simp;exact hJ.q hK (by kernel_rfl) rfl
   · intro L fx w' hJ hL hp hcl;have e5 := hJ.pt 5 13 (.agg #[.bool mr.1, .slice mr.2.1 mr.2.2.1 mr.2.2.2]) rfl rfl rfl (hp 5 (by decide));rw [e5] at hJ ⊢; clear e5;refine wps rfl fun K hK => ?_;go_simp;go_at_call 81;refine (INeg_c _ c _ (IntAt.mono (show IntAt w' LA _ _ from hJ.base _ mm2) (by omega))).mono ?_;rintro e w4 ⟨⟨v5, rfl, h5⟩, hb4⟩;try dsimp only
     exact hK _ _ ⟨_, by kernel_rfl, hJ.gC 6 rfl (by kernel_rfl) hb4 (OwnI.mono h5 (Nat.zero_le _)) (by omega)⟩
   · intro L fx w' hJ hL hp hcl;have e6 := hJ.slot 6 (by show 6 < 19; decide) (hp 6 (by decide));have e2 := hJ.pt 2 10 (.agg #[.bool ms.1, .slice ms.2.1 ms.2.2.1 ms.2.2.2]) rfl rfl rfl (hp 2 (by decide));rw [e2] at hJ ⊢; clear e2;have e6' := e6;obtain ⟨b7, o7, l7, k7, hv7⟩ := OwnI.parts e6;rw [hv7] at e6';rw [patchX (x := (updX fx 10 (.agg #[.bool ms.1, .slice ms.2.1 ms.2.2.1 ms.2.2.2]))) (d := 14) (v := (.agg #[.bool b7, .slice o7 l7 k7])) hv7] at hJ ⊢;refine wps rfl fun K hK => ?_;go_simp;exact hK _ _ ⟨_, by kernel_rfl, hJ.pC 7 rfl (by kernel_rfl) ⟨ms, (b7, o7, l7, k7), rfl, (show IntAt w' LA _ _ from hJ.base _ mm3), OwnI.int e6' (by rw [Int.natAbs_neg]; exact hcw)⟩ (by omega)⟩
   · intro L fx w' hJ hL hp hcl;have e8 := hJ.pt 8 16 (.pointer (some ⟨w.heap.size, 0, none⟩)) rfl rfl rfl (hp 8 (by decide));rw [e8] at hJ ⊢; clear e8;refine wps rfl fun K hK => ?_;go_simp;exact hJ.q hK (by kernel_rfl) rfl
   · intro L fx w' hJ hL hp hcl;have e9 := hJ.pt 9 17 (.pointer (some ⟨w.heap.size, 2, none⟩)) rfl rfl rfl (hp 9 (by decide));rw [e9] at hJ ⊢; clear e9;refine wps rfl fun K hK => ?_;have rw0 := (hJ.rows _ mm0).1;have cl0 : w'.cell? ⟨w.heap.size, 2, none⟩ = some (.bool mq.1) := rw0.cell 2;have cl1 : w'.cell? ⟨w.heap.size, 3, none⟩ = some (.slice mq.2.1 mq.2.2.1 mq.2.2.2) := rw0.cell 3;go_simp;exact hJ.q hK (by kernel_rfl) rfl
   · intro L fx w' hJ hL hp hcl;have e10 := hJ.pt 10 18 (.agg #[.bool mq.1, .slice mq.2.1 mq.2.2.1 mq.2.2.2]) rfl rfl rfl (hp 10 (by decide));rw [e10] at hJ ⊢; clear e10;refine wps rfl fun K hK => ?_;go_simp;go_at_call 81;refine (INeg_c _ b _ (IntAt.mono (show IntAt w' LA _ _ from hJ.base _ mm1) (by omega))).mono ?_;rintro e w4 ⟨⟨v5, rfl, h5⟩, hb4⟩;try dsimp only
     exact hK _ _ ⟨_, by kernel_rfl, hJ.gC 11 rfl (by kernel_rfl) hb4 (OwnI.mono h5 (Nat.zero_le _)) (by omega)⟩
   · intro L fx w' hJ hL hp hcl;have e12 := hJ.pt 12 20 (.pointer (some ⟨w.heap.size, 0, none⟩)) rfl rfl rfl (hp 12 (by decide));rw [e12] at hJ ⊢; clear e12;refine wps rfl fun K hK => ?_;go_simp;exact hJ.q hK (by kernel_rfl) rfl
   · intro L fx w' hJ hL hp hcl;have e13 := hJ.pt 13 21 (.pointer (some ⟨w.heap.size, 0, none⟩)) rfl rfl rfl (hp 13 (by decide));rw [e13] at hJ ⊢; clear e13;refine wps rfl fun K hK => ?_;have rw0 := (hJ.rows _ mm0).1;have cl0 : w'.cell? ⟨w.heap.size, 0, none⟩ = some (.bool mp.1) := rw0.cell 0;have cl1 : w'.cell? ⟨w.heap.size, 1, none⟩ = some (.slice mp.2.1 mp.2.2.1 mp.2.2.2) := rw0.cell 1;go_simp;exact hJ.q hK (by kernel_rfl) rfl
   · intro L fx w' hJ hL hp hcl;have e11 := hJ.slot 11 (by show 11 < 19; decide) (hp 11 (by decide));have e14 := hJ.pt 14 22 (.agg #[.bool mp.1, .slice mp.2.1 mp.2.2.1 mp.2.2.2]) rfl rfl rfl (hp 14 (by decide));rw [e14] at hJ ⊢; clear e14;have e11' := e11;obtain ⟨b7, o7, l7, k7, hv7⟩ := OwnI.parts e11;rw [hv7] at e11';rw [patchX (x := (updX fx 22 (.agg #[.bool mp.1, .slice mp.2.1 mp.2.2.1 mp.2.2.2]))) (d := 19) (v := (.agg #[.bool b7, .slice o7 l7 k7])) hv7] at hJ ⊢;refine wps rfl fun K hK => ?_;go_simp;exact hK _ _ ⟨_, by kernel_rfl, hJ.pC 15 rfl (by kernel_rfl) ⟨(b7, o7, l7, k7), mp, rfl, OwnI.int e11' (by rw [Int.natAbs_neg]; exact hbw), (show IntAt w' LA _ _ from hJ.base _ mm0)⟩ (by omega)⟩
   · intro L fx w' hJ hL hp hcl;have e7 := hJ.slot 7 (by show 7 < 19; decide) (hp 7 (by decide));have e15 := hJ.slot 15 (by show 15 < 19; decide) (hp 15 (by decide));obtain ⟨p1, q1, hv1, hP1, hQ1⟩ := e7;rw [patchX (x := fx) (d := 15) (v := (.agg #[.bool p1.1, .slice p1.2.1 p1.2.2.1 p1.2.2.2, .bool q1.1, .slice q1.2.1 q1.2.2.1 q1.2.2.2])) hv1] at hJ ⊢;obtain ⟨p2, q2, hv2, hP2, hQ2⟩ := e15;rw [patchX (x := (updX fx 15 (.agg #[.bool p1.1, .slice p1.2.1 p1.2.2.1 p1.2.2.2, .bool q1.1, .slice q1.2.1 q1.2.2.1 q1.2.2.2]))) (d := 23) (v := (.agg #[.bool p2.1, .slice p2.2.1 p2.2.2.1 p2.2.2.2, .bool q2.1, .slice q2.2.1 q2.2.2.1 q2.2.2.2])) hv2] at hJ ⊢;refine wps rfl fun K hK => ?_;go_simp;exact hK _ _ ⟨_, by kernel_rfl, hJ.pC 16 rfl (by kernel_rfl) ⟨p1, q1, p2, q2, rfl, hP1, hQ1, hP2, hQ2⟩ (by omega)⟩
   · intro L fx w' hJ hL hp hcl;have hg0 : w1.heap.size <= w'.heap.size := Nat.le_trans (by omega : w1.heap.size <= w1.heap.size) hJ.size;refine wps rfl fun K hK => ?_;go_simp;exact hK _ _ ⟨_, by kernel_rfl, hJ.grow 17 (by show 17 < 19; decide) _ (by kernel_rfl) (by kernel_rfl) (by intro t ht; rcases mc ht with rfl | ht; exact ⟨by show 18 ≠ 17; decide, fun _ => by cases hh : L 18 with | false => rfl | true => have := hcl 18 (by show 18 < 19; decide) hh 17 (by decide); rw [hL] at this; cases this⟩; cases ht) (by intro p hp; rcases mc hp with rfl | hp; exact ⟨⟨fun _ => rfl, fun _ => rfl⟩, fun _ q hq hne hLq => (by rcases mc hq with rfl | hq; exact absurd rfl hne; cases hq)⟩; cases hp) ((Below.refl _ _).alloc (Nat.le_refl _) _) ⟨w'.heap.size, _, rfl, hJ.size, RowAt.new _ _ _, NoW.bool (NoW.slice (NoW.bool (NoW.slice (NoW.bool (NoW.slice (NoW.bool (NoW.slice NoW.nil))))))), rfl⟩ hg0⟩
   · intro L fx w' hJ hL hp hcl;have e17 := hJ.slot 17 (by show 17 < 19; decide) (hp 17 (by decide));have e16 := hJ.slot 16 (by show 16 < 19; decide) (hp 16 (by decide));obtain ⟨p1, p2, p3, p4, hv0, hP1, hP2, hP3, hP4⟩ := e16;rw [patchX (x := fx) (d := 24) (v := (.agg #[.bool p1.1, .slice p1.2.1 p1.2.2.1 p1.2.2.2, .bool p2.1, .slice p2.2.1 p2.2.2.1 p2.2.2.2, .bool p3.1, .slice p3.2.1 p3.2.2.1 p3.2.2.2, .bool p4.1, .slice p4.2.1 p4.2.2.1 p4.2.2.2])) hv0] at hJ ⊢;obtain ⟨g, cs, hx, hgB, hr0, hn0, hl0⟩ := e17;obtain ⟨z0, z1, z2, z3, z4, z5, z6, z7, rfl⟩ : ∃ z0 z1 z2 z3 z4 z5 z6 z7, cs = [z0, z1, z2, z3, z4, z5, z6, z7] := list8 hl0;have hf0 := RowAt.free hr0 0;have hc0 := RowAt.cell hr0 0;have hf1 := RowAt.free hr0 1;have hc1 := RowAt.cell hr0 1;have hf2 := RowAt.free hr0 2;have hc2 := RowAt.cell hr0 2;have hf3 := RowAt.free hr0 3;have hc3 := RowAt.cell hr0 3;have hf4 := RowAt.free hr0 4;have hc4 := RowAt.cell hr0 4;have hf5 := RowAt.free hr0 5;have hc5 := RowAt.cell hr0 5;have hf6 := RowAt.free hr0 6;have hc6 := RowAt.cell hr0 6;have hf7 := RowAt.free hr0 7;have hc7 := RowAt.cell hr0 7;try dsimp only at hf0 hc0 hf1 hc1 hf2 hc2 hf3 hc3 hf4 hc4 hf5 hc5 hf6 hc6 hf7 hc7
     have hx1 := hx;rw [patchX (x := (updX fx 24 (.agg #[.bool p1.1, .slice p1.2.1 p1.2.2.1 p1.2.2.2, .bool p2.1, .slice p2.2.1 p2.2.2.1 p2.2.2.2, .bool p3.1, .slice p3.2.1 p3.2.2.1 p3.2.2.2, .bool p4.1, .slice p4.2.1 p4.2.2.1 p4.2.2.2]))) (d := 7) hx] at hJ ⊢;refine wps rfl fun K hK => ?_;go_simp;exact hK _ _ ⟨_, by kernel_rfl, hJ.storeNew (us := [.bool p1.1, .slice p1.2.1 p1.2.2.1 p1.2.2.2, .bool p2.1, .slice p2.2.1 p2.2.2.1 p2.2.2.2, .bool p3.1, .slice p3.2.1 p3.2.2.1 p3.2.2.2, .bool p4.1, .slice p4.2.1 p4.2.2.1 p4.2.2.2]) 18 7 _ _ (by show 18 < 19; decide) rfl mm0 (by intro t ht h; rcases mc ht with rfl | ht; rfl; cases ht) (by intro t ht hne hLt; rcases mc ht with rfl | ht; exact absurd rfl hne; cases ht) (by kernel_rfl) (by kernel_rfl) (by decide) (by rfl) hgB hr0 hn0 rfl (NoW.bool (NoW.slice (NoW.bool (NoW.slice (NoW.bool (NoW.slice (NoW.bool (NoW.slice NoW.nil)))))))) ⟨p1, p2, p3, p4, rfl, hP1, hP2, hP3, hP4⟩ (by omega)⟩
 · intro L x' w3 hL hJ;have hfr : Below w1.drew.heap.size w1.drew w3 := hJ.fr;obtain ⟨g9, cs9, hx9, hg9, hr9, p1, p2, p3, p4, hcs9, hP1, hP2, hP3, hP4⟩ := hJ.new _ mm0 (hL 18 (by show 18 < 19; decide));subst hcs9;have hx9 : x' 7 = _ := hx9;rw [patchX (x := x') (d := 7) hx9];have hg9 : w1.heap.size <= g9 := hg9;have hbd : Below w1.heap.size w1 w3 := ((Below.refl w1.heap.size w1).drew).trans hfr;have HR9 := Lib.hid hr9;have N1 := Lib.hid (show IntAt w3 LA (av p1) d from hP1);have N2 := Lib.hid (show IntAt w3 LA (av p2) (-c) from hP2);have N3 := Lib.hid (show IntAt w3 LA (av p3) (-b) from hP3);have N4 := Lib.hid (show IntAt w3 LA (av p4) a from hP4);have hM3 := HM1.out.below hbd;have HX3 := Lib.hid (hM3.row _ (List.getElem_mem hi));have HY3 := Lib.hid (hM3.row _ (List.getElem_mem hj));have cg : w3.cell? ⟨g3, 0, none⟩ = some (.slice (some ⟨T.o, 0, none⟩) T.R.length T.cap) := (HG1.out.below hbd HG1.out.lt).cell 0;have ci : w3.cell? ⟨T.o, i, none⟩ = some (.slice (some ⟨T.R[i].blk, 0, none⟩) T.R[i].xs.length T.R[i].cap) := hM3.hdr hi;have cj : w3.cell? ⟨T.o, j, none⟩ = some (.slice (some ⟨T.R[j].blk, 0, none⟩) T.R[j].xs.length T.R[j].cap) := hM3.hdr hj;have hs0 : g3 < w3.heap.size := Nat.lt_of_lt_of_le HG1.out.lt hbd.size;have hs1 : T.o < w3.heap.size := hM3.out.lt;have hs9 : g9 < w3.heap.size := hr9.lt;have hi' : (i : Int) < (T.R.length : Int) := by omega
   have hj' : (j : Int) < (T.R.length : Int) := by omega
   have HBD := Lib.hid hbd;clear hJ hL hx9 hr9 hP1 hP2 hP3 hP4 hM3 hfr hbd;simp only [pN, Nat.reduceEqDiff, ↓reduceIte];go_wp2;refine wp_region_K ⟨9, fun q_ => [25, 26, 27, 28, 29, 30, 31, 32, 33].getD q_ 0,
    fun q_ => [.val (.slice (some ⟨T.o, 0, none⟩) T.R.length T.cap), .val (.int .i64 (i : Int)), .val (.pointer (some ⟨T.o, i, none⟩)), .val (.slice (some ⟨T.R[i].blk, 0, none⟩) T.R[i].xs.length T.R[i].cap), .val (.slice (some ⟨T.o, 0, none⟩) T.R.length T.cap), .val (.int .i64 (j : Int)), .val (.pointer (some ⟨T.o, j, none⟩)), .val (.slice (some ⟨T.R[j].blk, 0, none⟩) T.R[j].xs.length T.R[j].cap), .val (.agg #[.bool p1.1, .slice p1.2.1 p1.2.2.1 p1.2.2.2, .bool p2.1, .slice p2.2.1 p2.2.2.1 p2.2.2.2, .bool p3.1, .slice p3.2.1 p3.2.2.1 p3.2.2.2, .bool p4.1, .slice p4.2.1 p4.2.2.1 p4.2.2.2])].getD q_ .any,
    [],
    [],
    [(g9, 199, [.bool p1.1, .slice p1.2.1 p1.2.2.1 p1.2.2.2, .bool p2.1, .slice p2.2.1 p2.2.2.1 p2.2.2.2, .bool p3.1, .slice p3.2.1 p3.2.2.1 p3.2.2.2, .bool p4.1, .slice p4.2.1 p4.2.2.1 p4.2.2.2])],
    [], [(⟨g3, 0, none⟩, .slice (some ⟨T.o, 0, none⟩) T.R.length T.cap), (⟨T.o, i, none⟩, .slice (some ⟨T.R[i].blk, 0, none⟩) T.R[i].xs.length T.R[i].cap), (⟨T.o, j, none⟩, .slice (some ⟨T.R[j].blk, 0, none⟩) T.R[j].xs.length T.R[j].cap)], []⟩ [25, 26, 27, 28, 29, 30, 31, 32, 33, 34] (w3.heap.size) (by kernel_rfl) (by kernel_rfl) (by kernel_rfl) (by kernel_rfl) (by kernel_rfl) ?_ ?_ ?_ ?_ ?_ ?_
   · exact allz
   · exact allq (⟨HR9.out, (HR9.out).lt, allz⟩) allz
   · exact allq (⟨cg, by dsimp only; omega, allz⟩) (allq (⟨ci, by dsimp only; omega, allz⟩) (allq (⟨cj, by dsimp only; omega, allz⟩) allz))
   · exact allz
   · refine allc ?_ (allc ?_ (allc ?_ (allc ?_ (allc ?_ (allc ?_ (allc ?_ (allc ?_ (allc ?_ alln))))))));any_goals (first | (intro L fx w' hJ hL hp hcl; have _ := hp0 hp (by decide +kernel); refine wps rfl fun K hK => ?_; go_simp; exact hJ.q hK (by kernel_rfl) rfl) | fail)
     · intro L fx w' hJ hL hp hcl;refine wps rfl fun K hK => ?_;have cl0 := (hJ.cells _ mm0).1;try dsimp only at cl0
       go_simp;exact hJ.q hK (by kernel_rfl) rfl
     · intro L fx w' hJ hL hp hcl;have e0 := hJ.pt 0 25 (.slice (some ⟨T.o, 0, none⟩) T.R.length T.cap) rfl rfl rfl (hp 0 (by decide));rw [e0] at hJ ⊢; clear e0;have e1 := hJ.pt 1 26 (.int .i64 (i : Int)) rfl rfl rfl (hp 1 (by decide));rw [e1] at hJ ⊢; clear e1;refine wps rfl fun K hK => ?_;go_simp;exact hJ.q hK (by kernel_rfl) rfl
     · intro L fx w' hJ hL hp hcl;have e2 := hJ.pt 2 27 (.pointer (some ⟨T.o, i, none⟩)) rfl rfl rfl (hp 2 (by decide));rw [e2] at hJ ⊢; clear e2;refine wps rfl fun K hK => ?_;have cl0 := (hJ.cells _ mm1).1;try dsimp only at cl0
       go_simp;exact hJ.q hK (by kernel_rfl) rfl
     · intro L fx w' hJ hL hp hcl;refine wps rfl fun K hK => ?_;have cl0 := (hJ.cells _ mm0).1;try dsimp only at cl0
       go_simp;exact hJ.q hK (by kernel_rfl) rfl
     · intro L fx w' hJ hL hp hcl;have e4 := hJ.pt 4 29 (.slice (some ⟨T.o, 0, none⟩) T.R.length T.cap) rfl rfl rfl (hp 4 (by decide));rw [e4] at hJ ⊢; clear e4;have e5 := hJ.pt 5 30 (.int .i64 (j : Int)) rfl rfl rfl (hp 5 (by decide));rw [e5] at hJ ⊢; clear e5;refine wps rfl fun K hK => ?_;go_simp;exact hJ.q hK (by kernel_rfl) rfl
     · intro L fx w' hJ hL hp hcl;have e6 := hJ.pt 6 31 (.pointer (some ⟨T.o, j, none⟩)) rfl rfl rfl (hp 6 (by decide));rw [e6] at hJ ⊢; clear e6;refine wps rfl fun K hK => ?_;have cl0 := (hJ.cells _ mm2).1;try dsimp only at cl0
       go_simp;exact hJ.q hK (by kernel_rfl) rfl
     · intro L fx w' hJ hL hp hcl;refine wps rfl fun K hK => ?_;have rw0 := (hJ.rows _ mm0).1;have cl0 : w'.cell? ⟨g9, 0, none⟩ = some (.bool p1.1) := rw0.cell 0;have cl1 : w'.cell? ⟨g9, 1, none⟩ = some (.slice p1.2.1 p1.2.2.1 p1.2.2.2) := rw0.cell 1;have cl2 : w'.cell? ⟨g9, 2, none⟩ = some (.bool p2.1) := rw0.cell 2;have cl3 : w'.cell? ⟨g9, 3, none⟩ = some (.slice p2.2.1 p2.2.2.1 p2.2.2.2) := rw0.cell 3;have cl4 : w'.cell? ⟨g9, 4, none⟩ = some (.bool p3.1) := rw0.cell 4;have cl5 : w'.cell? ⟨g9, 5, none⟩ = some (.slice p3.2.1 p3.2.2.1 p3.2.2.2) := rw0.cell 5;have cl6 : w'.cell? ⟨g9, 6, none⟩ = some (.bool p4.1) := rw0.cell 6;have cl7 : w'.cell? ⟨g9, 7, none⟩ = some (.slice p4.2.1 p4.2.2.1 p4.2.2.2) := rw0.cell 7;go_simp;exact hJ.q hK (by kernel_rfl) rfl
   · intro L x' w5 hL hJ;have hfr : Below w3.drew.heap.size w3.drew w5 := hJ.fr;have e3 : x' 28 = .slice (some ⟨T.R[i].blk, 0, none⟩) T.R[i].xs.length T.R[i].cap := hJ.slot 3 (by show 3 < 9; decide) (hL 3 (by show 3 < 9; decide));have e7 : x' 32 = .slice (some ⟨T.R[j].blk, 0, none⟩) T.R[j].xs.length T.R[j].cap := hJ.slot 7 (by show 7 < 9; decide) (hL 7 (by show 7 < 9; decide));have e8 : x' 33 = .agg #[.bool p1.1, .slice p1.2.1 p1.2.2.1 p1.2.2.2, .bool p2.1, .slice p2.2.1 p2.2.2.1 p2.2.2.2, .bool p3.1, .slice p3.2.1 p3.2.2.1 p3.2.2.2, .bool p4.1, .slice p4.2.1 p4.2.2.1 p4.2.2.2] := hJ.slot 8 (by show 8 < 9; decide) (hL 8 (by show 8 < 9; decide));rw [patchX (x := x') (d := 28) (v := .slice (some ⟨T.R[i].blk, 0, none⟩) T.R[i].xs.length T.R[i].cap) e3];rw [patchX (x := (updX x' 28 (.slice (some ⟨T.R[i].blk, 0, none⟩) T.R[i].xs.length T.R[i].cap))) (d := 32) (v := .slice (some ⟨T.R[j].blk, 0, none⟩) T.R[j].xs.length T.R[j].cap) e7];rw [patchX (x := (updX (updX x' 28 (.slice (some ⟨T.R[i].blk, 0, none⟩) T.R[i].xs.length T.R[i].cap)) 32 (.slice (some ⟨T.R[j].blk, 0, none⟩) T.R[j].xs.length T.R[j].cap))) (d := 33) (v := .agg #[.bool p1.1, .slice p1.2.1 p1.2.2.1 p1.2.2.2, .bool p2.1, .slice p2.2.1 p2.2.2.1 p2.2.2.2, .bool p3.1, .slice p3.2.1 p3.2.2.1 p3.2.2.2, .bool p4.1, .slice p4.2.1 p4.2.2.1 p4.2.2.2]) e8];clear hJ hL e3 e7 e8 cg ci cj;refine wps rfl fun K hK => ?_;go_simp;go_at_call 213;refine (LMix_c _ _ _ _ LA LB _ _ p1 p2 p3 p4 d (-c) (-b) a _ (RowN.below (w := w3.drew) HX3.out hfr) (RowN.below (w := w3.drew) HY3.out hfr) (IntAt.below (w := w3.drew) N1.out hfr) (IntAt.below (w := w3.drew) N2.out hfr) (IntAt.below (w := w3.drew) N3.out hfr) (IntAt.below (w := w3.drew) N4.out hfr) hne Hl.out HXL.out HYL.out hLab hlen).mono ?_;rintro e w6 ⟨rfl, hR4, hR4', hC4⟩;try dsimp only
     refine hK _ _ ⟨⟨updX (updX (updX (updX x' 28 (.slice (some ⟨T.R[i].blk, 0, none⟩) T.R[i].xs.length T.R[i].cap)) 32 (.slice (some ⟨T.R[j].blk, 0, none⟩) T.R[j].xs.length T.R[j].cap)) 33 (.agg #[.bool p1.1, .slice p1.2.1 p1.2.2.1 p1.2.2.2, .bool p2.1, .slice p2.2.1 p2.2.2.1 p2.2.2.2, .bool p3.1, .slice p3.2.1 p3.2.2.1 p3.2.2.2, .bool p4.1, .slice p4.2.1 p4.2.2.1 p4.2.2.2])) 34 (.tuple #[]), by kernel_rfl⟩, ?_⟩;clear hK;go_wp2;refine bodyPost_end (results_none (by kernel_rfl) _ _ _) rfl ?_;have hCs : Chg (fun k => k = T.R[i].blk ∨ k = T.R[j].blk) w w6 := (((Chg.of_below HB1.out).below HBD.out).drew.below hfr).trans (hC4.mono (fun k _ e => e));have hCo : Chg T.rws w w6 := hCs.mono (fun k _ e => .inr (e.elim (fun e => ⟨T.R[i], List.getElem_mem hi, e.symm⟩) (fun e => ⟨T.R[j], List.getElem_mem hj, e.symm⟩)));have hM4 := matN_setXs2 HL.out.mat hi hj hij (mixRow_length Hl.out) ((mixRow_length Hl.out).trans Hl.out) hCs hR4 hR4';exact ⟨rfl, HL.out.rows hCo hM4 (by unfold mixR; rw [setXs_length, setXs_length]), hCo⟩
end Go.Proofs.YtajmkebkgmbfnaaGreat
