/- Part 7 of 9 of the proof that the law GroupSmith returns true for every input of bulk at most 1048576 and leaves its arguments as they were. -/
import Derived.Test.YtbgecfleamckcaaGreatGsF
set_option linter.all false
set_option maxRecDepth 100000
set_option maxHeartbeats 4000000
namespace Go.Proofs.YtbgecfleamckcaaGreat
open Go.RowKit
theorem wh {w : World} {l : Nat} {o o' : Obj} (hl : w.heap[l]? = some o) (hn : o.isCells = false) {p : Addr} {v : Value} (h : w.cell? p = some v) : (w.putObj l o').cell? p = some v := by
 by_cases e : p.block = l
 . exfalso;unfold World.cell? at h;rw [e, hl] at h;cases o <;> simp_all [Obj.isCells]
 . exact (World.cell?_of_block (World.putObj_heap_other e)).trans h
theorem sS {w : World} {l : Nat} {o o' x : Obj} (hl : w.heap[l]? = some o) (hn : o.isCells = false) {b : Nat} (h : w.heap[b]? = some x) (hx : x.isCells = true) : (w.putObj l o').heap[b]? = some x := by
 by_cases e : b = l
 . subst e; rw [hl] at h; cases h; rw [hn] at hx; cases hx
 . rw [World.putObj_heap_other e]; exact h
theorem kT {w : World} {l : Nat} {o o' : Obj} (hl : w.heap[l]? = some o) (hn : o.isCells = false) {b : Nat} {t : TypeId} {cs : List Value} (h : a6 w b t cs) : a6 (w.putObj l o') b t cs := sS hl hn h rfl
theorem ya {w : World} {l : Nat} {o o' : Obj} (hl : w.heap[l]? = some o) (hn : o.isCells = false) {ao : Option Addr} {ws : List Nat} (h : cU w ao ws) : cU (w.putObj l o') ao ws := by
 refine ⟨h.1, fun hp => ?_⟩;obtain ⟨b, q, e, hb, hc⟩ := h.2 hp;exact ⟨b, q, e, by rw [show (w.putObj l o').heap.size = w.heap.size by simp]; exact hb, fun i hi => wh hl hn (hc i hi)⟩
theorem xg {w : World} {l : Nat} {o o' : Obj} (hl : w.heap[l]? = some o) (hn : o.isCells = false) {L : Nat} {v : Value} {x : Int} (h : a8 w L v x) : a8 (w.putObj l o') L v x := by
 obtain ⟨n, ao, len, cap, ws, e, hW, r⟩ := h;exact ⟨n, ao, len, cap, ws, e, ya hl hn hW, r⟩
theorem rL {w : World} {l : Nat} {o o' : Obj} (hl : w.heap[l]? = some o) (hn : o.isCells = false) {v : Value} {x : Int} (h : aN w v x) : aN (w.putObj l o') v x := ⟨xg hl hn h.1, h.2⟩
theorem wI {w : World} {l : Nat} {o o' : Obj} (hl : w.heap[l]? = some o) (hn : o.isCells = false) {b : Nat} {xs : List Int} (h : aJ w b xs) : aJ (w.putObj l o') b xs := by
 obtain ⟨ps, tl, nt, hr, hl', hN⟩ := h;exact ⟨ps, tl, nt, kT hl hn hr, hl', fun i h1 h2 => rL hl hn (hN i h1 h2)⟩
def Pz (e : En) : Prop := ∀ (w : World) (l : Nat) (o o' : Obj), w.heap[l]? = some o -> o.isCells = false -> e.F w -> e.F (w.putObj l o')
theorem Pz.row {b : Nat} {t : TypeId} {cs : List Value} : Pz (.row b t cs) := fun _ _ _ _ hl hn h => kT hl hn h
theorem Pz.own {B : Nat} {v : Value} {x : Int} : Pz (.own B v x) := fun w l o o' hl hn h => by
 obtain ⟨ao, cap, rfl, h1, h2, h3, h4⟩ := (h : ae w B v x);refine ⟨ao, cap, rfl, h1, h2, h3, h4.imp id ?_⟩;rintro ⟨g, c, cur, hv, hbb, hg, r⟩;exact ⟨g, c, cur, hv, hbb, sS hl hn hg rfl, r⟩
theorem Pz.lg {te : TypeId} {sz : Nat} {ao : Option Addr} {k cap : Nat} {cs : List Value} : Pz (.lg te sz ao k cap cs) := fun w l o o' hl hn ⟨h1, h2, h⟩ => ⟨h1, h2, h.imp id fun ⟨b, tl, e, hn', hr, hl'⟩ => ⟨b, tl, e, hn', kT hl hn hr, hl'⟩⟩
theorem Pz.na {x : Nat} {gs : List Nat} {E : List (List Int)} : Pz (.na x gs E) := fun w l o o' hl hn h t ht hx => by
 obtain ⟨ps, tl, hn', hr, h1, h2⟩ := (h : RwF x gs E w) t ht hx;exact ⟨ps, tl, hn', kT hl hn hr, h1, fun i a => rL hl hn (h2 i a)⟩
def Cz (e : En) : Prop := ∀ w : World, e.F w -> e.wr = true -> ∀ b, e.S b -> ∃ t cs, a6 w b t cs /\ aK cs
theorem Cz.row {b : Nat} {t : TypeId} {cs : List Value} (hn : aK cs := by repeat (first | exact aK.nil | exact gA _ | apply aK.bool | apply aK.slice | apply aK.i64 | apply aK.ptr | apply aK.append | unfold cl)) : Cz (.row b t cs) := fun w h _ g e => by cases (e : g = b); exact ⟨_, _, h, hn⟩
theorem Cz.no {e : En} (h : e.wr = false) : Cz e := fun _ _ h' => by rw [h] at h'; cases h'
theorem Cz.lg {te : TypeId} {sz : Nat} {ao : Option Addr} {k cap : Nat} {cs : List Value} (hc : aK cs) : Cz (.lg te sz ao k cap cs) := fun w ⟨_, _, h⟩ _ g ⟨o, e⟩ => by
 rcases h with ⟨h, _⟩ | ⟨b, tl, h, hn, hr, _⟩
 . rw [e] at h; cases h
 . rw [e] at h; cases h; exact ⟨_, _, hr, hc.append hn⟩
theorem Cz.na {x : Nat} {gs : List Nat} {E : List (List Int)} : Cz (.na x gs E) := fun w h _ g ⟨t, ht, hx, e⟩ => by
 obtain ⟨ps, tl, hn, hr, _⟩ := (h : RwF x gs E w) t ht hx;rw [e]; exact ⟨_, _, hr, aK.rn hn⟩
def Rz (es : List En) : Prop := ∀ e ∈ es, Pz e /\ Cz e
theorem Rz.nil : Rz [] := fun _ h => (List.not_mem_nil h).elim
theorem Rz.cons {e : En} {es : List En} (h1 : Pz e) (h2 : Cz e) (h : Rz es) : Rz (e :: es) := fun x hx => (List.mem_cons.1 hx).elim (fun q => q ▸ ⟨h1, h2⟩) (h x)
theorem Fr.Af {S0 : Nat -> Prop} {w0 w : World} {es : List En} (h : Fr S0 w0 w es) (hz : Rz es) {l : Nat} {o : Obj} (o' : Obj) (hl : w.heap[l]? = some o) (hn : o.isCells = false) (h0 : w0.heap.size <= l) : Fr S0 w0 (w.putObj l o') es :=
 ⟨⟨h.bs.os, h.bs.tape, h.bs.output, by have := h.bs.size; simpa using this, fun k hk hs => (World.putObj_heap_other (by omega)).trans (h.bs.block k hk hs)⟩, fun e he => (hz e he).1 w l o o' hl hn (h.all e he), h.sep, h.own⟩
theorem Fr.comp {S0 S : Nat -> Prop} {w0 w W : World} {es es' : List En} (h : Fr S0 w0 w es) (h' : Fr S w W es') (hs : ∀ b, S b -> S0 b \/ w0.heap.size <= b) : Fr S0 w0 W es' :=
 ⟨⟨h'.bs.os.trans h.bs.os, h'.bs.tape.trans h.bs.tape, h'.bs.output.trans h.bs.output, Nat.le_trans h.size h'.size, fun k hk hn => (h'.bs.block k (Nat.lt_of_lt_of_le hk h.size) (fun q => (hs k q).elim hn (by omega))).trans (h.bs.block k hk hn)⟩, h'.all, h'.sep, fun e he hw b hb => (h'.own e he hw b hb).elim (hs b) (fun q => .inr (Nat.le_trans h.size q))⟩
def rz (es : List En) (b : Nat) : Prop := ∃ e ∈ es, e.wr = true /\ e.S b
theorem Fr.self {S0 : Nat -> Prop} {w0 w : World} {es : List En} (h : Fr S0 w0 w es) : Fr (rz es) w w es := ⟨aO.refl _ _, h.all, h.sep, fun e he hw b hb => .inl ⟨e, he, hw, hb⟩⟩
theorem Fr.rz {S0 : Nat -> Prop} {w0 w : World} {es : List En} (h : Fr S0 w0 w es) : ∀ b, Go.Proofs.YtbgecfleamckcaaGreat.rz es b -> S0 b \/ w0.heap.size <= b := fun b ⟨e, he, hw, hb⟩ => h.own e he hw b hb
theorem CS {S : Nat -> Prop} {w w' : World} (h : aO S w w') (hS : ∀ b, S b -> ∃ o, w.heap[b]? = some o /\ o.isCells = true) : KeepsOthers w w' := ⟨h.size, fun k o hk hn => by
 have hlt := (Array.getElem?_eq_some_iff.1 hk).1;rw [h.block k hlt (fun q => by
  obtain ⟨x, hx, hc⟩ := hS k q;rw [hk] at hx; cases hx; rw [hn] at hc; cases hc)]
 exact hk⟩
theorem xu {S S' : Nat -> Prop} {w w' : World} {B : Nat} (h : aO S' w w') (hB : B <= w.heap.size) (hS : ∀ b, S' b -> b < B -> S b) : ee B S w w' := ⟨h.os, h.tape, h.output, h.size, fun k hk hn => h.block k (by omega) fun q => hn (hS k q hk)⟩
abbrev mkD (D : Nat) : Deferred := { target := .collected D, args := #[] }
abbrev En.Br (B D : Nat) : En := .fact false false (· = D) (fun w => w.heap[D]? = some (.deferred (some [])) /\ B <= D) (fun h b e => by cases e; exact (Array.getElem?_eq_some_iff.1 h.1).1)
 (fun {w w' T} h hc _ hs => ⟨(hc.block D (Array.getElem?_eq_some_iff.1 h.1).1 (hs D rfl)).trans h.1, h.2⟩)
theorem mD {α : Type} {P : Program} {n : Nat} {g : Operand} {ps : Array Tmp} {assign body : Code} {Q : Exit -> Act -> World -> Prop} {a : Act} {w : World}
 {gf : Nat} {lb : Array Value} (hg : a.eval g = .func (.func gf) #[] lb) (eg : ∀ args w, (callFunc gf args).run P w = .ok (.enter gf args) w)
 {encs : α -> Array Value} (hps : ∀ x, (encs x).size = ps.size) (S : Nat -> Prop) (N : Nat) (Sx : List α -> Prop)
 (E : List α -> α -> World -> Prop) (I : List α -> World -> Prop)
 (hE : ∀ s x W l o o', E s x W -> w.heap.size <= l -> W.heap[l]? = some o -> o.isCells = false -> E s x (W.putObj l o'))
 (hIl : ∀ s W l o o', I s W -> w.heap.size <= l -> W.heap[l]? = some o -> o.isCells = false -> I s (W.putObj l o'))
 (hIb : ∀ s A B, I s A -> Below A.heap.size A B -> I s B) (h0 : I [] w) (A1 : α -> Act -> Prop) (hEb : ∀ s x A B, E s x A -> Below A.heap.size A B -> E s x B)
 (hseq : ∀ (l : Nat) (J : List α -> World -> Prop) (W : World), Below w.heap.size w W -> (∀ s A B, J s A -> Below A.heap.size A B -> J s B) -> (∀ s A, J s A -> I s A) ->
  (∀ pre x W1, J pre W1 -> E pre x W1 -> pre.length < N -> YieldAt Fence.wide (n - 1 - 1) P l (encs x) W1 fun e W' => e = .returned (.bool true) /\ J (pre ++ [x]) W' /\ ee w.heap.size S W1 W') ->
  J [] W -> CallsIn Fence.wide (n - 1) P gf (#[.func (.yield l) #[] #[]] ++ lb) W fun e W' => (∃ v, e = .returned v) /\ ∃ xs, Sx xs /\ J xs W')
 (hassign : ∀ (l : Nat) (pre : List α) (x : α) (W : World) (K : Act -> World -> Prop), E pre x W -> (∀ a1 W1, A1 x a1 -> Below W.heap.size W W1 -> K a1 W1) ->
  assign.wpIn (Fence.wide.inRound l) (n - 1 - 1) P (Exit.then K (fun _ _ _ => False)) { tmps := (ps.zip (encs x)).foldl (fun t (p, v) => t.setIfInBounds p v) a.tmps, defers := [] } W)
 (hbody : ∀ (l : Nat) (pre : List α) (x : α) (W : World) (a1 : Act), A1 x a1 -> I pre W -> E pre x W -> pre.length < N -> body.wpIn (Fence.wide.inRound l) (n - 1 - 1) P (rO w.heap.size S I (pre ++ [x]) W) a1 W)
 (hdone : ∀ (D : Nat) (xs : List α) (W : World), w.heap.size <= D -> Sx xs -> I xs W -> W.heap[D]? = some (.deferred (some [])) -> Q .normal { a with defers := { target := .collected D, args := #[] } :: a.defers } W) :
 (Code.rangeFunc g ps assign body).wpIn Fence.wide n P Q a w := by
 refine wpIn_rangeFunc ?_;intro fn hfn;obtain ⟨R, hR⟩ : ∃ R : LoopState -> Option Code -> Loop, R = fun st pe => { state := st, pending := pe, fn, tmps := a.tmps, params := ps, assign, body, defers := w.heap.size } := ⟨_, rfl⟩;have hz0 : (w.alloc (.deferred (some []))).heap.size = w.heap.size + 1 := by simp
 have hbA : Below w.heap.size w (w.alloc (.deferred (some []))) := (Below.refl _ _).alloc (Nat.le_refl _) _;have hbB : Below (w.heap.size + 1) (w.alloc (.deferred (some []))) ((w.alloc (.deferred (some []))).alloc (.loop (R .ready none))) := (Below.refl _ _).alloc (by simp) _;have hl0 : ((w.alloc (.deferred (some []))).alloc (.loop (R .ready none))).heap[w.heap.size + 1]? = some (.loop (R .ready none)) := by
  have := World.alloc_heap_new (w.alloc (.deferred (some []))) (.loop (R .ready none)); rwa [World.size_alloc] at this
 have hd0 : ((w.alloc (.deferred (some []))).alloc (.loop (R .ready none))).heap[w.heap.size]? = some (.deferred (some [])) :=
  (hbB.block _ (by omega)).trans (World.alloc_heap_new w _)
 have hen := run_enterLoop_outer (P := P) (w := w) fn a.tmps ps assign body;have hI1 : I [] ((w.alloc (.deferred (some []))).alloc (.loop (R .ready none))) := hIb _ _ _ (hIb _ _ _ h0 hbA) (by rw [hz0]; exact hbB);have hbw : Below w.heap.size w ((w.alloc (.deferred (some []))).alloc (.loop (R .ready none))) := hbA.trans (hbB.mono (by omega));rw [show ({ state := .ready, pending := none, fn, tmps := a.tmps, params := ps, assign, body, defers := w.heap.size } : Loop) = R .ready none by rw [hR]] at hen;generalize (w.alloc (.deferred (some []))).alloc (.loop (R .ready none)) = W0 at *;refine ⟨w.heap.size + 1, [{ target := .collected w.heap.size, args := #[] }], W0, { target := .fn (.func gf) lb, args := #[.func (.yield (w.heap.size + 1)) #[] #[]] }, W0, gf,
  #[.func (.yield (w.heap.size + 1)) #[] #[]] ++ lb, W0, hen, ?_, fun _ _ => trivial, by simp [invoke, go_sem, eg], fun h => absurd h (by decide), ?_⟩
 . simp only [resolve, hg];simp [go_sem]
 have hlp : ∀ st pe, (Obj.loop (R st pe)).isCells = false := fun _ _ => rfl;refine (hseq (w.heap.size + 1) (fun pre W => I pre W /\ W.heap[w.heap.size + 1]? = some (.loop (R .ready none)) /\ W.heap[w.heap.size]? = some (.deferred (some []))) W0 hbw ?_ (fun _ _ h => h.1) ?_ ⟨hI1, hl0, hd0⟩).mono ?_
 . rintro s A B ⟨h1, h2, h3⟩ hb;exact ⟨hIb _ _ _ h1 hb, (hb.block _ (Array.getElem?_eq_some_iff.1 h2).1).trans h2, (hb.block _ (Array.getElem?_eq_some_iff.1 h3).1).trans h3⟩
 . rintro pre x W ⟨hi, hl, hd⟩ hx hlen;have hlt : w.heap.size + 1 < W.heap.size := (Array.getElem?_eq_some_iff.1 hl).1;have hy := run_yield (P := P) (args := encs x) hl (by rw [hR]; exact hps x);have hle : w.heap.size <= w.heap.size + 1 := by omega
   rw [hR] at hy;refine ⟨fn, _, assign, body, hy, roundIn_of_wpIn hfn (hassign _ pre x W _ hx fun a1 W1 hA1 hB1 => ?_)⟩;have hl := (hB1.block _ (Array.getElem?_eq_some_iff.1 hl).1).trans hl;have hd := (hB1.block _ (Array.getElem?_eq_some_iff.1 hd).1).trans hd;have hi := hIb _ _ _ hi hB1;have hx := hEb _ _ _ _ hx hB1;have hlt : w.heap.size + 1 < W1.heap.size := (Array.getElem?_eq_some_iff.1 hl).1;have hbg := run_beginRound (P := P) hl (by rw [hR]);rw [hR] at hbg;refine ⟨_, hbg, ?_⟩;have hl2 : (W1.putObj (w.heap.size + 1) (.loop (R .busy none))).heap[w.heap.size + 1]? = some (.loop (R .busy none)) := World.putObj_heap_same hlt;have hd2 : (W1.putObj (w.heap.size + 1) (.loop (R .busy none))).heap[w.heap.size]? = some (.deferred (some [])) := (World.putObj_heap_other (by omega)).trans hd;have hk2 : ee w.heap.size S W (W1.putObj (w.heap.size + 1) (.loop (R .busy none))) := (ee.bF (hB1.mono (by omega))).trans (ee.putObj W1 _ hle);have hi2 := hIl pre W1 (w.heap.size + 1) _ (.loop (R .busy none)) hi hle hl rfl;have hx2 := hE pre x W1 (w.heap.size + 1) _ (.loop (R .busy none)) hx hle hl rfl;rw [show ({ state := .busy, pending := none, fn, tmps := a.tmps, params := ps, assign, body, defers := w.heap.size } : Loop) = R .busy none by rw [hR]];generalize W1.putObj (w.heap.size + 1) (.loop (R .busy none)) = W2 at *;refine wpIn_mono (hbody (w.heap.size + 1) pre x W2 a1 hA1 hi2 hx2 hlen) ?_;intro e a3 W3 hp;cases e with
   | normal =>
    obtain ⟨hk3, hkp3, hi3⟩ := hp;have hl3 := hk3.same _ _ hl2 rfl;have hd3 := hk3.same _ _ hd2 rfl;have hend := run_endRound (P := P) none hl3;rw [hR] at hend;refine ⟨_, _, hend, rfl, ⟨hIl _ _ _ _ _ hi3 hle hl3 rfl, ?_, ?_⟩, ?_⟩
    . rw [World.putObj_heap_same (Array.getElem?_eq_some_iff.1 hl3).1, hR]; rfl
    . exact (World.putObj_heap_other (by omega)).trans hd3
    . exact hk2.trans (hkp3.trans (ee.putObj _ _ hle))
   | ret => exact hp.elim
   | exit id => exact hp.elim
   | goto t => exact hp.elim
   | panic ch => exact hp.elim
   | outgrown => exact hp.elim
 . rintro e W2 ⟨⟨v, rfl⟩, xs, hS, hi, hl, hd⟩;have hle : w.heap.size <= w.heap.size + 1 := by omega
   have hend := run_endLoop (P := P) hl (by rw [hR]; simp);rw [hR] at hend;exact ⟨none, _, hend, hdone _ xs _ (Nat.le_refl _) hS (hIl _ _ _ _ _ hi hle hl rfl) ((World.putObj_heap_other (by omega)).trans hd)⟩
theorem wR {l N : Nat} {P : Program} {c : Code} {q : Act -> World -> Prop} {K : Act -> World -> Prop} {a : Act} {w : World} (h : c.wpIn (xd l) N P (Exit.then q (fun _ _ _ => False)) a w) (hk : ∀ a w, q a w -> K a w) : c.wpIn (xd l) N P (Exit.then K (fun _ _ _ => False)) a w :=
 wpIn_mono h fun e a w hq => by
  cases e with
  | normal => exact hk _ _ hq
  | _ => exact hq
def rdQ {X : Type} (I : X -> Prop) (S' : Nat -> Prop) (W : World) (ex : X -> List En) : Exit -> Act -> World -> Prop
 | .normal, _, w => ∃ y, I y /\ Fr S' W w (ex y)
 | _, _, _ => False
theorem rdE {X : Type} {I : X -> Prop} {S' : Nat -> Prop} {W : World} {ex : X -> List En} {n : Nat} {ls : List (Nat × Value)} {es : List En} (y : X) (h : I y) (he : ∀ w, Fr S' W w es -> Fr S' W w (ex y) := by intro w h; first | exact h | exact h.pick (by repeat (first | exact Pk.n | refine Pk.c (by repeat (first | exact Rm.z | apply Rm.s)) ?_))) : QW n S' W (rdQ I S' W ex) .normal ls es := fun a w _ hw => ⟨y, h, he w hw⟩
theorem asgE {n : Nat} {ls lw : List (Nat × Value)} {W : World} {es : List En} {Qx : Exit -> Act -> World -> Prop} (hs : ∀ a, Sl n ls a -> Sl n lw a := by intro a h; refine h.sub ?_; simp [eG, cJ]) : QW n (fun _ => False) W (Exit.then (fun a1 w1 => Sl n lw a1 /\ Below W.heap.size W w1) Qx) .normal ls es := fun a w ha hw => ⟨hs a ha, hw.below⟩
theorem zI {X : Type} {n : Nat} {ls : List (Nat × Value)} {es : List En} {S0 : Nat -> Prop} {w0 : World} {Q : Exit -> Act -> World -> Prop} {gop : Operand} {p1 p2 : Nat} {assign body : Code} {gb b r c m : Nat} {ps : List P4} {tl : List Value} {xs : List Int}
 (I : Nat -> X -> Prop) (ex : X -> List En) (ex2 : Nat -> X -> List En) (x0 : X) (la : Nat -> Nat -> List (Nat × Value)) (hr : r <= 64) (hc : c <= 64) (hs : xs.length = r * c) (hm : xs.length = m) (hL : ∀ x ∈ xs, aa x.natAbs <= 17592186044415) (ht : aK tl) (h0 : I 0 x0)
 (asg : ∀ (l k g : Nat) (W : World), CI l 4 Tryz.prog n (fun _ => False) W assign (Exit.then (fun a1 w1 => Sl n (la k g) a1 /\ Below W.heap.size W w1) (fun _ _ _ => False)) ((p2, .slice (some ⟨g, 0, none⟩) c c) :: (p1, .int .i64 (k : Int)) :: ls) [])
 (round : ∀ (l k : Nat) (x : X) (g : Nat) (qs : List P4) (tk : List Value) (S' : Nat -> Prop) (W : World), I k x -> k < r -> aK tk -> CI l 4 Tryz.prog n S' W body (rdQ (I (k + 1)) S' W ex) (la k g) (.row g 40 (rn qs tk) :: .ns qs (rowOf xs c k) :: ex x))
 (k : ∀ D x, I r x -> pb [mkD D] n S0 w0 Q .normal ls (ex2 D x))
 (hz : ∀ x, Rz (ex x))
 (he : ∀ w, Fr S0 w0 w es -> Fr S0 w0 w (.row gb 24 [.int .i64 (r : Int), .int .i64 (c : Int), .slice (some ⟨b, 0, none⟩) m m] :: .row b 40 (rn ps tl) :: .ns ps xs :: ex x0) := by intro w h; first | exact h | exact h.pick (by repeat (first | exact Pk.n | refine Pk.c (by repeat (first | exact Rm.z | apply Rm.s)) ?_)))
 (hx2 : ∀ D x, ex x ++ [.Br w0.heap.size D] = ex2 D x := by intro D x; rfl)
 (hgi : eG ls gop = true := by kernel_rfl) (hg : dJ ls gop = .func (.func 89) #[] #[.pointer (some ⟨gb, 0, none⟩)] := by (simp only [cJ, Nat.reduceEqDiff, ↓reduceIte]) <;> rfl)
 (hp : (Nat.blt p1 n && Nat.blt p2 n && !(p1 == p2) && ls.all fun q => !(q.1 == p1) && !(q.1 == p2)) = true := by kernel_rfl) :
 CW Tryz.prog n S0 w0 (.rangeFunc gop #[p1, p2] assign body) Q ls es := fun a w ha hw => by
 subst hm;simp only [Bool.and_eq_true, Bool.not_eq_true', beq_eq_false_iff_ne] at hp;obtain ⟨⟨⟨hp1, hp2⟩, hp3⟩, hp4⟩ := hp;have hp1 := Nat.le_of_ble_eq_true hp1;have hp2 := Nat.le_of_ble_eq_true hp2;have H := he w hw;have Hx := H.tl.tl.tl;have hgR : a6 w gb 24 [.int .i64 (r : Int), .int .i64 (c : Int), .slice (some ⟨b, 0, none⟩) xs.length xs.length] := H.m0;have hbR : aJ w b xs := ⟨ps, tl, ht, H.m1, (H.m2 : dA w ps xs).1, fun i h1 h2 => by
  have := (H.m2 : dA w ps xs).2 i h1;rw [jb h1, cW h2] at this; exact this⟩
 have hp := List.pairwise_cons.1 H.sep;have hq := List.pairwise_cons.1 hp.2;have hgS : ¬ rz (ex x0) gb := fun ⟨e, h1, h2, h3⟩ => (hp.1 e (List.mem_cons_of_mem _ (List.mem_cons_of_mem _ h1))).2 h2 gb h3 rfl;have hbS : ¬ rz (ex x0) b := fun ⟨e, h1, h2, h3⟩ => (hq.1 e (List.mem_cons_of_mem _ h1)).2 h2 b h3 rfl;refine (wpIn_wide (n := 6)).1 ?_;refine mD (S := rz (ex x0)) (N := r) (Sx := vK r c xs) (E := fun pre x W => vE w.heap.size pre x W /\ x = (pre.length, ⟨x.2.aB, c, rowOf xs c pre.length⟩) /\ pre.length < r /\ ∃ y, I pre.length y /\ Fr (rz (ex x0)) w W (ex y) /\ ∀ e ∈ ex y, ∀ b, e.S b -> b < x.2.aB)
  (I := fun pre W => ∃ y, I pre.length y /\ Fr (rz (ex x0)) w W (ex y)) (gf := 89) (lb := #[.pointer (some ⟨gb, 0, none⟩)]) (encs := NR.enc) ((ha.ev hgi).trans hg) (enters_of Tryz.func89 (by kernel_rfl) rfl) (fun _ => rfl) ?hE ?hIl ?hIb ⟨x0, h0, Hx.self⟩
  (fun x a1 => Sl n (la x.1 x.2.aB) a1) ?hEb ?hseq ?hassign ?hbody ?hdone
 case hE =>
  rintro s x W l o o' ⟨h1, h2, h3, y, h4, h5, h6⟩ hl ho hn;exact ⟨⟨wI ho hn h1.1, h1.2⟩, h2, h3, y, h4, h5.Af (hz y) o' ho hn hl, h6⟩
 case hIl =>
  rintro s W l o o' ⟨y, h4, h5⟩ hl ho hn;exact ⟨y, h4, h5.Af (hz y) o' ho hn hl⟩
 case hIb =>
  rintro s A B ⟨y, h4, h5⟩ hb;exact ⟨y, h4, h5.grow hb⟩
 case hEb =>
  rintro s x A B ⟨h1, h2, h3, y, h4, h5, h6⟩ hb;exact ⟨⟨h1.1.below hb, h1.2⟩, h2, h3, y, h4, h5.grow hb, h6⟩
 case hseq =>
  intro l J W hW hJ hJI hY hJ0;exact lh 5 gb b r c xs w _ (fun b ⟨e, h1, h2, h3⟩ => (hz x0 e h1).2 w (Hx.all e h1) h2 b h3) hgR hgS hbR hbS hs (by omega) (by omega) hL l J W hW hJ (fun pre x Wp W1 hj hB hle hx hxe hl => hY pre x W1 (hJ _ _ _ hj hB) ⟨hx, hxe, hl, by
   obtain ⟨y, hy, hf⟩ := hJI _ _ hj;exact ⟨y, hy, hf.grow hB, fun e he b hb => Nat.lt_of_lt_of_le (En.lt (hf.all e he) b hb) hle⟩⟩ hl) hJ0 (by omega)
 case hassign =>
  rintro l pre ⟨k', hd⟩ W K ⟨_, hxe, hlt, _⟩ hK;have e1 : hd = ⟨hd.aB, c, rowOf xs c pre.length⟩ := congrArg Prod.snd hxe;have hlen : hd.xs.length = c := by rw [e1]; exact gh hs hlt
  have hcap : hd.cap = c := by rw [e1]
  refine wR (asg l k' hd.aB W _ W ⟨rfl, ?_, fun q hq' => ?_⟩ (Fr.nil _ W)) fun a1 w1 ⟨h1, h2⟩ => hK a1 w1 h1 h2
  . simp [NR.enc, ha.sz]
  . have hsz := ha.sz;simp only [NR.enc, hlen, hcap];have e9 : ∀ u v : Value, Array.foldl (fun t (x : Nat × Value) => t.setIfInBounds x.1 x.2) a.tmps (#[p1, p2].zip #[u, v]) = (a.tmps.setIfInBounds p1 u).setIfInBounds p2 v := fun u v => by simp
    rw [e9];rcases List.mem_cons.1 hq' with rfl | hq'
    . rw [cJ.2.2.2, if_pos rfl];exact Array.getElem?_setIfInBounds_self_of_lt (by rw [Array.size_setIfInBounds, hsz]; exact hp2)
    . rcases List.mem_cons.1 hq' with rfl | hq'
      . rw [cJ.2.2.2, if_neg hp3, cJ.2.2.2, if_pos rfl, Array.getElem?_setIfInBounds_ne (fun e => hp3 e.symm)];exact Array.getElem?_setIfInBounds_self_of_lt (by rw [hsz]; exact hp1)
      . have h4 := List.all_eq_true.1 hp4 q hq';simp only [Bool.and_eq_true, Bool.not_eq_true', beq_eq_false_iff_ne] at h4;rw [cJ.2.2.2, if_neg h4.2, cJ.2.2.2, if_neg h4.1, Array.getElem?_setIfInBounds_ne (fun e => h4.2 e.symm), Array.getElem?_setIfInBounds_ne (fun e => h4.1 e.symm)];exact ha.vs q hq'
 case hbody =>
  rintro l pre ⟨k', hd⟩ W a1 hA1 _ ⟨hH, hxe, hlt, y, hy, hf, hbl⟩ _;have e0 : k' = pre.length := congrArg Prod.fst hxe;have e1 : hd = ⟨hd.aB, c, rowOf xs c pre.length⟩ := congrArg Prod.snd hxe;subst e0;obtain ⟨hrow, hge, _⟩ := hH
  replace hrow : aJ W hd.aB hd.xs := hrow
  rw [show hd.xs = rowOf xs c pre.length by rw [e1]] at hrow
  replace hge : w.heap.size <= hd.aB := hge
  replace hbl : ∀ e ∈ ex y, ∀ b, e.S b -> b < hd.aB := hbl
  obtain ⟨qs, tk, nt, hr1, hl1, hN1⟩ := hrow;have f1 : Fr (rz (ex x0)) w W (.ns qs (rowOf xs c pre.length) :: ex y) := hf.pure ⟨hl1, fun i h => by rw [jb h, cW (by rw [<- hl1]; exact h)]; exact hN1 i h (by rw [<- hl1]; exact h)⟩ (fun _ h => h);have f2 : Fr (rz (ex x0)) w W (.row hd.aB 40 (rn qs tk) :: .ns qs (rowOf xs c pre.length) :: ex y) := f1.cons hr1 (fun e' he' => by
   rcases List.mem_cons.1 he' with rfl | he'
   . exact ⟨fun _ _ _ h => h, fun _ _ h => h.elim⟩
   . exact ⟨fun _ b hb h => by cases (hb : b = hd.aB); exact Nat.lt_irrefl _ (hbl e' he' _ h), fun _ b h hb => by cases (hb : b = hd.aB); exact Nat.lt_irrefl _ (hbl e' he' _ h)⟩) (fun _ b hb => by cases (hb : b = hd.aB); exact .inr hge)
  refine wpIn_mono (round l pre.length y hd.aB qs tk _ W hy hlt nt a1 W hA1 f2.self) fun e a' W' hq => ?_;cases e with
  | normal =>
   obtain ⟨y', hy', hf'⟩ := hq;have hsw : ∀ b, rz (.row hd.aB 40 (rn qs tk) :: .ns qs (rowOf xs c pre.length) :: ex y) b -> b = hd.aB \/ rz (ex y) b := fun b ⟨e, he', h1, h2⟩ => by
    rcases List.mem_cons.1 he' with rfl | he'
    . exact .inl h2
    . rcases List.mem_cons.1 he' with rfl | he'
      . exact h2.elim
      . exact .inr ⟨e, he', h1, h2⟩
   refine ⟨CS hf'.bs fun b hb => ?_, xu hf'.bs hf.size fun b hb hlt' => ?_, y', by rw [List.length_append]; exact hy', hf.comp hf' fun b hb => ?_⟩
   . rcases hsw b hb with rfl | ⟨e, he', h1, h2⟩
     . exact ⟨_, hr1, rfl⟩
     . obtain ⟨t, cs, hr2, _⟩ := (hz y e he').2 W (hf.all e he') h1 b h2;exact ⟨_, hr2, rfl⟩
   . rcases hsw b hb with rfl | h
     . omega
     . exact (hf.rz b h).resolve_right (by omega)
   . rcases hsw b hb with rfl | h
     . exact .inr hge
     . exact hf.rz b h
  | _ => exact hq.elim
 case hdone =>
  rintro D zs W hD hS ⟨y, hy, hf⟩ hK;have hl : zs.length = r := hS.1;rw [hl] at hy;refine k D y hy _ W ⟨by show mkD D :: a.defers = _; rw [ha.df], ha.sz, ha.vs⟩ ?_;rw [<- hx2];have f1 : Fr S0 w0 W (ex y) := Hx.comp hf Hx.rz;have f2 : Fr S0 w0 W (.Br w0.heap.size D :: ex y) := f1.cons ⟨hK, Nat.le_trans hw.size hD⟩ (fun e' he' => ⟨fun h => (nomatch h), fun h1 b h2 h3 => by
   cases (h3 : b = D);obtain ⟨t, cs, ho, _⟩ := (hz y e' he').2 W (f1.all e' he') h1 _ h2;unfold a6 at ho;rw [hK] at ho; cases ho⟩) (fun h => (nomatch h))
  exact f2.perm (List.perm_append_singleton (.Br w0.heap.size D) (ex y)).symm
theorem Bh {P : Program} {S0 : Nat -> Prop} {es : List En} {ls : List (Nat × Value)} {f : FuncId} {fn : Func} {c : Code} {vs : List Value} {w : World} {R : Ending -> World -> Prop} (hf : P.funcs[f]? = some fn) (H : Fr S0 w w es) (k : CW P fn.ntmps S0 w c (bodyPostM Fence.wide 6 P fn R) ls es) (hb : fn.body = some c := by rfl) (hl : ti 0 vs = ls := by (try simp only [ti, Nat.reduceAdd, av]); rfl) (hn : Nat.ble vs.length fn.ntmps = true := by kernel_rfl) : Calls P f vs.toArray w R := by
 have hn := Nat.le_of_ble_eq_true hn;subst hl;refine callsIn_wide.1 (callsIn_of_wp_marks (n := 6) hf hb trivial (wpIn_wide.2 (k _ w ⟨rfl, by simp; omega, fun p hp => ?_⟩ H)) rfl);obtain ⟨_, h1, h2⟩ := o4 vs 0 p hp;rw [h2];have hlt := (List.getElem?_eq_some_iff.1 h1).1;rw [Nat.sub_zero] at h1 hlt;simp only [Array.getElem?_append, List.size_toArray, hlt, if_true, List.getElem?_toArray];exact h1
section
variable {P : Program} {S0 : Nat -> Prop} {w0 : World} {n : Nat} {ls : List (Nat × Value)} {es : List En} {fn : Func} {R : Ending -> World -> Prop}
theorem jH.runM {a : Act} {w : World} {r : ResultVar} {v : Value} (h : ∀ t, eG ls (.tmp t) = true -> a.tmps[t]? = some (dJ ls (.tmp t))) (hr : jH P ls w r v) : (∃ t, r = .tmp t /\ a.tmps[t]? = some v) \/ ∃ t ty ad, r = .cell t ty /\ a.tmps[t]? = some (.pointer (some ad)) /\ (loadVar ty ad).run P w = .ok v w := by
 cases r with
 | tmp t => exact .inl ⟨t, rfl, (h t hr.1).trans (by rw [hr.2])⟩
 | cell t ty =>
  obtain ⟨h1, ad, h2, h3⟩ := hr;exact .inr ⟨t, ty, ad, rfl, (h t h1).trans (by rw [h2]), h3⟩
theorem res1 {a : Act} {w : World} {r : ResultVar} {v : Value} (h : fn.results = #[r]) (hs : ∀ t, eG ls (.tmp t) = true -> a.tmps[t]? = some (dJ ls (.tmp t))) (h1 : jH P ls w r v) : (results fn a.tmps).run P w = .ok v w := by
 rcases h1.runM hs with ⟨t, rfl, e⟩ | ⟨t, ty, ad, rfl, e, e'⟩ <;> simp [results, h, asAddr, *]
theorem BB {D : Nat} {es' : List En} {r : ResultVar} (k : ∀ w, Fr S0 w0 w es' -> ∃ v, jH P ls w r v /\ R (.returned v) w) (hz : Rz es') (hD : En.Br w0.heap.size D ∈ es) (he : ∀ w, Fr S0 w0 w es -> Fr S0 w0 w es' := by intro w h; exact h.pick (by repeat (first | exact Pk.n | refine Pk.c (by repeat (first | exact Rm.z | apply Rm.s)) ?_))) (h : fn.results = #[r] := by rfl) : pb [mkD D] n S0 w0 (bodyPostM Fence.wide 6 P fn R) .ret ls es := fun a w ha hw => by
 obtain ⟨hK, hB⟩ := (hw.all _ hD : w.heap[D]? = some (.deferred (some [])) /\ w0.heap.size <= D);show LeavesInM Fence.wide 6 P fn a.tmps R a.defers .returning w;rw [ha.df];refine ⟨by simp, .inl ⟨_, _, rfl, run_takeDeferred hK, ?_⟩⟩;obtain ⟨v, h1, hR⟩ := k _ ((he w hw).Af hz _ hK rfl hB);exact ⟨v, res1 h (fun t => ha.tmp) h1, hR⟩
end
theorem yz (r c n : Nat) (ao : Option Addr) (cap : Nat) (xs : List Int) (w : World) (hr : r <= 64) (hc : c <= 64) (h : bc w 17592186044415 ao xs) (hs : xs.length = r * c) (hn : xs.length = n) :
 Calls Tryz.prog 67 #[.agg #[.int .i64 (r : Int), .int .i64 (c : Int), .slice ao n cap]] w fun e w' => ∃ q : (Nat × Nat) × List P4 × List Value, e = .returned (.func (.func 89) #[] #[.pointer (some ⟨q.1.1, 0, none⟩)]) /\ Nw w w' [.row q.1.1 24 [.int .i64 (r : Int), .int .i64 (c : Int), .slice (some ⟨q.1.2, 0, none⟩) n n], .row q.1.2 40 (rn q.2.1 q.2.2), .ns q.2.1 xs, .pr (aK q.2.2)] := by
 subst hn;have hsnd : aU (r : Int) (c : Int) xs.length = true := by
  unfold aU cP;rw [hs];simp; omega
 refine (sU (r : Int) (c : Int) ao xs.length cap xs w (by omega) (by omega) h rfl hsnd (by rw [hs]; have := Nat.mul_le_mul hr hc; omega)).mono ?_;rintro e w3 ⟨⟨g, b, rfl, hg, hb, hRg, ps, tl, nt, hRb, hl, hN⟩, hb3⟩;refine ⟨((g, b), ps, tl), rfl, hb3, fun e he => ?_, ?_⟩
 . simp only [List.mem_cons, List.mem_nil_iff, or_false] at he;rcases he with rfl | rfl | rfl | rfl
   . exact ⟨hRg, fun q e => by cases (e : q = g); exact hg⟩
   . exact ⟨hRb, fun q e => by cases (e : q = b); exact hb⟩
   . exact ⟨⟨hl, fun i h => by rw [jb h, cW (by rw [<- hl]; exact h)]; exact hN i h (by rw [<- hl]; exact h)⟩, fun _ h => h.elim⟩
   . exact ⟨nt, fun _ h => h.elim⟩
 . have hne : g ≠ b := a6.ne hRg hRb (by decide);refine List.pairwise_cons.2 ⟨fun e he => ?_, List.pairwise_cons.2 ⟨fun e he => ?_, List.pairwise_cons.2 ⟨fun e he => ?_, List.pairwise_singleton ..⟩⟩⟩
   . simp only [List.mem_cons, List.mem_nil_iff, or_false] at he;rcases he with rfl | rfl | rfl
     . exact ⟨fun _ q h1 h2 => hne (Eq.trans (Eq.symm h1) h2), fun _ q h1 h2 => hne (Eq.trans (Eq.symm h2) h1)⟩
     . exact ⟨fun _ _ _ h => h, fun _ _ h => h.elim⟩
     . exact ⟨fun _ _ _ h => h, fun _ _ h => h.elim⟩
   . simp only [List.mem_cons, List.mem_nil_iff, or_false] at he;rcases he with rfl | rfl
     . exact ⟨fun _ _ _ h => h, fun _ _ h => h.elim⟩
     . exact ⟨fun _ _ _ h => h, fun _ _ h => h.elim⟩
   . simp only [List.mem_cons, List.mem_nil_iff, or_false] at he;rcases he with rfl;exact ⟨fun _ _ _ h => h, fun _ _ h => h.elim⟩
theorem fin0G {P : Program} {S0 : Nat -> Prop} {w0 : World} {n : Nat} {ls : List (Nat × Value)} {es : List En} {fn : Func} {R : Ending -> World -> Prop} (k : ∀ w, Fr S0 w0 w es -> R (.returned (.tuple #[])) w) (h : fn.results = #[] := by rfl) : QW n S0 w0 (bodyPost P fn R) .normal ls es := fun a w ha hw =>
 bodyPost_end (v := .tuple #[]) (by simp [results, h]) ha.df (k w hw)
theorem rvS {ls : List (Nat × Value)} {w : World} {t b : Nat} {cs : List Value} (h : a6 w b 107 cs) (hl : cs.length = 15) (h1 : eG ls (.tmp t) = true := by kernel_rfl) (h2 : dJ ls (.tmp t) = .pointer (some ⟨b, 0, none⟩) := by (simp only [cJ, Nat.reduceEqDiff, ↓reduceIte]) <;> rfl) : jH Tryz.prog ls w (.cell t 107) (.agg cs.toArray) :=
 ⟨h1, _, h2, run_loadVar_row w b 107 107 cs.toArray (0, 0) _ h Tryz.underlying107 rfl (by rw [show cs.toArray.size = 15 by simpa using hl]; kernel_rfl)⟩
theorem rvBl {ls : List (Nat × Value)} {w : World} {t b : Nat} {v : Bool} (h : a6 w b 4 [.bool v]) (h1 : eG ls (.tmp t) = true := by kernel_rfl) (h2 : dJ ls (.tmp t) = .pointer (some ⟨b, 0, none⟩) := by (simp only [cJ, Nat.reduceEqDiff, ↓reduceIte]) <;> rfl) : jH Tryz.prog ls w (.cell t 4) (.bool v) :=
 ⟨h1, _, h2, by have c := h.cell 0; go_simp <;> with_reducible rfl⟩
theorem yx (r c : Int) (ao : Option Addr) (len cap : Nat) (w : World) (hr : -9223372036854775808 <= r /\ r <= 9223372036854775807) (hc : -9223372036854775808 <= c /\ c <= 9223372036854775807) (hs : aU r c len = false) :
 Calls Tryz.prog 88 #[.agg #[.int .i64 r, .int .i64 c, .slice ao len cap]] w fun e w' => e = .returned (.tuple #[.agg #[.int .i64 0, .int .i64 0, .slice none 0 0], .int .i64 1]) /\ Below w.heap.size w w' := by
 have hC := (fun w' => cY r c ao len cap w' hr hc);rw [eH hs] at hC;have HC := H5 hC;clear hC hs;refine bJ (S0 := fun _ => False) Tryz.func88 (Fr.nil _ w) ?_;refine ak ?_;refine aW fun g1 => ?_;refine aW fun g2 => ?_;refine az ?_;refine c9 ?_;refine cV (v := .int .i64 1) (fun w' H => HC.out w') ?_;refine az ?_;refine c9 ?_;refine dB true ?_;refine eW ?_;refine kR ?_;refine mR ?_;refine ak ?_;refine dr ?_;refine sW ?_;refine az ?_;refine fh fun w' H => ?_;exact ⟨_, _, xc (H.all (.row g2 24 [.int .i64 0, .int .i64 0, .slice none 0 0]) (by simp)), cH, rfl, H.below⟩
theorem zU (r c : Int) (ao : Option Addr) (len cap : Nat) (w : World) (hr : -9223372036854775808 <= r /\ r <= 9223372036854775807) (hc : -9223372036854775808 <= c /\ c <= 9223372036854775807) (hs : aU r c len = false) :
 Calls Tryz.prog 77 #[.agg #[.int .i64 r, .int .i64 c, .slice ao len cap]] w fun e w' => e = .returned (.tuple #[.agg #[.int .i64 0, .int .i64 0, .slice none 0 0, .int .i64 0, .int .i64 0, .slice none 0 0, .int .i64 0, .int .i64 0, .slice none 0 0, .int .i64 0, .int .i64 0, .slice none 0 0, .int .i64 0, .int .i64 0, .slice none 0 0], .int .i64 1]) /\ Below w.heap.size w w' := by
 have hC := fun w' => yx r c ao len cap w' hr hc hs;have HC := H5 hC;clear hC hs;refine bJ (S0 := fun _ => False) Tryz.func77 (Fr.nil _ w) ?_;refine ak ?_;refine aW fun g1 => ?_;refine aW fun g2 => ?_;refine az ?_;refine c9 ?_;refine cV (v := .tuple #[.agg #[.int .i64 0, .int .i64 0, .slice none 0 0], .int .i64 1]) (fun w' H => HC.out w') ?_;refine aI ?_;refine aW fun g4 => ?_;refine sG ?_;refine az ?_;refine c9 ?_;refine dB true ?_;refine eW ?_;refine kR ?_;refine mR ?_;refine ak ?_;refine dr ?_;refine sW ?_;refine az ?_;refine fh fun w' H => ?_;exact ⟨_, _, rvS (H.all (.row g2 107 [.int .i64 0, .int .i64 0, .slice none 0 0, .int .i64 0, .int .i64 0, .slice none 0 0, .int .i64 0, .int .i64 0, .slice none 0 0, .int .i64 0, .int .i64 0, .slice none 0 0, .int .i64 0, .int .i64 0, .slice none 0 0]) (by simp)) rfl, cH, rfl, H.below⟩
theorem yn (r c : Int) (ao : Option Addr) (len cap : Nat) (w : World) (hr : -9223372036854775808 <= r /\ r <= 9223372036854775807) (hc : -9223372036854775808 <= c /\ c <= 9223372036854775807) (hs : aU r c len = false) :
 Calls Tryz.prog 47 #[.agg #[.int .i64 r, .int .i64 c, .slice ao len cap]] w fun e w' => e = .returned (.tuple #[.agg #[.int .i64 0, .int .i64 0, .slice none 0 0], .slice none 0 0, .int .i64 1]) /\ Below w.heap.size w w' := by
 have hC := fun w' => zU r c ao len cap w' hr hc hs;have HC := H5 hC;clear hC hs;refine bJ (S0 := fun _ => False) Tryz.func47 (Fr.nil _ w) ?_;refine ak ?_;refine aW fun g1 => ?_;refine aW fun g2 => ?_;refine dW ?_;refine az ?_;refine c9 ?_;refine cV (v := .tuple #[.agg #[.int .i64 0, .int .i64 0, .slice none 0 0, .int .i64 0, .int .i64 0, .slice none 0 0, .int .i64 0, .int .i64 0, .slice none 0 0, .int .i64 0, .int .i64 0, .slice none 0 0, .int .i64 0, .int .i64 0, .slice none 0 0], .int .i64 1]) (fun w' H => HC.out w') ?_;refine aI ?_;refine aW fun g5 => ?_;refine sG ?_;refine az ?_;refine c9 ?_;refine dB true ?_;refine eW ?_;refine kR ?_;refine mR ?_;refine ak ?_;refine dr ?_;refine sW ?_;refine dW ?_;refine az ?_;refine oK fun w' H => ?_;exact ⟨_, _, _, xc (H.all (.row g2 24 [.int .i64 0, .int .i64 0, .slice none 0 0]) (by simp)), cH, cH, rfl, H.below⟩
theorem CD (r c : Int) (ao : Option Addr) (len cap : Nat) (w : World) (hr : -9223372036854775808 <= r /\ r <= 9223372036854775807) (hc : -9223372036854775808 <= c /\ c <= 9223372036854775807) (hs : aU r c len = false) :
 Calls Tryz.prog 23 #[.agg #[.int .i64 r, .int .i64 c, .slice ao len cap], .slice none 0 0] w fun e w' => e = .returned (.tuple #[.slice none 0 0, .int .i64 1]) /\ Below w.heap.size w w' := by
 have hC := (fun w' => cY r c ao len cap w' hr hc);rw [eH hs] at hC;have HC := H5 hC;clear hC hs;refine bJ (S0 := fun _ => False) Tryz.func23 (Fr.nil _ w) ?_;refine ak ?_;refine aW fun g2 => ?_;refine dW ?_;refine az ?_;refine c9 ?_;refine cV (v := .int .i64 1) (fun w' H => HC.out w') ?_;refine az ?_;refine c9 ?_;refine dB true ?_;refine eW ?_;refine kR ?_;refine mR ?_;refine ak ?_;refine aI ?_;refine fg ?_;refine fh fun w' H => ?_;exact ⟨_, _, cH, cH, rfl, H.below⟩
theorem xW (r c : Int) (ao : Option Addr) (len cap : Nat) (w : World) (hr : -9223372036854775808 <= r /\ r <= 9223372036854775807) (hc : -9223372036854775808 <= c /\ c <= 9223372036854775807) (hs : aU r c len = false) :
 Calls Tryz.prog 24 #[.agg #[.int .i64 r, .int .i64 c, .slice ao len cap], .slice none 0 0] w fun e w' => e = .returned (.tuple #[.agg #[.bool false, .slice none 0 0], .int .i64 1]) /\ Below w.heap.size w w' := by
 have hC := (fun w' => cY r c ao len cap w' hr hc);rw [eH hs] at hC;have HC := H5 hC;clear hC hs;refine bJ (S0 := fun _ => False) Tryz.func24 (Fr.nil _ w) ?_;refine ak ?_;refine aW fun g2 => ?_;refine aW fun g4 => ?_;refine az ?_;refine c9 ?_;refine cV (v := .int .i64 1) (fun w' H => HC.out w') ?_;refine az ?_;refine c9 ?_;refine dB true ?_;refine eW ?_;refine kR ?_;refine mR ?_;refine ak ?_;refine dr ?_;refine sW ?_;refine az ?_;refine fh fun w' H => ?_;exact ⟨_, _, ka (H.all (.row g4 40 [.bool false, .slice none 0 0]) (by simp)), cH, rfl, H.below⟩
theorem wF (r c : Int) (ao : Option Addr) (len cap : Nat) (w : World) (hr : -9223372036854775808 <= r /\ r <= 9223372036854775807) (hc : -9223372036854775808 <= c /\ c <= 9223372036854775807) (hs : aU r c len = false) :
 Calls Tryz.prog 25 #[.agg #[.int .i64 r, .int .i64 c, .slice ao len cap]] w fun e w' => e = .returned (.tuple #[.agg #[.int .i64 0, .int .i64 0, .slice none 0 0], .slice none 0 0, .int .i64 1]) /\ Below w.heap.size w w' := by
 have hC := fun w' => yn r c ao len cap w' hr hc hs;have HC := H5 hC;clear hC hs;refine bJ (S0 := fun _ => False) Tryz.func25 (Fr.nil _ w) ?_;refine ak ?_;refine aW fun g1 => ?_;refine aW fun g2 => ?_;refine dW ?_;refine az ?_;refine c9 ?_;refine cV (v := .tuple #[.agg #[.int .i64 0, .int .i64 0, .slice none 0 0], .slice none 0 0, .int .i64 1]) (fun w' H => HC.out w') ?_;refine aI ?_;refine dW ?_;refine aW fun g5 => ?_;refine sG ?_;refine dW ?_;refine az ?_;refine c9 ?_;refine dB true ?_;refine eW ?_;refine kR ?_;refine mR ?_;refine ak ?_;refine dr ?_;refine sW ?_;refine dW ?_;refine az ?_;refine oK fun w' H => ?_;exact ⟨_, _, _, xc (H.all (.row g2 24 [.int .i64 0, .int .i64 0, .slice none 0 0]) (by simp)), cH, cH, rfl, H.below⟩
theorem wg (r c : Int) (ao : Option Addr) (len cap : Nat) (w : World) (hr : -9223372036854775808 <= r /\ r <= 9223372036854775807) (hc : -9223372036854775808 <= c /\ c <= 9223372036854775807) (hs : aU r c len = false) :
 Calls Tryz.prog 53 #[.agg #[.int .i64 r, .int .i64 c, .slice ao len cap]] w fun e w' => e = .returned (.tuple #[.slice none 0 0, .int .i64 1]) /\ Below w.heap.size w w' := by
 have hC := fun w' => vi r c ao len cap w' hr hc hs;have HC := H5 hC;clear hC hs;refine bJ (S0 := fun _ => False) Tryz.func53 (Fr.nil _ w) ?_;refine ak ?_;refine aW fun g1 => ?_;refine dW ?_;refine az ?_;refine c9 ?_;refine cV (v := .tuple #[.agg #[.bool false, .slice none 0 0], .int .i64 1]) (fun w' H => HC.out w') ?_;refine aI ?_;refine aW fun g4 => ?_;refine sG ?_;refine az ?_;refine c9 ?_;refine dB true ?_;refine eW ?_;refine kR ?_;refine mR ?_;refine ak ?_;refine aI ?_;refine fg ?_;refine fh fun w' H => ?_;exact ⟨_, _, cH, cH, rfl, H.below⟩
theorem B0 (r c : Int) (ao : Option Addr) (len cap : Nat) (w : World) (hr : -9223372036854775808 <= r /\ r <= 9223372036854775807) (hc : -9223372036854775808 <= c /\ c <= 9223372036854775807) (hs : aU r c len = false) :
 Calls Tryz.prog 26 #[.agg #[.int .i64 r, .int .i64 c, .slice ao len cap]] w fun e w' => e = .returned (.tuple #[.func (.func 54) #[] #[], .int .i64 1]) /\ Below w.heap.size w w' := by
 have hC := fun w' => wg r c ao len cap w' hr hc hs;have HC := H5 hC;clear hC hs;refine bJ (S0 := fun _ => False) Tryz.func26 (Fr.nil _ w) ?_;refine ak ?_;refine aW fun g1 => ?_;refine dW ?_;refine az ?_;refine c9 ?_;refine cV (v := .tuple #[.slice none 0 0, .int .i64 1]) (fun w' H => HC.out w') ?_;refine aI ?_;refine aW fun g4 => ?_;refine sG ?_;refine az ?_;refine c9 ?_;refine dB true ?_;refine eW ?_;refine kR ?_;refine mR ?_;refine ak ?_;refine aI ?_;refine fg ?_;refine fh fun w' H => ?_;exact ⟨_, _, cH, cH, rfl, H.below⟩
theorem yI (v : Value) (w : World) : Calls Tryz.prog 54 #[v] w fun e w' => (∃ v, e = .returned v) /\ Below w.heap.size w w' := by
 refine bJ (S0 := fun _ => False) Tryz.func54 (Fr.nil _ w) ?_;refine kR ?_;refine fin0G fun w' H => ?_;exact ⟨⟨_, rfl⟩, H.below⟩
theorem zu {n : Nat} {ls : List (Nat × Value)} {es : List En} {S0 : Nat -> Prop} {w0 : World} {Q : Exit -> Act -> World -> Prop} {gop : Operand} {p1 : Nat} {assign body : Code} (hz : Rz es)
 (k : ∀ D, pb [mkD D] n S0 w0 Q .normal ls (es ++ [.Br w0.heap.size D]))
 (hgi : eG ls gop = true := by kernel_rfl) (hg : dJ ls gop = .func (.func 54) #[] #[] := by (simp only [cJ, Nat.reduceEqDiff, ↓reduceIte]) <;> rfl) :
 CW Tryz.prog n S0 w0 (.rangeFunc gop #[p1] assign body) Q ls es := fun a w ha hw => by
 refine (wpIn_wide (n := 6)).1 ?_;refine mD (α := Unit) (S := rz es) (N := 0) (Sx := fun xs => xs = []) (E := fun _ _ _ => False) (I := fun _ W => Fr (rz es) w W es) (gf := 54) (lb := #[]) (encs := fun _ => #[undef]) ((ha.ev hgi).trans hg) (enters_of Tryz.func54 (by kernel_rfl) rfl) (fun _ => rfl) ?hE ?hIl ?hIb hw.self
  (fun _ _ => True) ?hEb ?hseq ?hassign ?hbody ?hdone
 case hE => intro s x W l o o' h; exact h.elim
 case hIl => intro s W l o o' h hl ho hn; exact h.Af hz o' ho hn hl
 case hIb => intro s A B h hb; exact h.grow hb
 case hEb => intro s x A B h; exact h.elim
 case hseq =>
  intro l J W hW hJ hJI hY hJ0;exact callsIn_wide.2 ((yI (.func (.yield l) #[] #[]) W).mono fun e W' ⟨he, hb⟩ => ⟨he, [], rfl, hJ _ _ _ hJ0 hb⟩)
 case hassign => intro l pre x W K h; exact h.elim
 case hbody => intro l pre x W a1 _ _ h; exact h.elim
 case hdone =>
  intro D xs W hD hS hf hK;refine k D _ W ⟨by show mkD D :: a.defers = _; rw [ha.df], ha.sz, ha.vs⟩ ?_;have f1 : Fr S0 w0 W es := hw.comp hf hw.rz;have f2 : Fr S0 w0 W (.Br w0.heap.size D :: es) := f1.cons ⟨hK, Nat.le_trans hw.size hD⟩ (fun e' he' => ⟨fun h => (nomatch h), fun h1 b h2 h3 => by
   cases (h3 : b = D);obtain ⟨t, cs, ho, _⟩ := (hz e' he').2 W (f1.all e' he') h1 _ h2;unfold a6 at ho;rw [hK] at ho; cases ho⟩) (fun h => (nomatch h))
  exact f2.perm (List.perm_append_singleton (.Br w0.heap.size D) es).symm
theorem x7 (r c : Int) (ao : Option Addr) (len cap : Nat) (w : World) (hr : -9223372036854775808 <= r /\ r <= 9223372036854775807) (hc : -9223372036854775808 <= c /\ c <= 9223372036854775807) (hs : aU r c len = false) :
 Calls Tryz.prog 7 #[.agg #[.int .i64 r, .int .i64 c, .slice ao len cap]] w fun e w' => e = .returned (.bool true) /\ Below w.heap.size w w' := by
 have HC := H5 (And.intro (fun w' => uS r c ao len cap w' hr hc hs) (And.intro (fun w' => vi r c ao len cap w' hr hc hs) (And.intro (fun w' => CD r c ao len cap w' hr hc hs) (And.intro (fun w' => xW r c ao len cap w' hr hc hs) (And.intro (fun w' => wF r c ao len cap w' hr hc hs) (And.intro (fun w' => tu r c r c ao ao len cap len cap w' hr hc hs) (fun w' => B0 r c ao len cap w' hr hc hs)))))));clear hs;have hnil : ∀ w : World, (binOp BinOp.eql 59 (.func (.func 54) #[] #[]) .nilFunc).run Tryz.prog w = .ok (.bool false) w := fun _ => by kernel_rfl
 refine Bh (S0 := fun _ => False) Tryz.func7 (Fr.nil _ w) ?_;refine ak ?_;refine aW fun g1 => ?_;refine aW fun g2 => ?_;refine eW ?_;refine ak ?_;refine dW ?_;refine cV (v := .tuple #[.int .i64 0, .slice none 0 0, .int .i64 1]) (fun w' H => HC.out.1 w') ?_;refine aI ?_;refine aI ?_;refine az ?_;refine c9 ?_;refine cV (v := .tuple #[.agg #[.bool false, .slice none 0 0], .int .i64 1]) (fun w' H => HC.out.2.1 w') ?_;refine aI ?_;refine aW fun g6 => ?_;refine sG ?_;refine az ?_;refine c9 ?_;refine cV (v := .tuple #[.slice none 0 0, .int .i64 1]) (fun w' H => HC.out.2.2.1 w') ?_;refine aI ?_;refine dW ?_;refine az ?_;refine c9 ?_;refine cV (v := .tuple #[.agg #[.bool false, .slice none 0 0], .int .i64 1]) (fun w' H => HC.out.2.2.2.1 w') ?_;refine aI ?_;refine aW fun g10 => ?_;refine sG ?_;refine az ?_;refine c9 ?_;refine cV (v := .tuple #[.agg #[.int .i64 0, .int .i64 0, .slice none 0 0], .slice none 0 0, .int .i64 1]) (fun w' H => HC.out.2.2.2.2.1 w') ?_;refine aI ?_;refine dW ?_;refine aW fun g12 => ?_;refine sG ?_;refine dW ?_;refine az ?_;refine c9 ?_;refine dW ?_;refine cV (v := .tuple #[.bool false, .int .i64 1]) (fun w' H => HC.out.2.2.2.2.2.1 w') ?_;refine aI ?_;refine dW ?_;refine az ?_;refine c9 ?_;refine cV (v := .tuple #[.func (.func 54) #[] #[], .int .i64 1]) (fun w' H => HC.out.2.2.2.2.2.2 w') ?_;refine aI ?_;refine dW ?_;refine az ?_;refine c9 ?_;refine dB false ?_;refine eW ?_;refine kR ?_;refine gM ?_;refine ak ?_;refine az ?_;refine iq (es' := [.row g2 4 [.bool false], .row g6 40 [.bool false, .slice none 0 0], .row g10 40 [.bool false, .slice none 0 0], .row g12 24 [.int .i64 0, .int .i64 0, .slice none 0 0]]) ?_;refine zu (.cons .row .row (.cons .row .row (.cons .row .row (.cons .row .row .nil)))) fun D => ?_;refine ak ?_;refine dW ?_;refine dB true ?_;refine dW ?_;refine dG ?_;refine dG ?_;refine gU true ?_;refine dr ?_;refine dG ?_;refine nV (v := .int .i64 0) (fun w' H => cw (.agg #[.bool false, .slice none 0 0]) 0 w' (ae.int (ae.zero w' w.heap.size) (by simp [bg]))) ?_;refine gU true ?_;refine dr ?_;refine dG ?_;refine dG ?_;refine gU true ?_;refine dr ?_;refine dG ?_;refine nV (v := .int .i64 0) (fun w' H => cw (.agg #[.bool false, .slice none 0 0]) 0 w' (ae.int (ae.zero w' w.heap.size) (by simp [bg]))) ?_;refine gU true ?_;refine dr ?_;refine mB ?_;refine gU true ?_;refine dr ?_;refine dG ?_;refine dG ?_;refine gU true ?_;refine dr ?_;refine dG ?_;refine dG ?_;refine dW ?_;refine az ?_;refine c9 ?_;refine dW ?_;refine dG ?_;refine gU true ?_;refine dr ?_;refine dG ?_;refine gU true ?_;refine dr ?_;refine dG ?_;refine gU true ?_;refine dr ?_;refine dG ?_;refine gU true ?_;refine dr ?_;refine dG ?_;refine gU true ?_;refine dr ?_;refine dG ?_;refine gU true ?_;refine dr ?_;refine dG ?_;refine gU true ?_;refine dW ?_;refine sW ?_;refine fg ?_;refine BB (D := D) (es' := [.row g2 4 [.bool true], .row g6 40 [.bool false, .slice none 0 0], .row g10 40 [.bool false, .slice none 0 0], .row g12 24 [.int .i64 0, .int .i64 0, .slice none 0 0]]) (fun w' H => ?_) (.cons .row .row (.cons .row .row (.cons .row .row (.cons .row .row .nil)))) (by simp);exact ⟨_, rvBl (H.all (.row g2 4 [.bool true]) (by simp)), rfl, H.below⟩
theorem ql : ∀ (us cs tl : List Value), us.length <= tl.length -> iZ (cs ++ tl) cs.length us = cs ++ us ++ tl.drop us.length
 | [], cs, tl, _ => by simp [iZ]
 | u :: us, cs, tl, h => by
  obtain ⟨x, t, rfl⟩ : ∃ x t, tl = x :: t := by
   cases tl with
   | nil => simp at h
   | cons x t => exact ⟨x, t, rfl⟩
  have e : (cs ++ x :: t).set cs.length u = (cs ++ [u]) ++ t := by
   rw [List.set_append_right _ _ (Nat.le_refl _)]; simp
  have h2 := ql us (cs ++ [u]) t (by simpa using h);rw [iZ, e, show cs.length + 1 = (cs ++ [u]).length by simp, h2];simp
theorem wa.nil (te : TypeId) (sz : Nat) (w : World) : wa te sz none 0 0 [] w := ⟨by simp, Nat.le_refl _, .inl ⟨rfl, rfl⟩⟩
section
variable {P : Program} {Q : Exit -> Act -> World -> Prop} {ds : List Deferred} {S0 : Nat -> Prop} {w0 : World} {n : Nat} {ls : List (Nat × Value)} {es : List En} {c : Code}
theorem BM {te : TypeId} {sz : Nat} (k : fJ ds P n S0 w0 c Q ls (.lg te sz none 0 0 [] :: es)) : fJ ds P n S0 w0 c Q ls es := fun a w ha hw => k a w ha (hw.pure (e := .lg te sz none 0 0 []) (wa.nil te sz w) (fun b ⟨o, e⟩ => nomatch e))
theorem Bl {te : TypeId} {sz : Nat} {ao : Option Addr} {k cap : Nat} {cs : List Value} (hk : 0 < k) (h : ∀ b tl, ao = some ⟨b, 0, none⟩ -> aK tl -> (cs ++ tl).length = cap * sz -> fJ ds P n S0 w0 c Q ls (.row b te (cs ++ tl) :: es)) : fJ ds P n S0 w0 c Q ls (.lg te sz ao k cap cs :: es) := fun a w ha hw => by
 obtain ⟨h1, h2, ⟨_, h3⟩ | ⟨b, tl, rfl, ht, hr, hl⟩⟩ : wa te sz ao k cap cs w := hw.m0
 . omega
 . exact h b tl rfl ht hl a w ha (hw.conv (fun _ => hr) (fun g e => by obtain rfl : g = b := e; exact ⟨0, rfl⟩) (fun _ => rfl))
end
theorem zf {w : World} {t te ty : TypeId} {sz bytes : Nat} {z : Value} (ht : Tryz.prog.underlying t = some (.slice te)) (hinfo : (Tryz.prog.info? te).map (fun i => (i.zero, i.size, i.bytes)) = some (some z, sz, bytes)) (hzc : z.cells.size = sz) (hzn : ∀ n, aK (Builtin.zeroCells z.cells n).toList)
 {ao : Option Addr} {k cap m : Nat} {cs news : List Value} {x : Value} (h : wa te sz ao k cap cs w) (hb : (k + m) * bytes <= 140737488355328) (hb2 : k + m <= 100000000) (hs : Src Tryz.prog sz t x m news w) :
 ∃ ao' cap' w', (Builtin.append_ #[t, t] ty #[.slice ao k cap, x]).run Tryz.prog w = .ok (.slice ao' (k + m) cap') w' /\ wa te sz ao' (k + m) cap' (cs ++ news) w' /\ aO (fun g => ∃ o, ao = some ⟨g, o, none⟩) w w' /\ ∀ g, (∃ o, ao' = some ⟨g, o, none⟩) -> (∃ o, ao = some ⟨g, o, none⟩) \/ w.heap.size <= g := by
 obtain ⟨i, hi, hz, hsz, hby⟩ := info_parts hinfo;subst hsz hby;obtain ⟨hk, hkc, hrow⟩ := h;have hnl := hs.newsLen;by_cases h0 : m = 0
 . subst h0;have hn : news = [] := List.eq_nil_of_length_eq_zero (by simpa using hnl);subst hn;exact ⟨ao, cap, w, run_append_nothing w t t ty te i ht hi ao k cap hkc _ hs, by simpa using ⟨hk, hkc, hrow⟩, aO.refl _ _, fun g hg => .inl hg⟩
 . by_cases hroom : k + m <= cap
   . obtain ⟨_, h⟩ | ⟨b, tl, rfl, htl, hr, hl⟩ := hrow
     . omega
     have hmul : (k + m) * i.size <= cap * i.size := Nat.mul_le_mul_right _ hroom;rw [Nat.add_mul] at hmul;have hle : news.length <= tl.length := by rw [List.length_append] at hl; omega
     have hex : ∀ j, j < cap * i.size -> (w.cell? ⟨b, j, none⟩).isSome = true := fun j hj => by rw [hr.cell, List.getElem?_eq_getElem (by omega)]; rfl
     have hset : iZ (cs ++ tl) (k * i.size) news = cs ++ news ++ tl.drop news.length := by rw [<- hk]; exact ql news cs tl hle
     have hsc : w.setCells b (0 + k * i.size) news = qB w b (k * i.size) news := by rw [Nat.zero_add, lD]
     refine ⟨_, _, _, run_append_room_src w t t ty te i ht hi b 0 k cap _ m _ hs hroom (fun j hj => hex _ (by omega)) (fun j _ => hr.free _), ?_, ?_, fun g hg => .inl hg⟩
     . rw [hsc];have h2 := hr.qB news (k * i.size);rw [hset] at h2;refine ⟨by rw [List.length_append, hk, hnl, Nat.add_mul], hroom, .inr ⟨b, tl.drop news.length, rfl, fun v hv => htl v (List.mem_of_mem_drop hv), h2, ?_⟩⟩;rw [<- hset, mC]; exact hl
     . rw [hsc];exact (aO.qB news (k * i.size) (aO.refl (· = b) w)).mono (fun g _ e => by obtain rfl : g = b := e; exact ⟨0, rfl⟩)
   . have hold : (Builtin.firstCells i.size k (.slice ao k cap)).run Tryz.prog w.drew = .ok cs.toArray w.drew := by
      obtain ⟨rfl, h⟩ | ⟨b, tl, rfl, htl, hr, hl⟩ := hrow
      . have : k = 0 := by omega
        subst this;have hc : cs = [] := List.eq_nil_of_length_eq_zero (by simpa using hk);subst hc;exact run_firstCells_none w.drew i.size 0 0 cap
      . refine run_firstCells_some w.drew i.size k _ k cap cs hk fun j v hj => ?_;have e : w.drew.cell? ((⟨b, 0, none⟩ : Addr).add j) = w.cell? ⟨b, j, none⟩ := by simp only [Addr.add]; by_cases hj0 : j = 0 <;> simp [hj0]
        rw [e, hr.cell, List.getElem?_append_left (List.getElem?_eq_some_iff.1 hj).1]; exact hj
     have hge := grownCap_ge w (k + m) cap te;refine ⟨_, _, _, run_append_grow_src w t t ty te i z ht hi hz ao k cap cs hold _ m _ hs (by omega) (by omega) (growslice_fits (by omega) hb), ⟨by rw [List.length_append, hk, hnl, Nat.add_mul], hge, .inr ⟨_, (Builtin.zeroCells z.cells (grownCap w (k + m) cap te - (k + m))).toList, rfl, hzn _, ?_, ?_⟩⟩, aO.yT _ w _, fun g ⟨o, e⟩ => by cases e; exact .inr (Nat.le_refl _)⟩
     . have hnew := a6.new w.drew ((cs ++ news).toArray ++ Builtin.zeroCells z.cells (grownCap w (k + m) cap te - (k + m))) te;simpa using hnew
     . have hz2 : (Builtin.zeroCells z.cells (grownCap w (k + m) cap te - (k + m))).toList.length = (grownCap w (k + m) cap te - (k + m)) * i.size := by rw [Array.length_toList, size_zeroCells, hzc]
       rw [List.length_append, List.length_append, hk, hnl, hz2, <- Nat.add_mul, <- Nat.add_mul, show k + m + (grownCap w (k + m) cap te - (k + m)) = grownCap w (k + m) cap te by omega]
section
variable {ops : Array Oper} {Q : Exit -> Act -> World -> Prop} {ds : List Deferred} {S0 : Nat -> Prop} {w0 : World} {E0 : List En} {hd : List (List Nat)} {n j s : Nat} {l : List Nat} {G E : List En} {ls : List (Nat × Value)} {ty : TypeId} {pos : String} {af : Array Edge}
theorem BW {i k cap g c bytes : Nat} {t te : TypeId} {z v : Value} {ao : Option Addr} {cs : List Value} {sa xa : Operand} {E' : Option Addr × Nat -> List En} (ht : Tryz.prog.underlying t = some (.slice te)) (hinfo : (Tryz.prog.info? te).map (fun i => (i.zero, i.size, i.bytes)) = some (some z, 1, bytes)) (hzc : z.cells.size = 1) (hzn : ∀ n, aK (Builtin.zeroCells z.cells n).toList)
 (hb : (k + 1) * bytes <= 140737488355328) (hb2 : k + 1 <= 100000000) (hone : v.oneCell' = true) (hnw : aK cs /\ te ≠ 47) (hm : En.row g te [v] ∈ G ++ E)
 (k' : ∀ q, dZ ds ⟨Tryz.prog, ops, Q, S0, w0, E0, hd⟩ n l G (E' q) ((s, .slice q.1 (k + 1) q.2) :: ls))
 (ho : ops[j]? = some ⟨some s, .call { callee := Callee.builtin Builtin.append, args := #[sa, xa], argTypes := #[t, t] }, ty, pos, af, none⟩ := by rfl) (hk : (et ls (.call { callee := Callee.builtin Builtin.append, args := #[sa, xa], argTypes := #[t, t] }) && Nat.blt s n) = true := by kernel_rfl)
 (ha : dJ ls sa = .slice ao k cap := by (simp only [cJ, Nat.reduceEqDiff, ↓reduceIte]) <;> rfl)
 (hv : dJ ls xa = .slice (some ⟨g, 0, none⟩) 1 c := by (simp only [cJ, Nat.reduceEqDiff, ↓reduceIte, av]) <;> rfl)
 (hE : ∀ q, Up (.lg te 1 ao k cap cs) (.lg te 1 q.1 (k + 1) q.2 (cs ++ [v])) i E (E' q) := by intro q; repeat first | exact .z | apply Up.s)
 (hst : fV ops hd j [i] = true := by kernel_rfl) : dZ ds ⟨Tryz.prog, ops, Q, S0, w0, E0, hd⟩ n (j :: l) G E ls := fun a hA => by
 simp only [Bool.and_eq_true] at hk;refine ⟨_, ho, .inr (.inr ⟨rfl, rfl, Option Addr × Nat, fun q => .slice q.1 (k + 1) q.2, fun _ => G, E', [i], ⟨(none, 0)⟩, fun X w hX hw => ?_, hst, fun q r hr => (hE q).other (by simpa using hr), fun q => k' q _ (hA.put (Nat.le_of_ble_eq_true hk.2) _)⟩)⟩;have hrow : a6 w g te [v] := hw.all _ (List.mem_append_right _ hm);have hl : wa te 1 ao k cap cs w := by
  obtain ⟨m, h1, h2⟩ := (hE (none, 0)).right' X G;exact (hw.perm h1).all _ (List.mem_cons_self ..)
 have hsrc : Src Tryz.prog 1 t (.slice (some ⟨g, 0, none⟩) 1 c) 1 [v] w := Src.ofSlice w ht _ 1 c [v] rfl (fun j u hj => by
  match j, hj with
  | 0, hj => cases hj; exact hrow.cell 0) (fun u hu => by rw [List.mem_singleton.1 hu]; exact hone)
 obtain ⟨ao', cap', w', hrun, h1', hc, hS⟩ := zf (ty := ty) ht hinfo hzc hzn hl hb hb2 hsrc;obtain ⟨m, h1, h2⟩ := (hE (ao', cap')).right' X G;refine AN rfl ?_;show oU _ _ ((execOp a.eval _).run _ w);rw [hA.exec (o := ⟨some s, .call { callee := Callee.builtin Builtin.append, args := #[sa, xa], argTypes := #[t, t] }, ty, pos, af, none⟩) hk.1];have e : (execOp (dJ ls) ⟨some s, .call { callee := Callee.builtin Builtin.append, args := #[sa, xa], argTypes := #[t, t] }, ty, pos, af, none⟩).run Tryz.prog w = .ok (.value (.slice ao' (k + 1) cap')) w' := by
  simp [execOp, resolve, invoke, builtin, ha, hv, hrun, Result.andThen]
 rw [e];refine ⟨(ao', cap'), rfl, Fr.perm ((hw.perm h1).dm (e := .lg te 1 ao k cap cs) (e' := .lg te 1 ao' (k + 1) cap' (cs ++ [v])) rfl hc (fun x hx _ => ?_) (fun _ h => h) h1' hS) h2.symm⟩;rintro b ⟨o, rfl⟩;obtain ⟨_, _, ⟨h, _⟩ | ⟨b', tl, h, ht, hr, _⟩⟩ := hl
 . cases h
 . cases h; exact ⟨_, _, hr, hnw.1.append ht, hnw.2⟩
end
theorem Cw : (Tryz.prog.info? 22).map (fun i => (i.zero, i.size, i.bytes)) = some (some (.slice none 0 0), 1, 24) := by kernel_rfl
theorem yg : (Tryz.prog.info? 3).map (fun i => (i.zero, i.size, i.bytes)) = some (some (.int .i64 0), 1, 8) := by kernel_rfl
theorem tR (z : Value) (hz : z.cells = #[z]) (hn : ∀ n, z ≠ .int .u64 n) (n : Nat) : aK (Builtin.zeroCells z.cells n).toList := by
 rw [hz];intro v hv k;unfold Builtin.zeroCells at hv;simp only [Array.toList_map, List.mem_map, Array.mem_toList_iff, Array.mem_range] at hv;obtain ⟨i, _, rfl⟩ := hv;have h2 : i % 1 = 0 := Nat.mod_one i;simp [h2];exact hn k
theorem Fr.BA {S0 : Nat -> Prop} {w0 w : World} {es : List En} (h : Fr S0 w0 w es) : ∀ {X : List En}, (∀ x ∈ X, x.F w /\ ∀ b, ¬ x.S b) -> Fr S0 w0 w (X ++ es)
 | [], _ => h
 | x :: X, hx => (Fr.BA h (X := X) fun y hy => hx y (List.mem_cons_of_mem _ hy)).pure (hx x (List.mem_cons_self ..)).1 (hx x (List.mem_cons_self ..)).2
section
variable {P : Program} {ops : Array Oper} {Q : Exit -> Act -> World -> Prop} {ds : List Deferred} {S0 : Nat -> Prop} {w0 : World} {E0 : List En} {hd : List (List Nat)} {n j s : Nat} {l : List Nat} {G E : List En} {ls : List (Nat × Value)} {op : Op} {ty : TypeId} {pos : String} {af : Array Edge} {f : FuncId} {args : Array Value}
theorem cUp {α : Type} {mk : α -> Value} {e : En} {e' : α -> En} {ens : α -> List En} {i : Nat} {E' : α -> List En}
 (c : ∀ w, Fr S0 w0 w (G ++ E) -> Calls P f args w fun r w' => ∃ p, r = .returned (mk p) /\ aO e.S w w' /\ (e' p).F w' /\ (∀ b, (e' p).S b -> e.S b \/ w.heap.size <= b) /\ ∀ x ∈ ens p, x.F w' /\ ∀ b, ¬ x.S b)
 (hwl : ∀ w, e.F w -> Wl e.S w)
 (k : ∀ p, dZ ds ⟨P, ops, Q, S0, w0, E0, hd⟩ n l (ens p ++ G) (E' p) ((s, mk p) :: ls))
 (hwr : e.wr = true := by rfl) (hne : Nonempty α := by infer_instance)
 (ho : ops[j]? = some ⟨some s, op, ty, pos, af, none⟩ := by rfl) (hk : (!bY op && !dx op && et ls op && Nat.blt s n) = true := by kernel_rfl)
 (hr : ∀ w, (execOp (dJ ls) ⟨some s, op, ty, pos, af, none⟩).run P w = .ok (.enter f args) w := by intro w; (try simp only [av]); go_simp <;> with_reducible rfl)
 (hE : ∀ p, Up e (e' p) i E (E' p) := by intro p; repeat first | exact .z | apply Up.s)
 (hst : fV ops hd j [i] = true := by kernel_rfl) : dZ ds ⟨P, ops, Q, S0, w0, E0, hd⟩ n (j :: l) G E ls := fun a ha => by
 simp only [Bool.and_eq_true, Bool.not_eq_true'] at hk;refine ⟨_, ho, .inr (.inr ⟨hk.1.1.1, hk.1.1.2, α, mk, fun p => ens p ++ G, E', [i], hne, fun X w hX hw => ?_, hst, fun p r hr => (hE p).other (by simpa using hr), fun p => k p _ (ha.put (Nat.le_of_ble_eq_true hk.2) _)⟩)⟩;refine AN rfl ?_;show oU P _ ((execOp a.eval _).run P w);rw [ha.exec hk.1.2, hr w];refine (c w (hw.sub (List.sublist_append_right ..))).mono ?_;rintro r w' ⟨p, rfl, hc, hF, hS, hens⟩;obtain ⟨m, h1, h2⟩ := (hE p).right' X G;have h0 := hw.perm h1;have h3 := Fr.BA (Fr.perm (h0.dm hwr (e' := e' p) hc (fun x hx hl => hwl w h0.m0) (fun _ h => h) hF hS) h2.symm) hens;refine ⟨_, rfl, p, rfl, h3.perm ?_⟩;rw [List.append_assoc];exact (List.perm_append_comm_assoc (ens p) X (G ++ E' p))
end
section
variable {P : Program} {Q : Exit -> Act -> World -> Prop} {ds : List Deferred} {S0 : Nat -> Prop} {w0 : World} {n : Nat} {ls : List (Nat × Value)} {es : List En} {c : Code}
end
section
variable {S0 : Nat -> Prop} {w0 w : World} {e : En} {es : List En}
theorem Fr.uQ {X : List En} (h : Fr S0 w0 w (e :: es)) (hw : e.wr = true) (hX : ∀ x ∈ X, x.F w /\ ∀ b, x.S b -> e.S b) (hp : X.Pairwise Ap) : Fr S0 w0 w (X ++ es) := by
 have hs := List.pairwise_cons.1 h.sep;refine ⟨h.bs, fun x hx => (List.mem_append.1 hx).elim (fun q => (hX x q).1) (fun q => h.all x (List.mem_cons_of_mem _ q)), List.pairwise_append.2 ⟨hp, hs.2, fun x hx y hy => ⟨fun _ b h1 h2 => (hs.1 y hy).1 hw b ((hX x hx).2 b h1) h2, fun q b h1 h2 => (hs.1 y hy).2 q b h1 ((hX x hx).2 b h2)⟩⟩, fun x hx q b hb => ?_⟩;rcases List.mem_append.1 hx with hx | hx
 . exact h.own e (List.mem_cons_self ..) hw b ((hX x hx).2 b hb)
 . exact h.own x (List.mem_cons_of_mem _ hx) q b hb
theorem Fr.Bz {X : List En} (h : Fr S0 w0 w (X ++ es)) (he : e.F w) (hS : ∀ b, e.S b -> ∃ x ∈ X, x.wr = true /\ x.S b) : Fr S0 w0 w (e :: es) := by
 have hs := List.pairwise_append.1 h.sep;refine ⟨h.bs, fun x hx => (List.mem_cons.1 hx).elim (fun q => q ▸ he) (fun q => h.all x (List.mem_append_right _ q)), List.pairwise_cons.2 ⟨fun y hy => ⟨fun _ b h1 h2 => ?_, fun q b h1 h2 => ?_⟩, hs.2.1⟩, fun x hx q b hb => ?_⟩
 . obtain ⟨x, hx, hw, hb⟩ := hS b h1;exact (hs.2.2 x hx y hy).1 hw b hb h2
 . obtain ⟨x, hx, hw, hb⟩ := hS b h2;exact (hs.2.2 x hx y hy).2 q b h1 hb
 . rcases List.mem_cons.1 hx with rfl | hx
   . obtain ⟨y, hy, hw, hb'⟩ := hS b hb;exact h.own y (List.mem_append_left _ hy) hw b hb'
   . exact h.own x (List.mem_append_right _ hx) q b hb
theorem iD {α : Type} {l : List α} {x d : α} (t : Nat) : (l ++ [x]).getD t d = if t < l.length then l.getD t d else if t = l.length then x else d := by
 by_cases h : t < l.length
 . simp [h, List.getElem?_append_left h]
 . rw [if_neg h];by_cases h2 : t = l.length
   . subst h2; simp
   . rw [if_neg h2];rw [List.getD_eq_getElem?_getD, List.getElem?_eq_none (by simp; omega)]; rfl
theorem Fr.yE {gs : List Nat} {E : List (List Int)} {g x x' : Nat} {ps : List P4} {tl : List Value} {v : List Int} (hl : gs.length = E.length) (hx : E.length <= x) (hx' : E.length < x') (hn : aK tl)
 (h : Fr S0 w0 w (.row g 40 (rn ps tl) :: .ns ps v :: .na x gs E :: es)) : Fr S0 w0 w (.na x' (gs ++ [g]) (E ++ [v]) :: es) /\ ∀ t, t < E.length -> gs.getD t 0 ≠ g := by
 have hr : a6 w g 40 (rn ps tl) := h.m0;have hns : dA w ps v := h.m1;have hF : RwF x gs E w := h.m2;have hs := List.pairwise_cons.1 h.sep;refine ⟨Fr.Bz (X := [.row g 40 (rn ps tl), .ns ps v, .na x gs E]) h (fun t ht hne => ?_) fun b ⟨t, ht, hne, e⟩ => ?_, fun t ht e => ?_⟩
 . rw [List.length_append] at ht;rw [iD, iD, hl];by_cases q : t < E.length
   . rw [if_pos q, if_pos q]; exact hF t q (by omega)
   . have e : t = E.length := by simp at ht; omega
     rw [if_neg q, if_neg q, if_pos e, if_pos e];exact ⟨ps, tl, hn, hr, hns⟩
 . rw [List.length_append] at ht;rw [iD, hl] at e;by_cases q : t < E.length
   . rw [if_pos q] at e;exact ⟨.na x gs E, by simp, rfl, t, q, by omega, e⟩
   . rw [if_neg q, if_pos (by simp at ht; omega)] at e;exact ⟨.row g 40 (rn ps tl), by simp, rfl, e⟩
 . exact (hs.1 (.na x gs E) (by simp)).1 rfl g rfl ⟨t, ht, by omega, e.symm⟩
theorem Fr.rws0 (h : Fr S0 w0 w es) : Fr S0 w0 w (.na 0 [] [] :: es) := h.cons (fun t ht => absurd ht (Nat.not_lt_zero _)) (fun e' _ => ⟨fun _ b ⟨t, ht, _⟩ => absurd ht (Nat.not_lt_zero _), fun _ b _ ⟨t, ht, _⟩ => absurd ht (Nat.not_lt_zero _)⟩) (fun _ b ⟨t, ht, _⟩ => absurd ht (Nat.not_lt_zero _))
end
theorem rws0W {P : Program} {Q : Exit -> Act -> World -> Prop} {ds : List Deferred} {S0 : Nat -> Prop} {w0 : World} {n : Nat} {ls : List (Nat × Value)} {es : List En} {c : Code} (k : fJ ds P n S0 w0 c Q ls (.na 0 [] [] :: es)) : fJ ds P n S0 w0 c Q ls es := fun a w ha hw => k a w ha hw.rws0
def hG (c : Nat) (gs : List Nat) : List Value := gs.map fun g => .slice (some ⟨g, 0, none⟩) c c
theorem oN (c : Nat) (gs : List Nat) : (hG c gs).length = gs.length := by simp [hG]
theorem Cv {c t : Nat} {gs : List Nat} (tl : List Value) (h : t < gs.length) : (hG c gs ++ tl)[t]? = some (.slice (some ⟨gs.getD t 0, 0, none⟩) c c) := by
 rw [List.getElem?_append_left (by rw [oN]; exact h)];simp [hG, h]
theorem Av (c : Nat) (gs : List Nat) (g : Nat) : hG c gs ++ [.slice (some ⟨g, 0, none⟩) c c] = hG c (gs ++ [g]) := by simp [hG]
theorem ky (c : Nat) : ∀ gs : List Nat, aK (hG c gs)
 | [] => aK.nil
 | _ :: gs => aK.slice (ky c gs)
def iL (ns : List Nat) : List Value := ns.map fun x : Nat => Value.int .i64 (x : Int)
theorem qP (ns : List Nat) : (iL ns).length = ns.length := by simp [iL]
theorem Ct {t : Nat} {ns : List Nat} (tl : List Value) (h : t < ns.length) : (iL ns ++ tl)[t]? = some (.int .i64 ((ns.getD t 0 : Nat) : Int)) := by
 rw [List.getElem?_append_left (by rw [qP]; exact h)];simp [iL, h]
theorem vI (ns : List Nat) (x : Nat) : iL ns ++ [.int .i64 (x : Int)] = iL (ns ++ [x]) := by simp [iL]
theorem jB : ∀ ns : List Nat, aK (iL ns)
 | [] => aK.nil
 | _ :: ns => aK.i64 (jB ns)
theorem uZ {c t g : Nat} {gs : List Nat} (tl : List Value) (h : t < gs.length) (hg : gs.getD t 0 = g) : (hG c gs ++ tl)[t]? = some (.slice (some ⟨g, 0, none⟩) c c) := by rw [Cv tl h, hg]
theorem Bk {t x : Nat} {ns : List Nat} (tl : List Value) (h : t < ns.length) (hx : ns.getD t 0 = x) : (iL ns ++ tl)[t]? = some (.int .i64 (x : Int)) := by rw [Ct tl h, hx]
def Ai (o gs : List Nat) (E : List (List Int)) (w : World) : Prop := ∀ t, t < E.length -> t ∉ o -> ∃ (ps : List P4) (tl : List Value), aK tl /\ a6 w (gs.getD t 0) 40 (rn ps tl) /\ dA w ps (E.getD t [])
abbrev En.kb (o gs : List Nat) (E : List (List Int)) : En := .fact true true (fun g => ∃ t, t < E.length /\ t ∉ o /\ g = gs.getD t 0) (Ai o gs E)
 (fun h b ⟨t, ht, hx, e⟩ => by
  obtain ⟨ps, tl, _, hr, _⟩ := h t ht hx;rw [e]; exact hr.lt)
 (fun h hc hT hs t ht hx => by
  obtain ⟨ps, tl, hn, hr, h1, h2⟩ := h t ht hx;exact ⟨ps, tl, hn, hc.row hr (hs _ ⟨t, ht, hx, rfl⟩), h1, fun i a => hc.num (hT rfl).bH (h2 i a)⟩)
section
variable {S0 : Nat -> Prop} {w0 w : World} {es : List En} {gs o : List Nat} {E : List (List Int)}
theorem Fr.rwoI {x : Nat} (hx : E.length <= x) (h : Fr S0 w0 w (.na x gs E :: es)) : Fr S0 w0 w (.kb [] gs E :: es) := h.conv (fun h t ht _ => h t ht (by omega)) (fun b ⟨t, ht, _, e⟩ => ⟨t, ht, by omega, e⟩) (fun _ => rfl)
theorem Fr.rwoT {t : Nat} (ht : t < E.length) (hto : t ∉ o) (hi : ∀ a b, a < E.length -> b < E.length -> gs.getD a 0 = gs.getD b 0 -> a = b) (h : Fr S0 w0 w (.kb o gs E :: es)) : ∃ ps tl, aK tl /\ ps.length = (E.getD t []).length /\ Fr S0 w0 w (.row (gs.getD t 0) 40 (rn ps tl) :: .ns ps (E.getD t []) :: .kb (t :: o) gs E :: es) := by
 have hF : Ai o gs E w := h.m0;obtain ⟨ps, tl, hn, hr, hns⟩ := hF t ht hto;refine ⟨ps, tl, hn, hns.1, h.uQ (X := [.row (gs.getD t 0) 40 (rn ps tl), .ns ps (E.getD t []), .kb (t :: o) gs E]) rfl (fun x hx => ?_) ?_⟩
 . simp only [List.mem_cons, List.mem_nil_iff, or_false] at hx;rcases hx with rfl | rfl | rfl
   . exact ⟨hr, fun b e => ⟨t, ht, hto, e⟩⟩
   . exact ⟨hns, fun _ h => h.elim⟩
   . exact ⟨fun s hs hso => hF s hs fun q => hso (List.mem_cons_of_mem _ q), fun b ⟨s, hs, hso, e⟩ => ⟨s, hs, fun q => hso (List.mem_cons_of_mem _ q), e⟩⟩
 . have hne : ∀ b, (∃ s, s < E.length /\ s ∉ t :: o /\ b = gs.getD s 0) -> b ≠ gs.getD t 0 := fun b ⟨s, hs, hso, e⟩ e' => hso (by rw [hi s t hs ht (e.symm.trans e')]; exact List.mem_cons_self ..);refine .cons (fun x hx => ?_) (.cons (fun x hx => ?_) (.cons (fun x hx => (List.not_mem_nil hx).elim) .nil))
   . simp only [List.mem_cons, List.mem_nil_iff, or_false] at hx;rcases hx with rfl | rfl
     . exact ⟨fun _ _ _ h => h, fun q => nomatch q⟩
     . exact ⟨fun _ b hb hb' => hne b hb' hb, fun _ b hb' hb => hne b hb' hb⟩
   . simp only [List.mem_cons, List.mem_nil_iff, or_false] at hx;rcases hx with rfl;exact ⟨(fun q => nomatch q), fun _ _ _ h => h⟩
theorem Fr.Ao {t : Nat} {ps : List P4} {tl : List Value} {xs : List Int} (ht : t < E.length) (hto : t ∉ o) (hn : aK tl)
 (h : Fr S0 w0 w (.row (gs.getD t 0) 40 (rn ps tl) :: .ns ps xs :: .kb (t :: o) gs E :: es)) : Fr S0 w0 w (.kb o gs (E.set t xs) :: es) := by
 have hr : a6 w (gs.getD t 0) 40 (rn ps tl) := h.m0;have hns : dA w ps xs := h.m1;have hF : Ai (t :: o) gs E w := h.m2;refine Fr.Bz (X := [.row (gs.getD t 0) 40 (rn ps tl), .ns ps xs, .kb (t :: o) gs E]) h (fun s hs hso => ?_) fun b ⟨s, hs, hso, e⟩ => ?_
 . rw [List.length_set] at hs;by_cases q : s = t
   . subst q;exact ⟨ps, tl, hn, hr, by rw [show (E.set s xs).getD s [] = xs by simp [ht]]; exact hns⟩
   . obtain ⟨ps', tl', a1, a2, a3⟩ := hF s hs (by simp [q, hso]);exact ⟨ps', tl', a1, a2, by rw [show (E.set t xs).getD s [] = E.getD s [] by simp [List.getElem?_set_ne (fun e => q e.symm)]]; exact a3⟩
 . rw [List.length_set] at hs;by_cases q : s = t
   . subst q; exact ⟨.row (gs.getD s 0) 40 (rn ps tl), by simp, rfl, e⟩
   . exact ⟨.kb (t :: o) gs E, by simp, rfl, s, hs, by simp [q, hso], e⟩
theorem Fr.rwoP {gs' : List Nat} {E' : List (List Int)} (f : Nat -> Nat) (hl : E'.length = E.length) (hf : ∀ t, t < E.length -> f t < E.length) (hg : ∀ t, t < E.length -> gs'.getD t 0 = gs.getD (f t) 0) (hE : ∀ t, t < E.length -> E'.getD t [] = E.getD (f t) []) (h : Fr S0 w0 w (.kb [] gs E :: es)) : Fr S0 w0 w (.kb [] gs' E' :: es) :=
 h.conv (fun h t ht _ => by rw [hl] at ht; rw [hg t ht, hE t ht]; exact h (f t) (hf t ht) (by simp)) (fun b ⟨t, ht, _, e⟩ => by rw [hl] at ht; exact ⟨f t, hf t ht, by simp, by rw [e, hg t ht]⟩) (fun _ => rfl)
end
section
variable {P : Program} {Q : Exit -> Act -> World -> Prop} {ds : List Deferred} {S0 : Nat -> Prop} {w0 : World} {n : Nat} {ls : List (Nat × Value)} {es : List En} {c : Code} {gs o : List Nat} {E : List (List Int)}
theorem CC (t : Nat) (ht : t < E.length) (hto : t ∉ o) (hi : ∀ a b, a < E.length -> b < E.length -> gs.getD a 0 = gs.getD b 0 -> a = b) (k : ∀ g ps tl, gs.getD t 0 = g -> aK tl -> ps.length = (E.getD t []).length -> fJ ds P n S0 w0 c Q ls (.row g 40 (rn ps tl) :: .ns ps (E.getD t []) :: .kb (t :: o) gs E :: es)) : fJ ds P n S0 w0 c Q ls (.kb o gs E :: es) := fun a w ha hw => by
 obtain ⟨ps, tl, h1, h2, h3⟩ := hw.rwoT ht hto hi;exact k _ ps tl rfl h1 h2 a w ha h3
theorem chgW {es' : List En} (h : ∀ w, Fr S0 w0 w es -> Fr S0 w0 w es') (k : fJ ds P n S0 w0 c Q ls es') : fJ ds P n S0 w0 c Q ls es := fun a w ha hw => k a w ha (h w hw)
end
def qF {α : Type} (l : List α) (k p : Nat) (d : α) : List α := (l.set p (l.getD k d)).set k (l.getD p d)
theorem n8 {α : Type} (l : List α) (k p : Nat) (d : α) : (qF l k p d).length = l.length := by simp [qF]
structure jF where
 ro : Option Addr
 rc : Nat
 no : Option Addr
 nc : Nat
 gs : List Nat
 E : List (List Int)
 nu : List Nat
 tn : Bool
 lp : P4
 ls : Int
 tk : Nat
def yy (z : jF) : List Value := [.slice z.ro z.E.length z.rc, .slice z.no z.E.length z.nc, .bool z.tn, .bool z.lp.1, .slice z.lp.2.1 z.lp.2.2.1 z.lp.2.2.2, .int .i64 (z.tk : Int)]
def lu (gs : List Nat) (n : Nat) : Prop := ∀ a b, a < n -> b < n -> gs.getD a 0 = gs.getD b 0 -> a = b
theorem wN {gs : List Nat} {n g : Nat} (hl : gs.length = n) (h : lu gs n) (hg : ∀ t, t < n -> gs.getD t 0 ≠ g) : lu (gs ++ [g]) (n + 1) := fun a b ha hb e => by
 rw [iD, iD, hl] at e;by_cases h1 : a < n <;> by_cases h2 : b < n
 . rw [if_pos h1, if_pos h2] at e; exact h a b h1 h2 e
 . rw [if_pos h1, if_neg h2, if_pos (by omega)] at e; exact absurd e (hg a h1)
 . rw [if_neg h1, if_pos (by omega), if_pos h2] at e; exact absurd e.symm (hg b h2)
 . omega
abbrev Cp (gF m : Nat) (z : jF) : List En := [.row gF 78 (yy z), .lg 22 1 z.ro z.E.length z.rc (hG m z.gs), .lg 3 1 z.no z.E.length z.nc (iL z.nu), .na z.E.length z.gs z.E, .num (av z.lp) z.ls]
def fX (gF m : Nat) (z : jF) (w : World) : Prop := (a6 w gF 78 (yy z) /\ wa 22 1 z.ro z.E.length z.rc (hG m z.gs) w /\ wa 3 1 z.no z.E.length z.nc (iL z.nu) w /\ RwF z.E.length z.gs z.E w /\ aN w (av z.lp) z.ls) /\ z.gs.length = z.E.length /\ lu z.gs z.E.length
def fU (gF : Nat) (z : jF) (g : Nat) : Prop := g = gF \/ (∃ o, z.ro = some ⟨g, o, none⟩) \/ (∃ o, z.no = some ⟨g, o, none⟩) \/ ∃ t, t < z.E.length /\ t ≠ z.E.length /\ g = z.gs.getD t 0
theorem jz {te : TypeId} {sz : Nat} {ao : Option Addr} {k cap : Nat} {cs : List Value} {w : World} (h : wa te sz ao k cap cs w) {b : Nat} (hb : ∃ o, ao = some ⟨b, o, none⟩) : ∃ tl, aK tl /\ a6 w b te (cs ++ tl) := by
 obtain ⟨o, hb⟩ := hb;obtain ⟨_, _, ⟨e, _⟩ | ⟨b', tl, e, hn, hr, _⟩⟩ := h
 . rw [hb] at e; cases e
 . rw [hb] at e; cases e; exact ⟨tl, hn, hr⟩
theorem fX.rows {gF m : Nat} {z : jF} {w : World} (h : fX gF m z w) {g : Nat} (hg : fU gF z g) : ∃ t cs, a6 w g t cs /\ aK cs /\ t ≠ 47 := by
 obtain ⟨⟨h1, h2, h3, h4, h5⟩, _⟩ := h;rcases hg with rfl | hg | hg | ⟨t, ht, hx, rfl⟩
 . exact ⟨_, _, h1, aK.slice (aK.slice (aK.bool (aK.bool (aK.slice (aK.i64 aK.nil))))), by decide⟩
 . obtain ⟨tl, hn, hr⟩ := jz h2 hg;exact ⟨_, _, hr, (ky m z.gs).append hn, by decide⟩
 . obtain ⟨tl, hn, hr⟩ := jz h3 hg;exact ⟨_, _, hr, (jB z.nu).append hn, by decide⟩
 . obtain ⟨ps, tl, hn, hr, _⟩ := h4 t ht hx;exact ⟨_, _, hr, aK.rn hn, by decide⟩
abbrev En.rY (gF m : Nat) (z : jF) : En := .fact true true (fU gF z) (fX gF m z) (fun h g hg => by obtain ⟨t, cs, hr, _⟩ := h.rows hg; exact hr.lt)
 (fun {w w' T} ⟨⟨h1, h2, h3, h4, h5⟩, h6, h7⟩ hc hT hs => by
  refine ⟨⟨hc.row h1 (hs _ (.inl rfl)), ?_, ?_, fun t ht hx => ?_, hc.num (hT rfl).bH h5⟩, h6, h7⟩
  . exact ⟨h2.1, h2.2.1, h2.2.2.imp id fun ⟨b, tl, e, hn, hr, hl⟩ => ⟨b, tl, e, hn, hc.row hr (hs _ (.inr (.inl ⟨0, e⟩))), hl⟩⟩
  . exact ⟨h3.1, h3.2.1, h3.2.2.imp id fun ⟨b, tl, e, hn, hr, hl⟩ => ⟨b, tl, e, hn, hc.row hr (hs _ (.inr (.inr (.inl ⟨0, e⟩)))), hl⟩⟩
  . obtain ⟨ps, tl, hn, hr, h1', h2'⟩ := h4 t ht hx;exact ⟨ps, tl, hn, hc.row hr (hs _ (.inr (.inr (.inr ⟨t, ht, hx, rfl⟩)))), h1', fun i a => hc.num (hT rfl).bH (h2' i a)⟩)
theorem Fr.fldO {S0 : Nat -> Prop} {w0 w : World} {es : List En} {gF m : Nat} {z : jF} (h : Fr S0 w0 w (.rY gF m z :: es)) : Fr S0 w0 w (Cp gF m z ++ es) /\ z.gs.length = z.E.length /\ lu z.gs z.E.length := by
 obtain ⟨⟨h1, h2, h3, h4, h5⟩, h6, h7⟩ := (h.m0 : fX gF m z w);have q12 : ∀ b, (∃ o, z.ro = some ⟨b, o, none⟩) -> b ≠ gF := fun b hb e => by
  obtain ⟨tl, _, hr⟩ := jz h2 hb; subst e; exact absurd rfl (hr.ne h1 (by decide))
 have q13 : ∀ b, (∃ o, z.no = some ⟨b, o, none⟩) -> b ≠ gF := fun b hb e => by
  obtain ⟨tl, _, hr⟩ := jz h3 hb; subst e; exact absurd rfl (hr.ne h1 (by decide))
 have q14 : ∀ b, (∃ t, t < z.E.length /\ t ≠ z.E.length /\ b = z.gs.getD t 0) -> b ≠ gF := fun b ⟨t, ht, hx, e'⟩ e => by
  obtain ⟨ps, tl, _, hr, _⟩ := h4 t ht hx; rw [<- e', e] at hr; exact absurd rfl (hr.ne h1 (by decide))
 have q23 : ∀ b, (∃ o, z.ro = some ⟨b, o, none⟩) -> ¬ ∃ o, z.no = some ⟨b, o, none⟩ := fun b hb hb' => by
  obtain ⟨tl, _, hr⟩ := jz h2 hb; obtain ⟨tl', _, hr'⟩ := jz h3 hb'; exact absurd rfl (hr.ne hr' (by decide))
 have q24 : ∀ b, (∃ o, z.ro = some ⟨b, o, none⟩) -> ¬ ∃ t, t < z.E.length /\ t ≠ z.E.length /\ b = z.gs.getD t 0 := fun b hb ⟨t, ht, hx, e'⟩ => by
  obtain ⟨tl, _, hr⟩ := jz h2 hb; obtain ⟨ps, tl', _, hr', _⟩ := h4 t ht hx; rw [<- e'] at hr'; exact absurd rfl (hr.ne hr' (by decide))
 have q34 : ∀ b, (∃ o, z.no = some ⟨b, o, none⟩) -> ¬ ∃ t, t < z.E.length /\ t ≠ z.E.length /\ b = z.gs.getD t 0 := fun b hb ⟨t, ht, hx, e'⟩ => by
  obtain ⟨tl, _, hr⟩ := jz h3 hb; obtain ⟨ps, tl', _, hr', _⟩ := h4 t ht hx; rw [<- e'] at hr'; exact absurd rfl (hr.ne hr' (by decide))
 refine ⟨h.uQ rfl (fun x hx => ?_) ?_, h6, h7⟩
 . simp only [Cp, List.mem_cons, List.mem_nil_iff, or_false] at hx;rcases hx with rfl | rfl | rfl | rfl | rfl
   . exact ⟨h1, fun b e => .inl e⟩
   . exact ⟨h2, fun b e => .inr (.inl e)⟩
   . exact ⟨h3, fun b e => .inr (.inr (.inl e))⟩
   . exact ⟨h4, fun b e => .inr (.inr (.inr e))⟩
   . exact ⟨h5, fun b e => e.elim⟩
 . refine .cons (fun x hx => ?_) (.cons (fun x hx => ?_) (.cons (fun x hx => ?_) (.cons (fun x hx => ?_) (.cons (fun x hx => (List.not_mem_nil hx).elim) .nil))))
   . simp only [List.mem_cons, List.mem_nil_iff, or_false] at hx;rcases hx with rfl | rfl | rfl | rfl
     . exact ⟨fun _ b hb hb' => q12 b hb' hb, fun _ b hb' hb => q12 b hb' hb⟩
     . exact ⟨fun _ b hb hb' => q13 b hb' hb, fun _ b hb' hb => q13 b hb' hb⟩
     . exact ⟨fun _ b hb hb' => q14 b hb' hb, fun _ b hb' hb => q14 b hb' hb⟩
     . exact ⟨fun _ _ _ h => h, fun q => nomatch q⟩
   . simp only [List.mem_cons, List.mem_nil_iff, or_false] at hx;rcases hx with rfl | rfl | rfl
     . exact ⟨fun _ b hb hb' => q23 b hb hb', fun _ b hb' hb => q23 b hb hb'⟩
     . exact ⟨fun _ b hb hb' => q24 b hb hb', fun _ b hb' hb => q24 b hb hb'⟩
     . exact ⟨fun _ _ _ h => h, fun q => nomatch q⟩
   . simp only [List.mem_cons, List.mem_nil_iff, or_false] at hx;rcases hx with rfl | rfl
     . exact ⟨fun _ b hb hb' => q34 b hb hb', fun _ b hb' hb => q34 b hb hb'⟩
     . exact ⟨fun _ _ _ h => h, fun q => nomatch q⟩
   . simp only [List.mem_cons, List.mem_nil_iff, or_false] at hx;rcases hx with rfl;exact ⟨fun _ _ _ h => h, fun q => nomatch q⟩
def cO (k c : Nat) (xs : List Int) : List (List Int) := (List.range k).map (rowOf xs c)
theorem eA (k c : Nat) (xs : List Int) : (cO k c xs).length = k := by simp [cO]
theorem uw (k c : Nat) (xs : List Int) : cO (k + 1) c xs = cO k c xs ++ [rowOf xs c k] := by simp [cO, List.range_succ]
theorem factI {l N : Nat} {P : Program} {n : Nat} {S0 : Nat -> Prop} {w0 : World} {c : Code} {Q : Exit -> Act -> World -> Prop} {ls : List (Nat × Value)} {es : List En} {A : Prop} (hA : ∀ w, Fr S0 w0 w es -> A) (k : A -> CI l N P n S0 w0 c Q ls es) : CI l N P n S0 w0 c Q ls es := fun a w ha hw => k (hA w hw) a w ha hw
structure OfX where
 k : Nat
 ro : Option Addr
 rc : Nat
 no : Option Addr
 nc : Nat
 gs : List Nat
structure OfI (k : Nat) (x : OfX) : Prop where
 hk : x.k = k
 hl : x.gs.length = k
 hi : lu x.gs k
theorem Bg (r c nm L cap : Nat) (ao : Option Addr) (xs : List Int) (w : World) (hr : r <= 64) (hc : c <= 64) (hA : bc w L ao xs) (hL : L <= 17592186044415) (hs : xs.length = r * c) (hnm : xs.length = nm) (hb : ∀ x ∈ xs, aa x.natAbs <= 17592186044415) :
 Calls Tryz.prog 37 #[.agg #[.int .i64 (r : Int), .int .i64 (c : Int), .slice ao nm cap]] w fun e w' => ∃ q : Nat × jF, e = .returned (.pointer (some ⟨q.1, 0, none⟩)) /\ Nw w w' [.rY q.1 c q.2] /\ q.2.E = cO r c xs /\ q.2.ls = 1 /\ q.2.tn = false /\ q.2.tk = 0 /\ q.2.nu.length = r := by
 have cL := fun w' (h : bc w' L ao xs) => yz r c nm ao cap xs w' hr hc (fun hl => by
  obtain ⟨b, o, e, hlt, hc⟩ := h hl;exact ⟨b, o, e, hlt, fun i hi => by obtain ⟨p, h0, h1, hn⟩ := hc i hi; exact ⟨p, h0, h1, hn.mono hL⟩⟩) hs hnm
 have HC := H5 cL;have HS := H5 (And.intro hs (And.intro hnm hb));clear cL hs hnm hb;refine Bh (S0 := fun _ => False) Tryz.func37 ((Fr.nil _ w).l hA (by simp)) ?_;refine ak ?_;refine aW fun g1 => ?_;refine az ?_;refine rW [] ?_;refine cN (fun w' H => iA 1 w' (by omega) (by omega)) fun p6 => ?_;refine dW ?_;refine aW fun g8 => ?_;refine aW fun g3 => ?_;refine sG ?_;refine eW ?_;refine ak ?_;refine dW ?_;refine cG (α := (Nat × Nat) × List P4 × List Value) (mk := fun q => .func (.func 89) #[] #[.pointer (some ⟨q.1.1, 0, none⟩)]) (ens := fun q => [.row q.1.1 24 [.int .i64 (r : Int), .int .i64 (c : Int), .slice (some ⟨q.1.2, 0, none⟩) nm nm], .row q.1.2 40 (rn q.2.1 q.2.2), .ns q.2.1 xs, .pr (aK q.2.2)]) (fun w' H => HC.out w' (H.all (.ls L ao xs) (by simp))) fun q => ?_;refine fg ?_;refine u5 (A := aK q.2.2) (by simp) fun hq => ?_;refine BM (te := 22) (sz := 1) ?_;refine BM (te := 3) (sz := 1) ?_;refine rws0W ?_;refine zI (X := OfX) (gb := q.1.1) (b := q.1.2) (r := r) (c := c) (m := nm) (ps := q.2.1) (tl := q.2.2) (xs := xs) OfI
  (fun x => [.row g8 78 [.slice x.ro x.k x.rc, .slice x.no x.k x.nc, .bool false, .bool p6.1, .slice p6.2.1 p6.2.2.1 p6.2.2.2, .int .i64 0], .lg 22 1 x.ro x.k x.rc (hG c x.gs), .lg 3 1 x.no x.k x.nc (iL (List.range x.k)), .na x.k x.gs (cO x.k c xs), .row g3 74 [.pointer (some ⟨g8, 0, none⟩)], .own w.heap.size (av p6) 1])
  (fun D x => [.row g8 78 [.slice x.ro x.k x.rc, .slice x.no x.k x.nc, .bool false, .bool p6.1, .slice p6.2.1 p6.2.2.1 p6.2.2.2, .int .i64 0], .lg 22 1 x.ro x.k x.rc (hG c x.gs), .lg 3 1 x.no x.k x.nc (iL (List.range x.k)), .na x.k x.gs (cO x.k c xs), .row g3 74 [.pointer (some ⟨g8, 0, none⟩)], .own w.heap.size (av p6) 1, .Br w.heap.size D])
  ⟨0, none, 0, none, 0, []⟩ (fun k g => [(4, .int .i64 (k : Int)), (5, .slice (some ⟨g, 0, none⟩) c c), (3, .pointer (some ⟨g3, 0, none⟩))]) hr hc HS.out.1 HS.out.2.1 HS.out.2.2 hq ⟨rfl, rfl, fun a b ha => absurd ha (Nat.not_lt_zero _)⟩ (fun l k g W => ?_) (fun l k x g qs tk S' W hx hk htk => ?_) (fun D x hx => ?_)
  (fun x => .cons .row .row (.cons .lg (.lg (ky _ _)) (.cons .lg (.lg (jB _)) (.cons .na .na (.cons .row .row (.cons .own (.no rfl) .nil))))))
 . refine goI ?_;refine rI [] ?_;refine dW ?_;refine eW ?_;refine goI ?_;refine rI [] ?_;refine dW ?_;refine eW ?_;refine goI ?_;exact asgE
 . obtain ⟨k0, ro, rc, no, nc, gs⟩ := x;obtain ⟨hk0, hgl, hgi⟩ := hx;obtain rfl : k0 = k := hk0
   replace hgl : gs.length = k0 := hgl
   replace hgi : lu gs k0 := hgi
   have hk64 : k0 <= 64 := by omega
   have HG := H5 (And.intro hgl hgi);clear hgl hgi;refine goI ?_;refine factI (A := ∀ t, t < k0 -> gs.getD t 0 ≠ g) (fun w' h => by
    have h2 : Fr S' W w' (.row g 40 (rn qs tk) :: .ns qs (rowOf xs c k0) :: .na k0 gs (cO k0 c xs) :: []) := h.pick (by repeat (first | exact Pk.n | refine Pk.c (by repeat (first | exact Rm.z | apply Rm.s)) ?_));have h3 := (h2.yE (x' := k0 + 1) (by rw [eA]; exact HG.out.1) (by rw [eA]; exact Nat.le_refl _) (by rw [eA]; omega) htk).2;rw [eA] at h3; exact h3) fun hne => ?_
   have HN := H5 hne;clear hne;refine rI [[3]] ?_;(iterate 6 refine dH ?_);refine bW (m := 1) fun g19 => ?_;refine BW (k := k0) (cap := rc) (g := g19) (c := 1) (ao := ro) (cs := hG c gs) (v := .slice (some ⟨g, 0, none⟩) c c) Tryz.underlying76 Cw rfl (tR (.slice none 0 0) rfl (fun n h => nomatch h)) (by omega) (by omega) rfl ⟨ky c gs, by decide⟩ (by simp) fun u => ?_;refine dH ?_;refine dH ?_;refine sW ?_;refine eW ?_;refine goI ?_;refine rI [[5]] ?_;(iterate 6 refine dH ?_);refine bW (m := 1) fun g29 => ?_;refine BW (k := k0) (cap := nc) (g := g29) (c := 1) (ao := no) (cs := iL (List.range k0)) (v := .int .i64 (k0 : Int)) Tryz.underlying64 yg rfl (tR (.int .i64 0) rfl (fun n h => nomatch h)) (by omega) (by omega) rfl ⟨jB _, by decide⟩ (by simp) fun v => ?_;refine dH ?_;refine dH ?_;refine sW ?_;refine eW ?_;refine goI ?_;exact rdE (⟨k0 + 1, u.1, u.2, v.1, v.2, gs ++ [g]⟩ : OfX) ⟨rfl, by show (gs ++ [g]).length = _; rw [List.length_append, HG.out.1]; rfl, wN HG.out.1 HG.out.2 HN.out⟩ (he := by
    intro w' h;rw [Av, vI, show List.range k0 ++ [k0] = List.range (k0 + 1) from List.range_succ.symm] at h;have h2 := h.pick (es' := .row g 40 (rn qs tk) :: .ns qs (rowOf xs c k0) :: .na k0 gs (cO k0 c xs) :: [.row g8 78 [.slice u.1 (k0 + 1) u.2, .slice v.1 (k0 + 1) v.2, .bool false, .bool p6.1, .slice p6.2.1 p6.2.2.1 p6.2.2.2, .int .i64 0], .lg 22 1 u.1 (k0 + 1) u.2 (hG c (gs ++ [g])), .lg 3 1 v.1 (k0 + 1) v.2 (iL (List.range (k0 + 1))), .row g3 74 [.pointer (some ⟨g8, 0, none⟩)], .own w.heap.size (av p6) 1]) (by repeat (first | exact Pk.n | refine Pk.c (by repeat (first | exact Rm.z | apply Rm.s)) ?_));have h3 := (h2.yE (x' := k0 + 1) (by rw [eA]; exact HG.out.1) (by rw [eA]; exact Nat.le_refl _) (by rw [eA]; omega) htk).1;rw [<- uw] at h3;exact h3.pick (by repeat (first | exact Pk.n | refine Pk.c (by repeat (first | exact Rm.z | apply Rm.s)) ?_)))
 obtain ⟨k0, ro, rc, no, nc, gs⟩ := x;obtain ⟨hk0, hgl, hgi⟩ := hx;obtain rfl : k0 = r := hk0;have HG : Hid (gs.length = k0 /\ lu gs k0) := H5 ⟨hgl, hgi⟩;clear hgl hgi;refine ak ?_;refine dW ?_;refine az ?_;refine BB (D := D) (es' := [.row g8 78 [.slice ro k0 rc, .slice no k0 nc, .bool false, .bool p6.1, .slice p6.2.1 p6.2.2.1 p6.2.2.2, .int .i64 0], .lg 22 1 ro k0 rc (hG c gs), .lg 3 1 no k0 nc (iL (List.range k0)), .na k0 gs (cO k0 c xs), .own w.heap.size (av p6) 1]) (fun w' H => ?_) (.cons .row .row (.cons .lg (.lg (ky _ _)) (.cons .lg (.lg (jB _)) (.cons .na .na (.cons .own (.no rfl) .nil))))) (by simp);have hE : (cO k0 c xs).length = k0 := eA ..;have hF : fX g8 c ⟨ro, rc, no, nc, gs, cO k0 c xs, List.range k0, false, p6, 1, 0⟩ w' := by
  refine ⟨⟨?_, ?_, ?_, ?_, ae.num H.m4⟩, HG.out.1.trans hE.symm, by show lu gs (cO k0 c xs).length; rw [hE]; exact HG.out.2⟩
  . show a6 w' g8 _ [.slice ro (cO k0 c xs).length rc, .slice no (cO k0 c xs).length nc, _, _, _, _];rw [hE]; exact H.m0
  . show wa _ 1 ro (cO k0 c xs).length rc (hG c gs) w';rw [hE]; exact H.m1
  . show wa _ 1 no (cO k0 c xs).length nc (iL (List.range k0)) w';rw [hE]; exact H.m2
  . show RwF (cO k0 c xs).length gs _ w';rw [hE]; exact H.m3
 have hS : ∀ b, fU g8 ⟨ro, rc, no, nc, gs, cO k0 c xs, List.range k0, false, p6, 1, 0⟩ b -> w.heap.size <= b := by
  rintro b (e | e | e | ⟨t, ht, _, e⟩)
  . exact (H.own _ (List.mem_cons_self ..) rfl b e).elim (fun h => h.elim) id
  . exact (H.own _ (List.mem_cons_of_mem _ (List.mem_cons_self ..)) rfl b e).elim (fun h => h.elim) id
  . exact (H.own _ (List.mem_cons_of_mem _ (List.mem_cons_of_mem _ (List.mem_cons_self ..))) rfl b e).elim (fun h => h.elim) id
  . exact (H.own _ (List.mem_cons_of_mem _ (List.mem_cons_of_mem _ (List.mem_cons_of_mem _ (List.mem_cons_self ..)))) rfl b ⟨t, ht, by rw [show t = t from rfl]; have := hE; have h : t < (cO k0 c xs).length := ht; omega, e⟩).elim (fun h => h.elim) id
 exact ⟨_, cH, (g8, ⟨ro, rc, no, nc, gs, cO k0 c xs, List.range k0, false, p6, 1, 0⟩), rfl, ⟨H.below, fun e he => by rcases List.mem_singleton.1 he with rfl; exact ⟨hF, hS⟩, List.pairwise_singleton ..⟩, rfl, rfl, rfl, rfl, by simp⟩
section
variable {ops : Array Oper} {Q : Exit -> Act -> World -> Prop} {ds : List Deferred} {S0 : Nat -> Prop} {w0 : World} {E0 : List En} {n j s : Nat} {l : List Nat} {G E : List En} {ls : List (Nat × Value)} {ty : TypeId} {pos : String} {af : Array Edge}
theorem slL {sx sl : Operand} (a : Option Addr) (len cap x : Nat) (v : Value) (hx : x <= len) (hv : sliced a x len cap 1 = v) (k : dZ ds ⟨Tryz.prog, ops, Q, S0, w0, E0, []⟩ n l G E ((s, v) :: ls))
 (ho : ops[j]? = some ⟨some s, .slice 76 sx (some sl) none none, ty, pos, af, none⟩ := by rfl) (hk : (bY (.slice 76 sx (some sl) none none) && et ls (.slice 76 sx (some sl) none none) && Nat.blt s n) = true := by kernel_rfl)
 (h1 : dJ ls sx = .slice a len cap := by (simp only [cJ, Nat.reduceEqDiff, ↓reduceIte]) <;> rfl) (h2 : dJ ls sl = .int .i64 (x : Int) := by (simp only [cJ, Nat.reduceEqDiff, ↓reduceIte]) <;> rfl) : dZ ds ⟨Tryz.prog, ops, Q, S0, w0, E0, []⟩ n (j :: l) G E ls := by
 refine dW k ho hk fun w _ => ?_;subst hv;have e := run_slice_l (P := Tryz.prog) w 76 a len cap Tryz.underlying76 .i64 (x : Int) (by omega) (by omega);have e2 := run_sliceAt_slice (P := Tryz.prog) w 76 (.slice a len cap) (some (.int .i64 (x : Int))) none none Tryz.underlying76;have e3 : (sizeOf (Tryz.prog.elem 76)).run Tryz.prog w = .ok 1 w := by go_simp <;> rfl
 rw [e3] at e;simp only [Int.toNat_natCast, Result.andThen] at e;simp [execOp, h1, h2, e2, e, Result.andThen]
end
theorem lT {α : Type} {l : List α} {i t : Nat} {x d : α} (hi : i < l.length) : (l.set i x).getD t d = if t = i then x else l.getD t d := by
 by_cases h : t = i
 . subst h; simp [hi]
 . rw [if_neg h]; simp [List.getElem?_set_ne (fun e => h e.symm)]
theorem l5 {α : Type} {l : List α} {k p t : Nat} {d : α} (hk : k < l.length) (hp : p < l.length) : (qF l k p d).getD t d = l.getD (jW k p t) d := by
 unfold qF jW;rw [lT (by simpa using hk), lT hp];by_cases h1 : t = k
 . rw [if_pos h1, if_pos h1]
 . rw [if_neg h1, if_neg h1];by_cases h2 : t = p
   . rw [if_pos h2, if_pos h2]
   . rw [if_neg h2, if_neg h2]
theorem vc {α β : Type} (f : α -> β) {l : List α} {k p : Nat} {d : α} (hk : k < l.length) (hp : p < l.length) (tl : List β) : (((l.map f ++ tl).set p (f (l.getD k d))).set k (f (l.getD p d))) = (qF l k p d).map f ++ tl := by
 rw [List.set_append_left _ _ (by simpa using hp), List.set_append_left _ _ (by simpa using hk)];congr 1;unfold qF;rw [List.map_set, List.map_set]
theorem nC {α : Type} {l : List α} {t : Nat} {d : α} (h : t < l.length) : l.set t (l.getD t d) = l := by
 rw [show l.getD t d = l[t] by simp [h]]; exact List.set_getElem_self h
def gN (E : List (List Int)) (i j : Nat) : Int := gi (E.getD i []) j
structure pA (n m mw : Nat) (A : Mx) (c k : Nat) (nu cs : Nat -> Nat) (z : jF) : Prop where
 El : z.E.length = n
 rl : ∀ t < n, (z.E.getD t []).length = m
 nl : z.nu.length = n
 tk : z.tk = k
 br : jh n m A c k nu cs (gN z.E) z.ls
 Ab : ∀ i j, (A i j).natAbs <= W ^ mw
 eb : ∀ t < n, ∀ j, aa (gN z.E t j).natAbs <= 64 * (mw + 1)
 lb : aa z.ls.natAbs <= 64 * (mw + 1)
def yJ (n m mw : Nat) (A : Mx) (c k : Nat) (nu cs : Nat -> Nat) (z : jF) (b : Bool) (z' : jF) : Prop :=
 (b = false /\ z' = z /\ pA n m mw A (c + 1) k nu cs z' /\ ∀ i, k <= i -> i < n -> gN z.E i c = 0) \/
 (b = true /\ k < n /\ ∃ nu', pA n m mw A (c + 1) (k + 1) nu' (mP cs k c) z' /\ ((z'.tn = z.tn /\ nu' = nu) \/ (z'.tn = !z.tn /\ ∃ p, k < p /\ p < n /\ nu' = fun i => nu (jW k p i))))
theorem pA.skip {n m mw c k : Nat} {A : Mx} {nu cs : Nat -> Nat} {z : jF} (h : pA n m mw A c k nu cs z) (hc : c < m) (h0 : ∀ i, k <= i -> i < n -> gN z.E i c = 0) : pA n m mw A (c + 1) k nu cs z :=
 ⟨h.El, h.rl, h.nl, h.tk, h.br.skip hc h0, h.Ab, h.eb, h.lb⟩
theorem Fr.fldS {gF m : Nat} {z : jF} {w : World} (h : fX gF m z w) : Fr (fU gF z) w w [.rY gF m z] :=
 ⟨aO.refl _ _, fun e he => by rcases List.mem_singleton.1 he with rfl; exact h, List.pairwise_singleton .., fun e he _ b hb => by rcases List.mem_singleton.1 he with rfl; exact .inl hb⟩
theorem zs0 {x : Int} (h : x = 0) : aP x = 0 := by subst h; rfl
theorem zs1 {x : Int} (h : x ≠ 0) : ¬ aP x = 0 := fun e => h (by unfold aP at e; (repeat' split at e) <;> omega)
theorem AI (gF m c k mw : Nat) (z : jF) (A : Mx) (nu cs : Nat -> Nat) (w : World) (hc : c < m) (hI : pA 0 m mw A c k nu cs z) (h : fX gF m z w) :
 Calls Tryz.prog 38 #[.pointer (some ⟨gF, 0, none⟩), .int .i64 (c : Int)] w fun e w' => ∃ (b : Bool) (z' : jF), e = .returned (.bool b) /\ aO (fU gF z) w w' /\ fX gF m z' w' /\ (∀ g, fU gF z' g -> fU gF z g \/ w.heap.size <= g) /\ yJ 0 m mw A c k nu cs z b z' := by
 have HR : Hid (yJ 0 m mw A c k nu cs z false z) := H5 (.inl ⟨rfl, rfl, hI.skip hc fun i _ h => absurd h (Nat.not_lt_zero _), fun i _ h => absurd h (Nat.not_lt_zero _)⟩);have hk : k = 0 := by have := hI.br.kn; omega
 have El := hI.El;have tk := hI.tk;have HF := H5 h;obtain ⟨ro, rc, no, nc, gs, E, nul, tn, lp, ls, tk'⟩ := z
 replace El : E.length = 0 := El
 replace tk : tk' = k := tk
 subst hk tk;have hcl : ∀ i v, (yy ⟨ro, rc, no, nc, gs, E, nul, tn, lp, ls, 0⟩)[i]? = some v -> w.cell? ⟨gF, i, none⟩ = some v := fun i v hv => by rw [h.1.1.cell]; exact hv
 have c0 : w.cell? ⟨gF, 0, none⟩ = some (.slice ro 0 rc) := hcl 0 _ (by show some (Value.slice ro E.length rc) = _; rw [El]);have c5 : w.cell? ⟨gF, 5, none⟩ = some (.int .i64 0) := hcl 5 _ rfl;clear hI h hcl;have HA : Fr (fun _ => False) w w [.cell ⟨gF, 0, none⟩ (.slice ro 0 rc), .cell ⟨gF, 5, none⟩ (.int .i64 0)] := Fr.cl (Fr.cl (Fr.nil _ w) c5 (by simp [En.wr])) c0 (by simp [En.wr]);have fin : ∀ w', Below w.heap.size w w' -> ∃ (z' : jF), aO (fU gF ⟨ro, rc, no, nc, gs, E, nul, tn, lp, ls, 0⟩) w w' /\ fX gF m z' w' /\ (∀ g, fU gF z' g -> fU gF ⟨ro, rc, no, nc, gs, E, nul, tn, lp, ls, 0⟩ g \/ w.heap.size <= g) /\ yJ 0 m mw A c 0 nu cs ⟨ro, rc, no, nc, gs, E, nul, tn, lp, ls, 0⟩ false z' := fun w' hb =>
  ⟨_, aO.bF hb, En.gd (e := .rY gF m ⟨ro, rc, no, nc, gs, E, nul, tn, lp, ls, 0⟩) HF.out (aO.bF (S := fun _ => False) hb) (fun _ => Wl.none _) (fun _ _ h => h), fun g h => .inl h, HR.out⟩
 have HN := H5 fin;clear fin c0 c5;refine bJ (S0 := fun _ => False) Tryz.func38 HA ?_;clear HA;refine ak ?_;refine az ?_;refine rW [] ?_;refine aI ?_;refine dW ?_;refine az ?_;refine c9 ?_;refine az ?_;refine di (X := Unit) (fun _ => True) (fun _ => 0) (fun _ => [(6, .int .i64 0), (5, .int .i64 0), (1, .int .i64 (c : Int)), (0, .pointer (some ⟨gF, 0, none⟩)), (4, .bool false)]) (fun _ => [.cell ⟨gF, 0, none⟩ (.slice ro 0 rc), .cell ⟨gF, 5, none⟩ (.int .i64 0)]) () trivial fun _ _ => ?_;refine ak ?_;refine aI ?_;refine aI ?_;refine dB false ?_;refine dW ?_;refine Be ?_;refine Be ?_;refine uC ?_;refine uG ?_;refine az ?_;refine gM ?_;refine ak ?_;refine aI ?_;refine aI ?_;refine dB true ?_;refine eW ?_;refine kR ?_;refine mR ?_;refine ak ?_;refine az ?_;refine cd fun w' H => ?_;obtain ⟨z', h1, h2, h3, h4⟩ := HN.out w' H.below;exact ⟨_, cH, false, z', rfl, h1, h2, h3, h4⟩
end Go.Proofs.YtbgecfleamckcaaGreat
