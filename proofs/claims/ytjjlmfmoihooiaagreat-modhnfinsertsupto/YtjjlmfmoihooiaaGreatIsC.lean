/- Part 3 of 9 of the proof that the law ModhnfInserts returns true for every input of bulk at most 1048576 and leaves its arguments as they were: here the contracts of the functions that it calls, and plain lemmas. -/
import Derived.RangeFuncNested
import Derived.RangeFuncBound
import Derived.RangeFuncCalls
import Derived.RangeFuncLeaves
import Derived.Shelf.Abstract
import Derived.Shelf.RegionOpen
import Derived.WalkKit
import Derived.OwnWalkIn
import Derived.TacticsInMore
import Derived.LoopNIn
import Derived.LoopIn
import Derived.Maps.AppendAt
import Derived.Deep.AppendSrc
import Derived.Deep.Upon
import Derived.Test.YtjjlmfmoihooiaaGreatIsB
set_option linter.all false
set_option maxRecDepth 100000
set_option maxHeartbeats 4000000
namespace Go.Proofs.YtjjlmfmoihooiaaGreat
open Go.RowKit
theorem iJ {fn : Func} {p q : Tmp} (h : fn.results = #[.cell p 24, .tmp q]) (tmps : Array Value) (w : World) (g : Nat) (a b c : Value) (hp : tmps.getD p undef = .pointer (some ⟨g, 0, none⟩)) (hr : aa w g 24 [a, b, c]) :
 (results fn tmps).run Tryz.prog w = .ok (.tuple #[.agg #[a, b, c], tmps.getD q undef]) w := by
 have hp' : tmps[p]?.getD undef = .pointer (some ⟨g, 0, none⟩) := by simpa using hp
 simp [results, h, hp', asAddr, run_loadVar_row w g 24 24 #[a, b, c] (0, 0) _ hr Tryz.underlying24 rfl (by kernel_rfl)]
theorem aa.yS {w : World} {b : Nat} {t : TypeId} {x y z : Value} (h : aa w b t [x, y, z]) (u v s : Value) : aa (((w.setCell ⟨b, 0, none⟩ u).setCell ⟨b, 1, none⟩ v).setCell ⟨b, 2, none⟩ s) b t [u, v, s] := by
 have := ((h.set 0 u).set 1 v).set 2 s;exact this
theorem aI.dJ (a b : Int) (ao : Option Addr) (l k : Nat) : aI [.int .i64 a, .int .i64 b, .slice ao l k] := aI.i64 (aI.i64 (aI.slice aI.nil))
theorem aK.pP {w : World} {b : Nat} {xs : List Int} (h : aK w b xs) {g : Nat} {x y : Int} {ao : Option Addr} {l k : Nat} (hr : aa w g 24 [.int .i64 x, .int .i64 y, .slice ao l k]) (u v : Int) (ao' : Option Addr) (l' k' : Nat) : aK (((w.setCell ⟨g, 0, none⟩ (.int .i64 u)).setCell ⟨g, 1, none⟩ (.int .i64 v)).setCell ⟨g, 2, none⟩ (.slice ao' l' k')) b xs := by
 have h1 := h.jR hr (by decide) (aI.dJ x y ao l k) 0 (.int .i64 u);have r1 : aa _ g 24 [.int .i64 u, .int .i64 y, .slice ao l k] := hr.set 0 (.int .i64 u);have h2 := h1.jR r1 (by decide) (aI.dJ u y ao l k) 1 (.int .i64 v);have r2 : aa _ g 24 [.int .i64 u, .int .i64 v, .slice ao l k] := r1.set 1 (.int .i64 v);exact h2.jR r2 (by decide) (aI.dJ u v ao l k) 2 (.slice ao' l' k')
theorem xo (r c : Int) (ao : Option Addr) (len cap : Nat) (xs : List Int) (w : World) (hr : -9223372036854775808 <= r /\ r <= 9223372036854775807) (hc : -9223372036854775808 <= c /\ c <= 9223372036854775807) (h : aL w 17592186044415 ao xs) (hl : len = xs.length) (hs : aR r c len = true) (hlen : xs.length <= 8796093022208) :
 Calls Tryz.prog 88 #[.agg #[.int .i64 r, .int .i64 c, .slice ao len cap]] w fun e w' => (∃ b, e = .returned (.tuple #[.agg #[.int .i64 r, .int .i64 c, .slice (some ⟨b, 0, none⟩) xs.length xs.length], .int .i64 0]) /\ w.heap.size <= b /\ aK w' b xs) /\ Below w.heap.size w w' := by
 subst hl;have HL := hi_ h; clear h;have HS := hi_ (dC hs); clear hs;go_enter Tryz.func88, Tryz.ntmps88;go_wp2_with fail
 obtain ⟨r1, r2, hb⟩ := fe w #[.int .i64 r, .int .i64 c, .slice ao xs.length cap] #[.int .i64 0, .int .i64 0, .slice none 0 0] 24 24;generalize (w.alloc (.cells #[.int .i64 r, .int .i64 c, .slice ao xs.length cap] 24)).alloc (.cells #[.int .i64 0, .int .i64 0, .slice none 0 0] 24) = w2 at *;refine (cJ r c ao xs.length cap _ hr hc).mono ?_;rintro e w3 ⟨rfl, hb3⟩;rw [HS.out];have R1 := r1.below hb3 r1.lt;have R2 := hi_ (r2.below hb3 r2.lt);have L3 := hi_ ((HL.out.below hb).below hb3);have B3 := hi_ (hb.trans (hb3.mono hb.size));have hs2 : w.heap.size + 1 < w3.heap.size := R2.out.lt;have e0 : w3.cell? ⟨w.heap.size, 0, none⟩ = some (.int .i64 r) := R1.cell 0;have e1 : w3.cell? ⟨w.heap.size, 1, none⟩ = some (.int .i64 c) := R1.cell 1;have e2 : w3.cell? ⟨w.heap.size, 2, none⟩ = some (.slice ao xs.length cap) := R1.cell 2;have hne : ¬ w.heap.size + 1 = w.heap.size := by omega
 have hlt : w.heap.size < w3.heap.size := by omega
 clear r1 r2 hb hb3 R1;go_wp2
 go_region_held3 (fun w' => w'.cell? ⟨w.heap.size, 0, none⟩ = some (.int .i64 r) /\ w'.cell? ⟨w.heap.size, 1, none⟩ = some (.int .i64 c) /\ w'.cell? ⟨w.heap.size, 2, none⟩ = some (.slice ao xs.length cap))
  (first
   | exact ⟨e0, e1, e2⟩
   | exact ⟨k0, k1, k2⟩
   | exact ⟨m0, m1, m2⟩)
  (first
   | (go_at_call 67; (refine (ji ao cap xs _ (aL.below (w := w3) L3.out (Below.refl _ _).drew) hlen).mono ?_); rintro e w4 ⟨⟨b, rfl, hbl, hRb⟩, hb4⟩; have k0 := (hb4.cell (p := ⟨w.heap.size, 0, none⟩) hlt).trans e0; have k1 := (hb4.cell (p := ⟨w.heap.size, 1, none⟩) hlt).trans e1; have k2 := (hb4.cell (p := ⟨w.heap.size, 2, none⟩) hlt).trans e2; have hR4 := aa.below (w := w3.drew) R2.out hb4 R2.out.lt; have z0 := hR4.cell 0; have z1 := hR4.cell 1; have z2 := hR4.cell 2; have y0 := hR4.free 0; have y1 := hR4.free 1; have y2 := hR4.free 2; have m0 := ((World.cell?_setCell_far _ ⟨w.heap.size + 1, 2, none⟩ ⟨w.heap.size, 0, none⟩ (.slice (some ⟨b, 0, none⟩) xs.length xs.length) hne).trans ((World.cell?_setCell_far _ ⟨w.heap.size + 1, 1, none⟩ ⟨w.heap.size, 0, none⟩ (.int .i64 c) hne).trans ((World.cell?_setCell_far w4 ⟨w.heap.size + 1, 0, none⟩ ⟨w.heap.size, 0, none⟩ (.int .i64 r) hne).trans k0))); have m1 := ((World.cell?_setCell_far _ ⟨w.heap.size + 1, 2, none⟩ ⟨w.heap.size, 1, none⟩ (.slice (some ⟨b, 0, none⟩) xs.length xs.length) hne).trans ((World.cell?_setCell_far _ ⟨w.heap.size + 1, 1, none⟩ ⟨w.heap.size, 1, none⟩ (.int .i64 c) hne).trans ((World.cell?_setCell_far w4 ⟨w.heap.size + 1, 0, none⟩ ⟨w.heap.size, 1, none⟩ (.int .i64 r) hne).trans k1))); have m2 := ((World.cell?_setCell_far _ ⟨w.heap.size + 1, 2, none⟩ ⟨w.heap.size, 2, none⟩ (.slice (some ⟨b, 0, none⟩) xs.length xs.length) hne).trans ((World.cell?_setCell_far _ ⟨w.heap.size + 1, 1, none⟩ ⟨w.heap.size, 2, none⟩ (.int .i64 c) hne).trans ((World.cell?_setCell_far w4 ⟨w.heap.size + 1, 0, none⟩ ⟨w.heap.size, 2, none⟩ (.int .i64 r) hne).trans k2)))))
 go_wp2;have hs4 := hb4.size;have hbl : w3.heap.size <= b := hbl;have hbw : Below w.heap.size w w4 := B3.out.drew.trans (hb4.mono B3.out.size);refine bodyPost_ret (iJ (p := 2) (q := 3) (by kernel_rfl) _ _ (w.heap.size + 1) _ _ _ rfl (hR4.yS (.int .i64 r) (.int .i64 c) (.slice (some ⟨b, 0, none⟩) xs.length xs.length))) rfl ?_;exact ⟨⟨b, rfl, by omega, hRb.pP hR4 r c _ _ _⟩, ((hbw.setCell (p := ⟨w.heap.size + 1, 0, none⟩) (Nat.le_succ _) _).setCell (p := ⟨w.heap.size + 1, 1, none⟩) (Nat.le_succ _) _).setCell (p := ⟨w.heap.size + 1, 2, none⟩) (Nat.le_succ _) _⟩
theorem qK (r c : Int) (ao : Option Addr) (len cap : Nat) (xs : List Int) (w : World) (hr : -9223372036854775808 <= r /\ r <= 9223372036854775807) (hc : -9223372036854775808 <= c /\ c <= 9223372036854775807) (h : aL w 17592186044415 ao xs) (hl : len = xs.length) (hs : aR r c len = true) (hlen : xs.length <= 8796093022208) :
 Calls Tryz.prog 63 #[.agg #[.int .i64 r, .int .i64 c, .slice ao len cap]] w fun e w' => (∃ g b, e = .returned (.func (.func 89) #[] #[.pointer (some ⟨g, 0, none⟩)]) /\ w.heap.size <= g /\ w.heap.size <= b /\ aa w' g 24 [.int .i64 r, .int .i64 c, .slice (some ⟨b, 0, none⟩) xs.length xs.length] /\ aK w' b xs) /\ Below w.heap.size w w' := by
 subst hl;have HL := hi_ h; clear h;have hb0 : Below w.heap.size w (w.alloc (.cells #[.int .i64 r, .int .i64 c, .slice ao xs.length cap] 24)) := (Below.refl _ _).alloc (Nat.le_refl _) _;have HB0 := hi_ hb0; clear hb0;go_enter Tryz.func63, Tryz.ntmps63;go_wp2_with fail
 generalize w.alloc (.cells #[.int .i64 r, .int .i64 c, .slice ao xs.length cap] 24) = w1 at *;refine (xo r c ao xs.length cap xs _ hr hc (HL.out.below HB0.out) rfl hs hlen).mono ?_;rintro e w2 ⟨⟨b, rfl, hb, hR⟩, hb2⟩;have hbw : Below w.heap.size w w2 := HB0.out.trans (hb2.mono HB0.out.size);have hs1 := HB0.out.size;have HBW := hi_ hbw; clear hbw;have HR := hi_ hR; clear hR;have hs2 := hb2.size;clear hb2;go_wp2;go_ret;have hb3 : Below w2.heap.size w2 (w2.alloc (.cells #[.int .i64 r, .int .i64 c, .slice (some ⟨b, 0, none⟩) xs.length xs.length] 24)) := (Below.refl _ _).alloc (Nat.le_refl _) _;have hr3 := aa.new w2 #[.int .i64 r, .int .i64 c, .slice (some ⟨b, 0, none⟩) xs.length xs.length] 24;have hsz := HBW.out.size;exact ⟨⟨w2.heap.size, b, rfl, by omega, by omega, hr3, HR.out.below hb3⟩, HBW.out.trans (hb3.mono (by omega))⟩
structure dL (B : Nat) (S : Nat -> Prop) (w w' : World) : Prop where
 os : w'.os = w.os
 tape : w'.tape = w.tape
 output : w'.output = w.output
 size : w.heap.size <= w'.heap.size
 block : ∀ k, k < B -> ¬ S k -> w'.heap[k]? = w.heap[k]?
theorem dL.trans {B : Nat} {S : Nat -> Prop} {a b c : World} (h : dL B S a b) (k : dL B S b c) : dL B S a c :=
 ⟨k.os.trans h.os, k.tape.trans h.tape, k.output.trans h.output, Nat.le_trans h.size k.size, fun i hi hs => (k.block i hi hs).trans (h.block i hi hs)⟩
theorem dL.putObj {B : Nat} {S : Nat -> Prop} (w : World) {l : Nat} (o : Obj) (hl : B <= l) : dL B S w (w.putObj l o) :=
 ⟨rfl, rfl, rfl, by simp, fun k hk _ => World.putObj_heap_other (by omega)⟩
theorem dL.aU {B : Nat} {S : Nat -> Prop} {w w' : World} (h : Below B w w') : dL B S w w' := ⟨h.os, h.tape, h.output, h.size, fun k hk _ => h.block k hk⟩
def qy {α : Type} (B : Nat) (S : Nat -> Prop) (I : List α -> World -> Prop) (xs : List α) (W : World) : Exit -> Act -> World -> Prop
 | .normal, _, W' => KeepsOthers W W' /\ dL B S W W' /\ I xs W'
 | _, _, _ => False
theorem si {α : Type} {P : Program} {n : Nat} {g : Operand} {ps : Array Tmp} {assign body : Code} {Q : Exit -> Act -> World -> Prop} {a : Act} {w : World}
 {gf : Nat} {lb : Array Value} (hg : a.eval g = .func (.func gf) #[] lb) (eg : ∀ args w, (callFunc gf args).run P w = .ok (.enter gf args) w)
 {encs : α -> Array Value} (hps : ∀ x, (encs x).size = ps.size) (S : Nat -> Prop) (N : Nat) (Sx : List α -> Prop)
 (E : List α -> α -> World -> Prop) (I : List α -> World -> Prop)
 (hE : ∀ s x W l o o', E s x W -> w.heap.size <= l -> W.heap[l]? = some o -> o.isCells = false -> E s x (W.putObj l o'))
 (hIl : ∀ s W l o o', I s W -> w.heap.size <= l -> W.heap[l]? = some o -> o.isCells = false -> I s (W.putObj l o'))
 (hIb : ∀ s A B, I s A -> Below A.heap.size A B -> I s B) (h0 : I [] w) (a₁ : α -> Act)
 (hseq : ∀ (l : Nat) (J : List α -> World -> Prop) (W : World), Below w.heap.size w W -> (∀ s A B, J s A -> Below A.heap.size A B -> J s B) ->
  (∀ pre x W1, J pre W1 -> E pre x W1 -> pre.length < N -> YieldAt Fence.wide (n - 1 - 1) P l (encs x) W1 fun e W' => e = .returned (.bool true) /\ J (pre ++ [x]) W' /\ dL w.heap.size S W1 W') ->
  J [] W -> CallsIn Fence.wide (n - 1) P gf (#[.func (.yield l) #[] #[]] ++ lb) W fun e W' => (∃ v, e = .returned v) /\ ∃ xs, Sx xs /\ J xs W')
 (hassign : ∀ (l : Nat) (x : α) (W : World) (K : Act -> World -> Prop), K (a₁ x) W ->
  assign.wpIn (Fence.wide.inRound l) (n - 1 - 1) P (Exit.then K (fun _ _ _ => False)) { tmps := (ps.zip (encs x)).foldl (fun t (p, v) => t.setIfInBounds p v) a.tmps, defers := [] } W)
 (hbody : ∀ (l : Nat) (pre : List α) (x : α) (W : World), I pre W -> E pre x W -> pre.length < N -> body.wpIn (Fence.wide.inRound l) (n - 1 - 1) P (qy w.heap.size S I (pre ++ [x]) W) (a₁ x) W)
 (hdone : ∀ (D : Nat) (xs : List α) (W : World), w.heap.size <= D -> Sx xs -> I xs W -> W.heap[D]? = some (.deferred (some [])) -> Q .normal { a with defers := { target := .collected D, args := #[] } :: a.defers } W) :
 (Code.rangeFunc g ps assign body).wpIn Fence.wide n P Q a w := by
 refine wpIn_rangeFunc ?_;intro fn hfn;obtain ⟨R, hR⟩ : ∃ R : LoopState -> Option Code -> Loop, R = fun st pe => { state := st, pending := pe, fn, tmps := a.tmps, params := ps, assign, body, defers := w.heap.size } := ⟨_, rfl⟩;have hz0 : (w.alloc (.deferred (some []))).heap.size = w.heap.size + 1 := by simp
 have hbA : Below w.heap.size w (w.alloc (.deferred (some []))) := (Below.refl _ _).alloc (Nat.le_refl _) _;have hbB : Below (w.heap.size + 1) (w.alloc (.deferred (some []))) ((w.alloc (.deferred (some []))).alloc (.loop (R .ready none))) := (Below.refl _ _).alloc (by simp) _;have hl0 : ((w.alloc (.deferred (some []))).alloc (.loop (R .ready none))).heap[w.heap.size + 1]? = some (.loop (R .ready none)) := by
  have := World.alloc_heap_new (w.alloc (.deferred (some []))) (.loop (R .ready none)); rwa [World.size_alloc] at this
 have hd0 : ((w.alloc (.deferred (some []))).alloc (.loop (R .ready none))).heap[w.heap.size]? = some (.deferred (some [])) :=
  (hbB.block _ (by omega)).trans (World.alloc_heap_new w _)
 have hen := run_enterLoop_outer (P := P) (w := w) fn a.tmps ps assign body;have hI1 : I [] ((w.alloc (.deferred (some []))).alloc (.loop (R .ready none))) := hIb _ _ _ (hIb _ _ _ h0 hbA) (by rw [hz0]; exact hbB);have hbw : Below w.heap.size w ((w.alloc (.deferred (some []))).alloc (.loop (R .ready none))) := hbA.trans (hbB.mono (by omega));rw [show ({ state := .ready, pending := none, fn, tmps := a.tmps, params := ps, assign, body, defers := w.heap.size } : Loop) = R .ready none by rw [hR]] at hen;generalize (w.alloc (.deferred (some []))).alloc (.loop (R .ready none)) = W0 at *;refine ⟨w.heap.size + 1, [{ target := .collected w.heap.size, args := #[] }], W0, { target := .fn (.func gf) lb, args := #[.func (.yield (w.heap.size + 1)) #[] #[]] }, W0, gf,
  #[.func (.yield (w.heap.size + 1)) #[] #[]] ++ lb, W0, hen, ?_, fun _ _ => trivial, by simp [invoke, go_sem, eg], fun h => absurd h (by decide), ?_⟩
 · simp only [resolve, hg];simp [go_sem]
 have hlp : ∀ st pe, (Obj.loop (R st pe)).isCells = false := fun _ _ => rfl;refine (hseq (w.heap.size + 1) (fun pre W => I pre W /\ W.heap[w.heap.size + 1]? = some (.loop (R .ready none)) /\ W.heap[w.heap.size]? = some (.deferred (some []))) W0 hbw ?_ ?_ ⟨hI1, hl0, hd0⟩).mono ?_
 · rintro s A B ⟨h1, h2, h3⟩ hb;exact ⟨hIb _ _ _ h1 hb, (hb.block _ (Array.getElem?_eq_some_iff.1 h2).1).trans h2, (hb.block _ (Array.getElem?_eq_some_iff.1 h3).1).trans h3⟩
 · rintro pre x W ⟨hi, hl, hd⟩ hx hlen;have hlt : w.heap.size + 1 < W.heap.size := (Array.getElem?_eq_some_iff.1 hl).1;have hy := run_yield (P := P) (args := encs x) hl (by rw [hR]; exact hps x);have hbg := run_beginRound (P := P) hl (by rw [hR]);have hle : w.heap.size <= w.heap.size + 1 := by omega
   rw [hR] at hy hbg;refine ⟨fn, _, assign, body, hy, roundIn_of_wpIn hfn (hassign _ x W _ ⟨_, hbg, ?_⟩)⟩;have hl2 : (W.putObj (w.heap.size + 1) (.loop (R .busy none))).heap[w.heap.size + 1]? = some (.loop (R .busy none)) := World.putObj_heap_same hlt;have hd2 : (W.putObj (w.heap.size + 1) (.loop (R .busy none))).heap[w.heap.size]? = some (.deferred (some [])) := (World.putObj_heap_other (by omega)).trans hd;have hk2 : dL w.heap.size S W (W.putObj (w.heap.size + 1) (.loop (R .busy none))) := dL.putObj W _ hle;have hi2 := hIl pre W (w.heap.size + 1) _ (.loop (R .busy none)) hi hle hl rfl;have hx2 := hE pre x W (w.heap.size + 1) _ (.loop (R .busy none)) hx hle hl rfl;rw [show ({ state := .busy, pending := none, fn, tmps := a.tmps, params := ps, assign, body, defers := w.heap.size } : Loop) = R .busy none by rw [hR]];generalize W.putObj (w.heap.size + 1) (.loop (R .busy none)) = W2 at *;refine wpIn_mono (hbody (w.heap.size + 1) pre x W2 hi2 hx2 hlen) ?_;intro e a3 W3 hp;cases e with
   | normal =>
    obtain ⟨hk3, hkp3, hi3⟩ := hp;have hl3 := hk3.same _ _ hl2 rfl;have hd3 := hk3.same _ _ hd2 rfl;have hend := run_endRound (P := P) none hl3;rw [hR] at hend;refine ⟨_, _, hend, rfl, ⟨hIl _ _ _ _ _ hi3 hle hl3 rfl, ?_, ?_⟩, ?_⟩
    · rw [World.putObj_heap_same (Array.getElem?_eq_some_iff.1 hl3).1, hR]; rfl
    · exact (World.putObj_heap_other (by omega)).trans hd3
    · exact hk2.trans (hkp3.trans (dL.putObj _ _ hle))
   | ret => exact hp.elim
   | exit id => exact hp.elim
   | goto t => exact hp.elim
   | panic ch => exact hp.elim
   | outgrown => exact hp.elim
 · rintro e W2 ⟨⟨v, rfl⟩, xs, hS, hi, hl, hd⟩;have hle : w.heap.size <= w.heap.size + 1 := by omega
   have hend := run_endLoop (P := P) hl (by rw [hR]; simp);rw [hR] at hend;exact ⟨none, _, hend, hdone _ xs _ (Nat.le_refl _) hS (hIl _ _ _ _ _ hi hle hl rfl) ((World.putObj_heap_other (by omega)).trans hd)⟩
attribute [local go_sem] Oper.semAt_some
abbrev NR := Nat × Hd
def NR.enc (x : NR) : Array Value := #[.int .i64 (x.1 : Int), .slice (some ⟨x.2.blk, 0, none⟩) x.2.xs.length x.2.cap]
def tL (B : Nat) (pre : List NR) (x : NR) (W : World) : Prop := aK W x.2.blk x.2.xs /\ B <= x.2.blk /\ ∀ y ∈ pre, y.2.blk ≠ x.2.blk
def th (r c : Nat) (xs : List Int) (zs : List NR) : Prop := zs.length = r /\ ∀ k (h : k < zs.length), zs[k] = (k, ⟨(zs[k]).2.blk, c, rowOf xs c k⟩)
theorem aL.piece {w : World} {b : Nat} {xs : List Int} (h : aK w b xs) (L : Nat) (hL : ∀ x ∈ xs, ag x.natAbs <= L) (k c : Nat) : aL w L (some ⟨b, k * c * 2, none⟩) (rowOf xs c k) := by
 intro hp;refine ⟨b, k * c * 2, rfl, h.lt, fun i hi => ?_⟩;have h0 : i < c := by simp [rowOf] at hi; omega
 have h1 : k * c + i < xs.length := by simp [rowOf] at hi; omega
 obtain ⟨p, h2, h3, h4⟩ := h.get h1;have e : (k * c + i) * 2 = k * c * 2 + i * 2 := by omega
 rw [e] at h2 h3;refine ⟨p, h2, h3, ?_⟩;have e2 : (rowOf xs c k)[i] = xs[k * c + i] := by simp [rowOf]
 rw [e2];exact h4.int (hL _ (List.getElem_mem _))
theorem kE (n g b r c : Nat) (xs : List Int) (w : World) (S : Nat -> Prop) (hS : dq S w) (hg : aa w g 24 [.int .i64 (r : Int), .int .i64 (c : Int), .slice (some ⟨b, 0, none⟩) xs.length xs.length]) (hgS : ¬ S g) (hb : aK w b xs) (hbS : ¬ S b) (hl : xs.length = r * c) (hr : r <= 100000) (hc : c <= 100000)
 (hL : ∀ x ∈ xs, ag x.natAbs <= 17592186044415)
 (l : Nat) (J : List NR -> World -> Prop) (W : World) (hW : Below w.heap.size w W) (hJ : ∀ s A B, J s A -> Below A.heap.size A B -> J s B)
 (hY : ∀ pre x Wp W1, J pre Wp -> Below Wp.heap.size Wp W1 -> Wp.heap.size <= x.2.blk -> tL w.heap.size pre x W1 -> x = (pre.length, ⟨x.2.blk, c, rowOf xs c pre.length⟩) -> pre.length < r -> YieldAt Fence.wide (n - 1) Tryz.prog l (NR.enc x) W1 fun e W' => e = .returned (.bool true) /\ J (pre ++ [x]) W' /\ dL w.heap.size S W1 W')
 (h0 : J [] W) (hn : 1 <= n) :
 CallsIn Fence.wide n Tryz.prog 89 (#[.func (.yield l) #[] #[]] ++ #[.pointer (some ⟨g, 0, none⟩)]) W fun e W' => (∃ v, e = .returned v) /\ ∃ zs, th r c xs zs /\ J zs W' := by
 have HG := hi_ hg; clear hg;have HB := hi_ hb; clear hb;have HL := hi_ hl; clear hl;have HW := hi_ hW; clear hW;have HY := hi_ hY; clear hY;have HWL := hi_ hS; clear hS;have g0 := (HG.out.below HW.out HG.out.lt).cell 0;refine callsIn_of_wp Tryz.func89 rfl trivial ?_ rfl;simp only [Tryz.ntmps89, List.size_toArray, List.length_cons, List.length_nil, Nat.reduceAdd, Nat.reduceSub, Array.replicate_succ, Array.replicate_zero, List.push_toArray, List.append_toArray, List.nil_append, List.cons_append];simp only [List.getElem?_cons_zero] at g0
 gi_wp2
 clear g0
 gi_loopw [6] (fun i wr => ∃ (k : Nat) (zs : List NR), k <= r /\ i = .int .i64 (k : Int) /\ Hid (zs.length = k /\ (∀ j (h : j < zs.length), zs[j] = (j, ⟨(zs[j]).2.blk, c, rowOf xs c j⟩)) /\ (∀ y ∈ zs, y.2.blk < wr.heap.size) /\ J zs wr /\ aN S w wr))
  (fun i _ => r - (intOf i).toNat)
 case atStart => exact ⟨0, [], Nat.zero_le _, rfl, hi_ ⟨rfl, fun j h => absurd h (by simp), fun y h => absurd h (by simp), h0, aN.aU HW.out⟩⟩
 case round =>
  obtain ⟨k, zs, hk, rfl, HI⟩ := hrel;by_cases hlt : k < r
  · have hlt' : (k : Int) < (r : Int) := by omega
    have g0 := (HI.out.2.2.2.2.row HG.out hgS).cell 0;have g1 := (HI.out.2.2.2.2.row HG.out hgS).cell 1;have g2 := (HI.out.2.2.2.2.row HG.out hgS).cell 2;simp only [List.getElem?_cons_zero, List.getElem?_cons_succ] at g0 g1 g2;obtain ⟨q, hq⟩ : ∃ q, k * c = q := ⟨_, rfl⟩;have hq2 : (k + 1) * c = q + c := by rw [Nat.succ_mul, hq]
    have hq3 : q + c <= xs.length := by rw [<- hq2, HL.out]; exact Nat.mul_le_mul_right _ hlt
    have hxl : xs.length <= 10000000000 := by rw [HL.out]; exact Nat.mul_le_mul hr hc
    have hw1 : wrap64 ((k : Int) * (c : Int)) = (q : Int) := by
     rw [<- Int.natCast_mul, hq]; unfold wrap64; omega
    have hw2 : wrap64 (((k : Int) + 1) * (c : Int)) = (q : Int) + (c : Int) := by
     have : ((k : Int) + 1) * (c : Int) = ((q + c : Nat) : Int) := by rw [<- hq2]; push_cast; rfl
     rw [this]; push_cast; unfold wrap64; omega
    have hpc : aL wr 17592186044415 (some ⟨b, q * 2, none⟩) (rowOf xs c k) := by
     rw [<- hq]; exact aL.piece (HI.out.2.2.2.2.uJ HWL.out HB.out hbS) _ hL k c
    have hrl : (rowOf xs c k).length = c := bO HL.out hlt;have HP := hi_ hpc; clear hpc;have HQ := hi_ hq; clear hq;have HQ2 := hi_ hq2; clear hq2;have hle1 : (q : Int) + (c : Int) <= (xs.length : Int) := by omega
    have hle2 : (q : Int) <= (q : Int) + (c : Int) := by omega
    have hcap : xs.length - q ≠ 0 ∨ c = 0 := by omega
    gi_wp2_with fail
    · refine ⟨trivial, ?_⟩;have hE := ji (some ⟨b, 0, none⟩) 0 (rowOf xs c k) wr (fun h => by rw [hrl] at h; omega) (by rw [hrl]; omega);rw [hrl] at hE;refine (callsIn_wide.2 hE).mono ?_;rintro e w3 ⟨⟨bn, rfl, hbn, hrow⟩, hb3⟩;have hs3 := hb3.size;have hJ3 : J zs w3 := hJ _ _ _ HI.out.2.2.2.1 hb3;have hlt3 : bn < w3.heap.size := hrow.lt;obtain ⟨fn, tmps, assign, body, hy, hR⟩ := HY.out zs (k, ⟨bn, c, rowOf xs c k⟩) wr w3 HI.out.2.2.2.1 hb3 hbn ⟨hrow, by have := HI.out.2.2.2.2.size; show w.heap.size <= bn; omega, fun y hy => by have := HI.out.2.2.1 y hy; show y.2.blk ≠ bn; omega⟩ (by rw [HI.out.1]) (by rw [HI.out.1]; exact hlt);simp only [NR.enc] at hy;rw [hrl] at hy;have HI3 : Hid (aN S w w3) := hi_ (HI.out.2.2.2.2.below hb3);have HZ := hi_ (And.intro HI.out.1 (And.intro HI.out.2.1 HI.out.2.2.1));have HB3 := hi_ hb3;clear hb3 HI HP hrow hJ3 g0 g1 g2
      gi_wp2
      refine hR.mono ?_;rintro e W' ⟨rfl, hJ', hk'⟩;have HJ' := hi_ hJ';have HK' := hi_ hk';clear hJ' hk' hy hR
      gi_wp2
      go_roundw
      case rel =>
       refine ⟨k + 1, zs ++ [(k, ⟨bn, c, rowOf xs c k⟩)], by omega, by go_num, hi_ ⟨by simp [HZ.out.1], fun j hj => ?_, fun y hy => ?_, HJ'.out, ?_⟩⟩
       · by_cases hjk : j < zs.length
         · rw [List.getElem_append_left hjk];exact HZ.out.2.1 j hjk
         · have hjl : j = zs.length := by simp at hj; omega
           subst hjl;simp [HZ.out.1]
       · have hsz := HK'.out.size;rcases List.mem_append.1 hy with hy | hy
         · have := HZ.out.2.2 y hy; have := HB3.out.size; omega
         · simp only [List.mem_singleton] at hy; subst hy; show bn < _; omega
       · exact ⟨HK'.out.os.trans HI3.out.os, HK'.out.tape.trans HI3.out.tape, HK'.out.output.trans HI3.out.output, Nat.le_trans HI3.out.size HK'.out.size, fun i hi hs => (HK'.out.block i hi hs).trans (HI3.out.block i hi hs)⟩
      case measure => simp [intOf]; omega
    · refine ⟨trivial, ?_⟩;have hE := ji (some ⟨b, q * 2, none⟩) (xs.length - q) (rowOf xs c k) wr HP.out (by rw [hrl]; omega);rw [hrl] at hE;refine (callsIn_wide.2 hE).mono ?_;rintro e w3 ⟨⟨bn, rfl, hbn, hrow⟩, hb3⟩;have hs3 := hb3.size;have hJ3 : J zs w3 := hJ _ _ _ HI.out.2.2.2.1 hb3;have hlt3 : bn < w3.heap.size := hrow.lt;obtain ⟨fn, tmps, assign, body, hy, hR⟩ := HY.out zs (k, ⟨bn, c, rowOf xs c k⟩) wr w3 HI.out.2.2.2.1 hb3 hbn ⟨hrow, by have := HI.out.2.2.2.2.size; show w.heap.size <= bn; omega, fun y hy => by have := HI.out.2.2.1 y hy; show y.2.blk ≠ bn; omega⟩ (by rw [HI.out.1]) (by rw [HI.out.1]; exact hlt);simp only [NR.enc] at hy;rw [hrl] at hy;have HI3 : Hid (aN S w w3) := hi_ (HI.out.2.2.2.2.below hb3);have HZ := hi_ (And.intro HI.out.1 (And.intro HI.out.2.1 HI.out.2.2.1));have HB3 := hi_ hb3;clear hb3 HI HP hrow hJ3 g0 g1 g2
      gi_wp2
      refine hR.mono ?_;rintro e W' ⟨rfl, hJ', hk'⟩;have HJ' := hi_ hJ';have HK' := hi_ hk';clear hJ' hk' hy hR
      gi_wp2
      go_roundw
      case rel =>
       refine ⟨k + 1, zs ++ [(k, ⟨bn, c, rowOf xs c k⟩)], by omega, by go_num, hi_ ⟨by simp [HZ.out.1], fun j hj => ?_, fun y hy => ?_, HJ'.out, ?_⟩⟩
       · by_cases hjk : j < zs.length
         · rw [List.getElem_append_left hjk];exact HZ.out.2.1 j hjk
         · have hjl : j = zs.length := by simp at hj; omega
           subst hjl;simp [HZ.out.1]
       · have hsz := HK'.out.size;rcases List.mem_append.1 hy with hy | hy
         · have := HZ.out.2.2 y hy; have := HB3.out.size; omega
         · simp only [List.mem_singleton] at hy; subst hy; show bn < _; omega
       · exact ⟨HK'.out.os.trans HI3.out.os, HK'.out.tape.trans HI3.out.tape, HK'.out.output.trans HI3.out.output, Nat.le_trans HI3.out.size HK'.out.size, fun i hi hs => (HK'.out.block i hi hs).trans (HI3.out.block i hi hs)⟩
      case measure => simp [intOf]; omega
  · obtain rfl : k = r := by omega
    gi_wp2
    go_end0
    exact ⟨⟨_, rfl⟩, zs, ⟨HI.out.1, HI.out.2.1⟩, HI.out.2.2.2.1⟩
theorem rE (n g b r c : Nat) (xs : List Int) (w : World) (S : Nat -> Prop) (hS : dq S w) (hg : aa w g 24 [.int .i64 (r : Int), .int .i64 (c : Int), .slice (some ⟨b, 0, none⟩) xs.length xs.length]) (hgS : ¬ S g) (hb : aK w b xs) (hbS : ¬ S b) (hl : xs.length = r * c) (hr : r <= 100000) (hc : c <= 100000)
 (hL : ∀ x ∈ xs, ag x.natAbs <= 17592186044415)
 (l : Nat) (J : List NR -> World -> Prop) (W : World) (hW : Below w.heap.size w W) (hJ : ∀ s A B, J s A -> Below A.heap.size A B -> J s B)
 (hY : ∀ pre x W1, J pre W1 -> tL w.heap.size pre x W1 -> pre.length < r -> YieldAt Fence.wide (n - 1) Tryz.prog l (NR.enc x) W1 fun e W' => e = .returned (.bool true) /\ J (pre ++ [x]) W' /\ dL w.heap.size S W1 W')
 (h0 : J [] W) (hn : 1 <= n) :
 CallsIn Fence.wide n Tryz.prog 89 (#[.func (.yield l) #[] #[]] ++ #[.pointer (some ⟨g, 0, none⟩)]) W fun e W' => (∃ v, e = .returned v) /\ ∃ zs, th r c xs zs /\ J zs W' :=
 kE n g b r c xs w S hS hg hgS hb hbS hl hr hc hL l J W hW hJ (fun pre x Wp W1 hj hb _ hx _ hl => hY pre x W1 (hJ _ _ _ hj hb) hx hl) h0 hn
abbrev ve (l : Nat) : Fence := Fence.wide.inRound l
theorem uI {P : Program} {f : FuncId} {args : Array Value} {w : World} {R : Ending -> World -> Prop} (l n : Nat) (h : Calls P f args w R) : CallsIn (ve l) n P f args w R := ((callsIn_wide (n := n)).2 h).inRound l
theorem x6 {P : Program} {row : String} {args : Array Value} {w : World} {R : Value -> World -> Prop} (l n : Nat) (h : Rows P row args w R) : RowsIn (ve l) n P row args w R := fun c cs _ => by
 obtain ⟨v, w', r, s⟩ := h c cs;exact ⟨v, w', r, stepsIn_wide.2 s⟩
def zC (q : Act -> World -> Prop) : Exit -> Act -> World -> Prop
 | .normal, a, w => q a w
 | _, _, _ => False
theorem tx {q : Act -> World -> Prop} : ¬ LetsOut (zC q) := fun ⟨_, _, h⟩ => h
def vd (ops : Array Oper) : Bool := ops.all fun o => match o.op with | .defer _ => false | _ => true
theorem ya {ops : Array Oper} (h : vd ops = true) {i : Nat} {o : Oper} (ho : ops[i]? = some o) : ∀ c, o.op ≠ .defer c := fun c e => by
 unfold vd at h;rw [Array.all_eq_true] at h;obtain ⟨hi, rfl⟩ := Array.getElem?_eq_some_iff.1 ho;have := h i hi;rw [e] at this;cases this
section
variable {P : Program} {ops : Array Oper} {q : Act -> World -> Prop} {Q' : Exit -> Act -> World -> Prop} {l n : Nat}
theorem tr (hd : vd ops = true) {i : Nat} {K K' : Act -> World -> Prop} {a : Act} {w : World} (hK : ∀ a w, K a w -> K' a w) (h : wpOp P ops (zC q) i K a w) : wpOpIn (ve l) n P ops Q' i K' a w := by
 unfold wpOp at h;unfold wpOpIn;cases ho : ops[i]? with
 | none => rw [ho] at h; exact hK _ _ h
 | some o =>
  rw [ho] at h;simp only at h ⊢;by_cases hw : Region.wanted o (yielded ops a.tmps) = true
  · rw [if_pos hw] at h ⊢;have h := h.resolve_right fun q => tx q.2;unfold Oper.wp at h;refine ⟨fun _ _ => trivial, ?_⟩;rw [Oper.semAt_eq _ _ _ (ya hd ho)];generalize (execOp a.eval o).run P w = r at *;cases r with
    | halt x w' => cases x <;> exact h.elim
    | ok nx w' =>
     cases nx with
     | value v => exact hK _ _ h
     | skip => exact hK _ _ h
     | defer d => exact hK _ _ h
     | enter f args =>
      refine ⟨fun h => by simp [ve, Fence.inRound, Fence.wide] at h, uI l (n - 1) (Calls.mono h fun e w'' he => ?_)⟩;cases e with
      | returned v => exact hK _ _ he
      | panicked c => exact he.elim
      | outgrown => exact (tx he).elim
     | row row args => exact ⟨fun h => by simp [ve, Fence.inRound, Fence.wide] at h, x6 l (n - 1) (Rows.mono h fun v w'' he => hK _ _ he)⟩
     | _ => exact h.elim
  · rw [if_neg hw] at h ⊢;exact ⟨fun _ _ => trivial, hK _ _ h⟩
theorem qB (hd : vd ops = true) (hq : ∀ a w, q a w -> Q' .normal a w) {md : Region.Mode} : ∀ (fuel : Nat) (ls : Array Bool) (a : Act) (w : World), wpAny P md ops (zC q) fuel ls a w -> wpAnyIn (ve l) n P md ops Q' fuel ls a w
 | 0, _, _, _, h => ⟨h.1, hq _ _ h.2⟩
 | fuel + 1, ls, a, w, h => ⟨fun hr => hq _ _ (h.1 hr), fun i hi => tr hd (fun a w k => qB hd hq fuel _ a w k) (h.2 i hi)⟩
theorem ru (hd : vd ops = true) (hq : ∀ a w, q a w -> Q' .normal a w) : ∀ (l' : List Nat) (a : Act) (w : World), wpOps P ops (zC q) l' a w -> wpOpsIn (ve l) n P ops Q' l' a w
 | [], _, _, h => hq _ _ h
 | i :: l', a, w, h => by
  rw [wpOps_cons] at h;rw [wpOpsIn_cons];exact tr hd (fun a w k => ru hd hq l' a w k) h
end
def CI (l N : Nat) (P : Program) (n : Nat) (S0 : Nat -> Prop) (w0 : World) (c : Code) (Q : Exit -> Act -> World -> Prop) (ls : List (Nat × Value)) (es : List En) : Prop := ∀ a w, Sl n ls a -> Fr S0 w0 w es -> c.wpIn (ve l) N P Q a w
section
variable {P : Program} {ops : Array Oper} {Q Qx : Exit -> Act -> World -> Prop} {S0 : Nat -> Prop} {w0 : World} {n l N : Nat} {ls : List (Nat × Value)} {es : List En}
theorem rI {id m : Nat} {d : Bool} (hd : List (List Nat)) (k : RWs ⟨P, ops, zC (Q .normal), S0, w0, es, hd⟩ n (sL m 0) [] es ls) (hm : P.follows .mixedOrders = true := by kernel_rfl) (hn : ops.size = m := by rfl) (hok : (kt ops m && vd ops) = true := by kernel_rfl) : CI l N P n S0 w0 (.region id ops d) Q ls es := fun a w ha hw => by
 simp only [Bool.and_eq_true] at hok;cases d with
 | true => exact wpIn_region_any hm (qB hok.2 (fun _ _ h => h) _ _ _ _ (rgA1 ⟨P, ops, zC (Q .normal), S0, w0, es, hd⟩ hn hok.1 hw (k a ha)))
 | false => exact wpIn_region (ru hok.2 (fun _ _ h => h) _ _ _ (rgB1 ⟨P, ops, zC (Q .normal), S0, w0, es, hd⟩ hn hok.1 hw (k a ha)))
theorem nrmI {D : List En} (k : QW n S0 w0 Q .normal ls D) : QW n S0 w0 (zC (Q .normal)) .normal ls D := k
theorem seqI {x y : Code} (k : CI l N P n S0 w0 x (Exit.then (y.wpIn (ve l) N P Q) Q) ls es) : CI l N P n S0 w0 (.seq x y) Q ls es := fun a w ha hw => wpIn_seq (k a w ha hw)
theorem zT {id : Nat} {c : Code} (k : CI l N P n S0 w0 c (Exit.inBlock id Q) ls es) : CI l N P n S0 w0 (.block id c) Q ls es := fun a w ha hw => wpIn_block (k a w ha hw)
theorem nextI {y : Code} (k : CI l N P n S0 w0 y Q ls es) : QW n S0 w0 (Exit.then (y.wpIn (ve l) N P Q) Qx) .normal ls es := k
theorem xL {Z R : Prop} (k : R) (h : R -> Z := by
 intro k;repeat (first | refine nrmI ?_ | refine seqI ?_ | refine skipI ?_ | refine nextI ?_ | refine zT ?_ | refine exitI ?_ | refine zN ?_ | refine inbN ?_ | refine inbE ?_ | refine inbX (by decide) ?_)
 exact k) : Z := h k
end
section
variable {P : Program} {Q : Exit -> Act -> World -> Prop} {ds : List Deferred} {S0 : Nat -> Prop} {w0 : World} {n : Nat} {ls : List (Nat × Value)} {es : List En} {c : Code}
theorem dU {es' : List En} (k : eP ds P n S0 w0 c Q ls es') (h : Pk es es' := by repeat (first | exact Pk.n | refine Pk.c (by repeat (first | exact Rm.z | apply Rm.s)) ?_)) : eP ds P n S0 w0 c Q ls es := fun a w ha hw => k a w ha (hw.pick h)
end
section
variable {P : Program} {ops : Array Oper} {Q : Exit -> Act -> World -> Prop} {ds : List Deferred} {S0 : Nat -> Prop} {w0 : World} {E0 : List En} {hd : List (List Nat)} {n j s : Nat} {l : List Nat} {G E : List En} {ls : List (Nat × Value)} {op : Op} {ty : TypeId} {pos : String} {af : Array Edge} {v v' : Value}
theorem dE (hv : v' = v) (k : dy ds ⟨P, ops, Q, S0, w0, E0, []⟩ n l G E ((s, v) :: ls))
 (ho : ops[j]? = some ⟨some s, op, ty, pos, af, none⟩ := by rfl) (hk : (bF op && dK ls op && Nat.blt s n) = true := by kernel_rfl)
 (hr : ∀ w, (pI op = true -> Fr S0 w0 w E0) -> (execOp (cT ls) ⟨some s, op, ty, pos, af, none⟩).run P w = .ok (.value v') w := by intro w H; (first | (have c := (H rfl).c; try simp only [rV, cl, List.cons_append, List.nil_append] at c) | skip); clear H; go_simp <;> with_reducible rfl) : dy ds ⟨P, ops, Q, S0, w0, E0, []⟩ n (j :: l) G E ls :=
 dW (v := v) k ho hk (by rw [<- hv]; exact hr)
theorem dB (b : Bool) (k : dy ds ⟨P, ops, Q, S0, w0, E0, []⟩ n l G E ((s, .bool b) :: ls))
 (ho : ops[j]? = some ⟨some s, op, ty, pos, af, none⟩ := by rfl) (hk : (bF op && dK ls op && Nat.blt s n) = true := by kernel_rfl)
 (hr : ∀ w, (pI op = true -> Fr S0 w0 w E0) -> (execOp (cT ls) ⟨some s, op, ty, pos, af, none⟩).run P w = .ok (.value v') w := by intro w H; (first | (have c := (H rfl).c; try simp only [rV, cl, List.cons_append, List.nil_append] at c) | skip); clear H; go_simp <;> with_reducible rfl)
 (hv : v' = .bool b := by first | rfl | (simp [*]; done) | (simp; omega)) : dy ds ⟨P, ops, Q, S0, w0, E0, []⟩ n (j :: l) G E ls :=
 dE hv k ho hk hr
theorem rJ (b : Bool) {sg g : Nat} {want : Bool} (k : dy ds ⟨P, ops, Q, S0, w0, E0, []⟩ n l G E ((s, .bool b) :: ls))
 (ho : ops[j]? = some ⟨some s, op, ty, pos, af, some (g, want)⟩ := by rfl) (hk : (bF op && dK ls op && Nat.blt s n) = true := by kernel_rfl)
 (hg : (ops[g]?).bind (·.dst) = some sg := by rfl) (hi : eH ls (.tmp sg) = true := by kernel_rfl) (hb : cT ls (.tmp sg) = .bool want := by (simp only [bX, Nat.reduceEqDiff, ↓reduceIte]) <;> first | rfl | simp [*])
 (hr : ∀ w, (pI op = true -> Fr S0 w0 w E0) -> (execOp (cT ls) ⟨some s, op, ty, pos, af, some (g, want)⟩).run P w = .ok (.value v') w := by intro w H; (first | (have c := (H rfl).c; try simp only [rV, cl, List.cons_append, List.nil_append] at c) | skip); clear H; go_simp <;> with_reducible rfl)
 (hv : v' = .bool b := by first | rfl | (simp [*]; done) | (simp; omega)) : dy ds ⟨P, ops, Q, S0, w0, E0, []⟩ n (j :: l) G E ls :=
 dG k ho hk hg hi hb (by rw [<- hv]; exact hr)
end
theorem Fr.apart {S0 : Nat -> Prop} {w0 w : World} {es : List En} (h : Fr S0 w0 w es) {e e1 : En} (he : e ∈ es) (he1 : e1 ∈ es) (hw : e.wr = true) (hw1 : e1.wr = false) {b : Nat} (hb : e.S b) : ¬ e1.S b := fun hb1 => by
 obtain ⟨l1, l2, rfl⟩ := List.append_of_mem he1;have hp := List.pairwise_append.1 h.sep;rcases List.mem_append.1 he with h | h
 · exact (hp.2.2 e h _ (List.mem_cons_self ..)).1 hw b hb hb1
 · rcases List.mem_cons.1 h with rfl | h
   · rw [hw] at hw1; cases hw1
   · exact ((List.pairwise_cons.1 hp.2.1).1 e h).2 hw b hb hb1
def Rd (w w' : World) (L es : List En) : Prop := Below w.heap.size w w' /\ ∀ e ∈ es, e.F w' /\ e.wr = false /\ ∀ b, e.S b -> w.heap.size <= b ∨ ∃ e1 ∈ L, e1.wr = false /\ e1.S b
theorem Rd.fr {S0 : Nat -> Prop} {w0 w w' : World} {L E : List En} : ∀ {es : List En}, Rd w w' L es -> Fr S0 w0 w E -> (∀ e ∈ L, e ∈ E) -> Fr S0 w0 w' (es ++ E)
 | [], h, hf, _ => hf.grow h.1
 | e :: es, h, hf, hL => by
  have h1 := Rd.fr (es := es) ⟨h.1, fun x hx => h.2 x (List.mem_cons_of_mem _ hx)⟩ hf hL;obtain ⟨h2, h3, h4⟩ := h.2 e (List.mem_cons_self ..);refine h1.cons h2 (fun e' he' => ⟨(fun hw => by rw [h3] at hw; cases hw), fun hw b hb hb' => ?_⟩) (fun hw => by rw [h3] at hw; cases hw);rcases List.mem_append.1 he' with he' | he'
  · rw [(h.2 e' (List.mem_cons_of_mem _ he')).2.1] at hw; cases hw
  · rcases h4 b hb' with h5 | ⟨e1, h5, h6, h7⟩
    · have := En.lt (hf.all e' he') b hb; omega
    · exact hf.apart he' (hL e1 h5) hw h6 hb h7
section
variable {P : Program} {ops : Array Oper} {Q : Exit -> Act -> World -> Prop} {ds : List Deferred} {S0 : Nat -> Prop} {w0 : World} {E0 : List En} {hd : List (List Nat)} {n j s sg g : Nat} {l : List Nat} {G E : List En} {ls : List (Nat × Value)} {op : Op} {ty : TypeId} {pos : String} {af : Array Edge} {f : FuncId} {args : Array Value} {want : Bool}
theorem cR {α : Type} {mk : α -> Value} {ens : α -> List En} (c : ∀ w, Fr S0 w0 w (G ++ E) -> Calls P f args w fun e w' => ∃ p, e = .returned (mk p) /\ Rd w w' (G ++ E) (ens p))
 (k : ∀ p, dy ds ⟨P, ops, Q, S0, w0, E0, hd⟩ n l (ens p ++ G) E ((s, mk p) :: ls))
 (ho : ops[j]? = some ⟨some s, op, ty, pos, af, none⟩ := by rfl) (hk : (!bF op && !cX op && dK ls op && Nat.blt s n) = true := by kernel_rfl)
 (hr : ∀ w, (execOp (cT ls) ⟨some s, op, ty, pos, af, none⟩).run P w = .ok (.enter f args) w := by intro w; (try simp only [av]); go_simp <;> with_reducible rfl) (hne : Nonempty α := by infer_instance)
 (hst : fo ops hd j [] = true := by kernel_rfl) : dy ds ⟨P, ops, Q, S0, w0, E0, hd⟩ n (j :: l) G E ls := fun a ha => by
 simp only [Bool.and_eq_true, Bool.not_eq_true'] at hk;refine ⟨_, ho, .inr (.inr ⟨hk.1.1.1, hk.1.1.2, α, mk, fun p => ens p ++ G, fun _ => E, [], hne, fun X w hX hw => ?_, hst, fun _ _ _ => rfl, fun p => k p _ (ha.put (Nat.le_of_ble_eq_true hk.2) _)⟩)⟩;refine xK rfl ?_;show mK P _ ((execOp a.eval _).run P w);rw [ha.exec hk.1.2, hr w];refine (c w (hw.sub (List.sublist_append_right ..))).mono ?_;rintro e w' ⟨p, rfl, hn⟩;refine ⟨_, rfl, p, rfl, (hn.fr hw (fun e he => List.mem_append_right _ he)).perm ?_⟩;rw [List.append_assoc];exact (List.perm_append_comm_assoc (ens p) X (G ++ E))
end
theorem c7 {xs : List Int} {i : Nat} (h : i < xs.length) : gi xs i = xs[i] := by simp [gi, h]
theorem gV {ps : List P4} {i : Nat} (h : i < ps.length) : gp ps i = ps[i] := by simp [gp, h]
theorem jY {xs : List Int} {i : Nat} (h : i < xs.length) : gi xs i ∈ xs := by rw [c7 h]; exact List.getElem_mem h
theorem gE {xs : List Int} {i j : Nat} (h : i < xs.length) (x : Int) : gi (xs.set i x) j = if j = i then x else gi xs j := by
 unfold gi;rw [List.getD_eq_getElem?_getD, List.getElem?_set, List.getD_eq_getElem?_getD];by_cases e : i = j
 · subst e; simp [h]
 · have e2 : ¬ j = i := fun q => e q.symm;simp [e, e2]
theorem rH {ps : List P4} {i : Nat} (tl : List Value) (h : i < ps.length) : (rn ps tl)[i * 2]? = some (.bool (gp ps i).1) := by
 have := bg ps;rw [gV h, rn, List.getElem?_append_left (by omega)]; exact jq ps i h
theorem rK {ps : List P4} {i : Nat} (tl : List Value) (h : i < ps.length) : (rn ps tl)[i * 2 + 1]? = some (.slice (gp ps i).2.1 (gp ps i).2.2.1 (gp ps i).2.2.2) := by
 have := bg ps;rw [gV h, rn, List.getElem?_append_left (by omega)]; exact jo ps i h
theorem Ah {ps : List P4} {i : Nat} (tl : List Value) (h : i < ps.length) (p : P4) : iz (rn ps tl) (i * 2) [.bool p.1, .slice p.2.1 p.2.2.1 p.2.2.2] = rn (ps.set i p) tl := by
 have hl := bg ps;simp only [iz, rn];rw [List.set_append_left _ _ (by omega), List.set_append_left _ _ (by rw [List.length_set]; omega), n7]
theorem aI.rn {ps : List P4} {tl : List Value} (h : aI tl) : aI (rn ps tl) := gg h
theorem bQ.set {w : World} {ps : List P4} {xs : List Int} (h : bQ w ps xs) (i : Nat) {p : P4} {x : Int} (hp : aH w (av p) x) : bQ w (ps.set i p) (xs.set i x) := by
 refine ⟨by simp [h.1], fun j hj => ?_⟩;rw [List.length_set] at hj;have h1 := h.1;by_cases e : i = j
 · subst e;rw [gV (by simpa using hj), c7 (by simp; omega)];simpa using hp
 · have := h.2 j hj;rw [gV hj, c7 (by omega)] at this;rw [gV (by simpa using hj), c7 (by simp; omega)];simpa [e] using this
theorem bQ.snoc {w : World} {ps : List P4} {xs : List Int} (h : bQ w ps xs) {p : P4} {x : Int} (hp : aH w (av p) x) : bQ w (ps ++ [p]) (xs ++ [x]) := by
 refine ⟨by simp [h.1], fun j hj => ?_⟩;have h1 := h.1;rw [gV hj, c7 (by simp at hj ⊢; omega)];by_cases e : j < ps.length
 · have := h.2 j e;rw [gV e, c7 (by omega)] at this;rw [List.getElem_append_left e, List.getElem_append_left (by omega)]; exact this
 · have e1 : j = ps.length := by simp at hj; omega
   subst e1;simpa [h1] using hp
theorem bQ.nil (w : World) : bQ w [] [] := ⟨rfl, fun i h => absurd h (by simp)⟩
theorem bQ.kF (w : World) (n : Nat) : bQ w (List.replicate n p0) (List.replicate n 0) := ⟨by simp, fun i h => by
 have h : i < n := by simpa using h
 rw [gV (by simpa using h), c7 (by simpa using h)]; simp; exact aH.zero w⟩
theorem aK.mk' {w : World} {b : Nat} {ps : List P4} {tl : List Value} {xs : List Int} (h : aa w b 37 (rn ps tl)) (ht : aI tl) (hn : bQ w ps xs) : aK w b xs :=
 ⟨ps, tl, ht, h, hn.1, fun i h1 h2 => by have := hn.2 i h1; rw [gV h1, c7 h2] at this; exact this⟩
theorem Fr.l {S0 : Nat -> Prop} {w0 w : World} {es : List En} (h : Fr S0 w0 w es) {L : Nat} {ao : Option Addr} {xs : List Int} (hx : aL w L ao xs) (hS : ∀ e ∈ es, e.wr = false) : Fr S0 w0 w (.ls L ao xs :: es) :=
 h.cons hx (fun e he => ⟨(fun q => nomatch q), fun q => by rw [hS e he] at q; cases q⟩) (fun q => nomatch q)
section
variable {P : Program} {Q : Exit -> Act -> World -> Prop} {ds : List Deferred} {S0 : Nat -> Prop} {w0 : World} {n : Nat} {ls : List (Nat × Value)} {es : List En} {c : Code}
theorem Fr.cellOf {w : World} {e : En} {a : Addr} {v : Value} (h : Fr S0 w0 w es) (hm : e ∈ es) (hwr : e.wr = false) (hS : e.S a.block) (hc : w.cell? a = some v) : Fr S0 w0 w (.cell a v :: es) :=
 h.cons (e := .cell a v) hc (fun e' he' => ⟨(fun q => nomatch q), fun q g hg hg' => by
  obtain rfl : g = a.block := hg';exact h.apart he' hm q hwr hg hS⟩) (fun q => nomatch q)
theorem rO {L : Nat} {xs : List Int} {b o : Nat} (i : Nat) (hm : En.ls L (some ⟨b, o, none⟩) xs ∈ es) (hi : i < xs.length) (k : ∀ p : P4, eP ds P n S0 w0 c Q ls (.cell ⟨b, o + i * 2, none⟩ (.bool p.1) :: .cell ⟨b, o + i * 2 + 1, none⟩ (.slice p.2.1 p.2.2.1 p.2.2.2) :: .at L (av p) (gi xs i) :: es)) : eP ds P n S0 w0 c Q ls es := fun a w ha hw => by
 have hA : aL w L (some ⟨b, o, none⟩) xs := hw.all _ hm;obtain ⟨b', o', e, hb, hc⟩ := hA (by omega);cases e;obtain ⟨p, h0, h1, hx⟩ := hc i hi;rw [<- c7 hi] at hx;have hS : (En.ls L (some ⟨b, o, none⟩) xs).S b := ⟨by omega, o, rfl⟩;exact k p a w ha (((hw.pure (e := .at L (av p) (gi xs i)) hx (fun _ h => h)).cellOf (List.mem_cons_of_mem _ hm) rfl hS h1).cellOf (List.mem_cons_of_mem _ (List.mem_cons_of_mem _ hm)) rfl hS h0)
theorem mQ {e : En} (he : ∀ w, Fr S0 w0 w es -> e.F w) (k : eP ds P n S0 w0 c Q ls (e :: es)) (hS : ∀ b, ¬ e.S b := by intro b h; exact h) : eP ds P n S0 w0 c Q ls es := fun a w ha hw => k a w ha (hw.pure (he w hw) hS)
end
section
variable {ops : Array Oper} {Q : Exit -> Act -> World -> Prop} {ds : List Deferred} {S0 : Nat -> Prop} {w0 : World} {E0 : List En} {hd : List (List Nat)} {n j s : Nat} {l : List Nat} {G E : List En} {ls : List (Nat × Value)} {op : Op} {ty : TypeId} {pos : String} {af : Array Edge}
theorem mN {sl sc : Operand} {a b : Int} {kl kc : IntKind} (x y : Nat) (hx : a = x) (hy : b = y) (hxy : x <= y) (hb : y <= 8796093022208) (k : ∀ g, dy ds ⟨Tryz.prog, ops, Q, S0, w0, E0, hd⟩ n l (.row g 37 (rn (List.replicate y p0) []) :: G) E ((s, .slice (some ⟨g, 0, none⟩) x y) :: ls))
 (ho : ops[j]? = some ⟨some s, .makeSlice 22 sl sc, ty, pos, af, none⟩ := by rfl) (hk : (dK ls (.makeSlice 22 sl sc) && Nat.blt s n) = true := by kernel_rfl)
 (h1 : cT ls sl = .int kl a := by (simp only [bX, Nat.reduceEqDiff, ↓reduceIte]) <;> rfl) (h2 : cT ls sc = .int kc b := by (simp only [bX, Nat.reduceEqDiff, ↓reduceIte]) <;> rfl) : dy ds ⟨Tryz.prog, ops, Q, S0, w0, E0, hd⟩ n (j :: l) G E ls := fun A hA => by
 simp only [Bool.and_eq_true] at hk;refine ⟨_, ho, .inr (.inl ⟨rfl, rfl, fun g => .slice (some ⟨g, 0, none⟩) x y, 37, rn (List.replicate y p0) [], ⟨rfl, fun w => ?_⟩, fun g => k g _ (hA.put (Nat.le_of_ble_eq_true hk.2) _)⟩)⟩;rw [hA.exec (o := ⟨some s, .makeSlice 22 sl sc, ty, pos, af, none⟩) hk.1];obtain ⟨i, hi, hz, hs, hbt⟩ := info_parts iS;subst hx hy;have hr := run_make (P := Tryz.prog) w 22 37 i (.agg #[.bool false, .slice none 0 0]) Tryz.underlying22 hi hz kl kc x y (by omega) (by omega) (by rw [hbt]; omega) (by omega);simp only [Int.toNat_natCast] at hr;have e : madeCells (Value.agg #[.bool false, .slice none 0 0]).cells (y * i.size) = (rn (List.replicate y p0) []).toArray := by
  have := nZ y;rw [hs, rn, List.append_nil, <- this]
 simp [execOp, h1, h2, hr, Result.andThen, e]
theorem sN {b i : Nat} {ps ps' : List P4} {tl : List Value} {ad x : Operand} {sty : TypeId} {E' : List En} (q : Nat) (p : P4) (hq : q < ps.length) (ht : aI tl) (hs : ps.set q p = ps')
 (k' : dy ds ⟨Tryz.prog, ops, Q, S0, w0, E0, hd⟩ n l G E' ls)
 (ho : ops[j]? = some ⟨none, .store sty ad x, ty, pos, af, none⟩ := by rfl) (hk : dK ls (.store sty ad x) = true := by kernel_rfl)
 (ha : cT ls ad = .pointer (some ⟨b, q * 2, none⟩) := by (simp only [bX, Nat.reduceEqDiff, ↓reduceIte]) <;> rfl)
 (hv : cT ls x = .agg #[.bool p.1, .slice p.2.1 p.2.2.1 p.2.2.2] := by (simp only [bX, Nat.reduceEqDiff, ↓reduceIte, av]) <;> rfl)
 (hE : Up (.row b 37 (rn ps tl)) (.row b 37 (rn ps' tl)) i E E' := by repeat first | exact .z | apply Up.s)
 (hr : ∀ w u v, w.cell? ⟨b, q * 2, none⟩ = some u -> w.cell? ⟨b, q * 2 + 1, none⟩ = some v -> w.frozen? ⟨b, q * 2, none⟩ = false -> w.frozen? ⟨b, q * 2 + 1, none⟩ = false -> (execOp (cT ls) ⟨none, .store sty ad x, ty, pos, af, none⟩).run Tryz.prog w = .ok .skip (oN w b (q * 2) [.bool p.1, .slice p.2.1 p.2.2.1 p.2.2.2]) := by intro w u v c0 c1 f0 f1; (try simp only [av]); go_simp <;> rfl)
 (hst : fo ops hd j [i] = true := by kernel_rfl) : dy ds ⟨Tryz.prog, ops, Q, S0, w0, E0, hd⟩ n (j :: l) G E ls := fun a hA => by
 subst hs;refine ⟨_, ho, .inr (.inr ⟨rfl, rfl, Unit, fun _ => undef, fun _ => G, fun _ => E', [i], ⟨()⟩, fun X w hX hw => ?_, hst, fun _ r hr => hE.other (by simpa using hr), fun _ => k' _ (hA.AR _)⟩)⟩;obtain ⟨m, h1, h2⟩ := hE.right' X G;have hrow : aa w b 37 (rn ps tl) := (hw.perm h1).all _ (List.mem_cons_self ..);refine xK rfl ?_;show mK _ _ ((execOp a.eval _).run _ w);rw [hA.exec (o := ⟨none, .store sty ad x, ty, pos, af, none⟩) hk, hr w _ _ ((hrow.cell _).trans (rH tl hq)) ((hrow.cell _).trans (rK tl hq)) (hrow.free _) (hrow.free _)];exact ⟨(), rfl, hw.st (t := 37) _ _ (.inl ⟨aI.rn ht, by decide⟩) h1 (by rw [Ah tl hq]; exact h2)⟩
end
theorem Fr.conv {S0 : Nat -> Prop} {w0 w : World} {es : List En} {e e' : En} (h : Fr S0 w0 w (e :: es)) (h1 : e.F w -> e'.F w) (h2 : ∀ b, e'.S b -> e.S b) (h3 : e'.wr = true -> e.wr = true) : Fr S0 w0 w (e' :: es) := by
 have hp := List.pairwise_cons.1 h.sep;exact h.tl.cons (h1 h.m0) (fun x hx => ⟨fun q b hb => (hp.1 x hx).1 (h3 q) b (h2 b hb), fun q b hb hb' => (hp.1 x hx).2 q b hb (h2 b hb')⟩) (fun q b hb => h.own e (List.mem_cons_self ..) (h3 q) b (h2 b hb))
theorem Fr.lst0 {S0 : Nat -> Prop} {w0 w : World} {es : List En} (h : Fr S0 w0 w es) : Fr S0 w0 w (.kY none 0 0 [] :: es) := h.pure (e := .kY none 0 0 []) ⟨rfl, Nat.le_refl _, .inl ⟨rfl, rfl⟩⟩ (fun b ⟨o, e⟩ => nomatch e)
section
variable {P : Program} {Q : Exit -> Act -> World -> Prop} {ds : List Deferred} {S0 : Nat -> Prop} {w0 : World} {n : Nat} {ls : List (Nat × Value)} {es : List En} {c : Code}
theorem lst0W (k : eP ds P n S0 w0 c Q ls (.kY none 0 0 [] :: es)) : eP ds P n S0 w0 c Q ls es := fun a w ha hw => k a w ha hw.lst0
end
theorem zh {ps : List P4} {tl : List Value} {cap : Nat} (hl : (rn ps tl).length = cap * 2) (h : ps.length < cap) (p : P4) : iz (rn ps tl) (ps.length * 2) [.bool p.1, .slice p.2.1 p.2.2.1 p.2.2.2] = rn (ps ++ [p]) (tl.drop 2) := by
 have hf := bg ps;obtain ⟨a, b, t, rfl⟩ : ∃ a b t, tl = a :: b :: t := by
  rw [rn, List.length_append] at hl;match tl, hl with
  | [], h => simp at h; omega
  | [_], h => simp at h; omega
  | a :: b :: t, _ => exact ⟨a, b, t, rfl⟩
 simp only [iz, rn];rw [List.set_append_right _ _ (by omega), List.set_append_right _ _ (by omega), j4, show ps.length * 2 - (flat ps).length = 0 by omega, show ps.length * 2 + 1 - (flat ps).length = 1 by omega];simp [flat]
theorem aN.wy (T : Nat -> Prop) (w : World) (o : Obj) : aN T w (w.drew.alloc o) := aN.aU ⟨rfl, rfl, rfl, by simp, fun q hq => sf w _ hq⟩
theorem yX {w : World} {ty : TypeId} {ao : Option Addr} {k cap : Nat} {ps : List P4} (h : rR ao k cap ps w) (hb : k <= 100000000) {ad : Addr} {c : Nat} {p : P4} (h0 : w.cell? ad = some (.bool p.1)) (h1 : w.cell? (ad.add 1) = some (.slice p.2.1 p.2.2.1 p.2.2.2)) :
 ∃ ao' cap' w', (Builtin.append_ #[22, 22] ty #[.slice ao k cap, .slice (some ad) 1 c]).run Tryz.prog w = .ok (.slice ao' (k + 1) cap') w' /\ rR ao' (k + 1) cap' (ps ++ [p]) w' /\ aN (fun g => ∃ o, ao = some ⟨g, o, none⟩) w w' /\ ∀ g, (∃ o, ao' = some ⟨g, o, none⟩) -> (∃ o, ao = some ⟨g, o, none⟩) ∨ w.heap.size <= g := by
 obtain ⟨i, hi, hz, hsz, hby⟩ := info_parts iS;have hn : ∀ j u, [Value.bool p.1, .slice p.2.1 p.2.2.1 p.2.2.2][j]? = some u -> w.cell? (ad.add j) = some u := fun j u hj => by
  match j, hj with
  | 0, hj => cases hj; simpa [Addr.add] using h0
  | 1, hj => cases hj; exact h1
 have hsrc : Src Tryz.prog i.size 22 (.slice (some ad) 1 c) 1 [Value.bool p.1, .slice p.2.1 p.2.2.1 p.2.2.2] w := Src.ofSlice w Tryz.underlying22 ad 1 c _ (by rw [hsz]; rfl) hn (by simp [Value.oneCell']);obtain ⟨hk, hkc, hrow⟩ := h;by_cases hroom : k < cap
 · obtain ⟨_, h⟩ | ⟨b, tl, rfl, ht, hr, hl⟩ := hrow
   · omega
   subst hk;have hex : ∀ j, j < cap * 2 -> (w.cell? ⟨b, j, none⟩).isSome = true := fun j hj => by rw [hr.cell, List.getElem?_eq_getElem (by omega)]; rfl
   refine ⟨_, _, _, run_append_room_src w 22 22 ty 37 i Tryz.underlying22 hi b 0 ps.length cap _ 1 _ hsrc (by omega) (fun j hj => hex _ ?_) (fun j _ => hr.free _), ?_, ?_, fun g hg => .inl hg⟩
   · rw [hsz]; simp at hj; omega
   · rw [hsz, Nat.zero_add];have h2 := hr.oN [.bool p.1, .slice p.2.1 p.2.2.1 p.2.2.2] (ps.length * 2);rw [zh hl hroom] at h2;refine ⟨by simp, by omega, .inr ⟨b, tl.drop 2, rfl, fun v hv => ht v (List.mem_of_mem_drop hv), h2, ?_⟩⟩;have hf := bg ps;rw [rn, List.length_append] at hl;rw [rn, List.length_append, bg]; simp; omega
   · rw [hsz, Nat.zero_add];exact (aN.oN [.bool p.1, .slice p.2.1 p.2.2.1 p.2.2.2] (ps.length * 2) (aN.refl (· = b) w)).mono (fun g _ e => by obtain rfl : g = b := e; exact ⟨0, rfl⟩)
 · obtain rfl : k = cap := by omega
   have hf := bg ps;have hold : (Builtin.firstCells i.size k (.slice ao k k)).run Tryz.prog w.drew = .ok (flat ps).toArray w.drew := by
    obtain ⟨rfl, h⟩ | ⟨b, tl, rfl, ht, hr, hl⟩ := hrow
    · obtain rfl : ps = [] := List.eq_nil_of_length_eq_zero (by omega);exact run_firstCells_none w.drew i.size k k k
    · refine run_firstCells_some w.drew i.size k _ k k (flat ps) (by rw [hsz]; omega) fun j v hj => ?_;have e : w.drew.cell? ((⟨b, 0, none⟩ : Addr).add j) = w.cell? ⟨b, j, none⟩ := by simp only [Addr.add]; by_cases hj0 : j = 0 <;> simp [hj0]
      rw [e, hr.cell, rn, List.getElem?_append_left (List.getElem?_eq_some_iff.1 hj).1]; exact hj
   refine ⟨_, _, _, run_append_grow_src w 22 22 ty 37 i (.agg #[.bool false, .slice none 0 0]) Tryz.underlying22 hi hz ao k k (flat ps) hold _ 1 _ hsrc (by omega) (by omega) (growslice_fits (by omega) (by rw [hby]; omega)), ⟨by simp [hk], grownCap_ge .., .inr ⟨_, (Builtin.zeroCells (Value.agg #[.bool false, .slice none 0 0]).cells (grownCap w (k + 1) k 37 - (k + 1))).toList, rfl, um _, ?_, ?_⟩⟩, aN.wy _ w _, fun g ⟨o, e⟩ => by cases e; exact .inr (Nat.le_refl _)⟩
   · have hnew := aa.new w.drew ((flat ps ++ [Value.bool p.1, .slice p.2.1 p.2.2.1 p.2.2.2]).toArray ++ Builtin.zeroCells (Value.agg #[.bool false, .slice none 0 0]).cells (grownCap w (k + 1) k 37 - (k + 1))) 37;rw [rn, j4];simpa [flat] using hnew
   · have hge := grownCap_ge w (k + 1) k 37;have hz2 : (Builtin.zeroCells (Value.agg #[.bool false, .slice none 0 0]).cells (grownCap w (k + 1) k 37 - (k + 1))).toList.length = (grownCap w (k + 1) k 37 - (k + 1)) * 2 := by rw [Array.length_toList, size_zeroCells]; rfl
     rw [rn, List.length_append, bg, List.length_append, hz2]; simp; omega
section
variable {ops : Array Oper} {Q : Exit -> Act -> World -> Prop} {ds : List Deferred} {S0 : Nat -> Prop} {w0 : World} {E0 : List En} {hd : List (List Nat)} {n j s : Nat} {l : List Nat} {G E : List En} {ls : List (Nat × Value)} {op : Op} {ty : TypeId} {pos : String} {af : Array Edge}
theorem Ad {i k cap g : Nat} {ao : Option Addr} {ps : List P4} {t : TypeId} {c : Nat} (p : P4) {sa xa : Operand} {E' : Option Addr × Nat -> List En} (hb : k <= 100000000)
 (hm : En.row g t [.bool p.1, .slice p.2.1 p.2.2.1 p.2.2.2] ∈ G ++ E)
 (k' : ∀ q, dy ds ⟨Tryz.prog, ops, Q, S0, w0, E0, hd⟩ n l G (E' q) ((s, .slice q.1 (k + 1) q.2) :: ls))
 (ho : ops[j]? = some ⟨some s, .call { callee := Callee.builtin Builtin.append, args := #[sa, xa], argTypes := #[22, 22] }, ty, pos, af, none⟩ := by rfl) (hk : (dK ls (.call { callee := Callee.builtin Builtin.append, args := #[sa, xa], argTypes := #[22, 22] }) && Nat.blt s n) = true := by kernel_rfl)
 (ha : cT ls sa = .slice ao k cap := by (simp only [bX, Nat.reduceEqDiff, ↓reduceIte]) <;> rfl)
 (hv : cT ls xa = .slice (some ⟨g, 0, none⟩) 1 c := by (simp only [bX, Nat.reduceEqDiff, ↓reduceIte, av]) <;> rfl)
 (hE : ∀ q, Up (.kY ao k cap ps) (.kY q.1 (k + 1) q.2 (ps ++ [p])) i E (E' q) := by intro q; repeat first | exact .z | apply Up.s)
 (hst : fo ops hd j [i] = true := by kernel_rfl) : dy ds ⟨Tryz.prog, ops, Q, S0, w0, E0, hd⟩ n (j :: l) G E ls := fun a hA => by
 simp only [Bool.and_eq_true] at hk;refine ⟨_, ho, .inr (.inr ⟨rfl, rfl, Option Addr × Nat, fun q => .slice q.1 (k + 1) q.2, fun _ => G, E', [i], ⟨(none, 0)⟩, fun X w hX hw => ?_, hst, fun q r hr => (hE q).other (by simpa using hr), fun q => k' q _ (hA.put (Nat.le_of_ble_eq_true hk.2) _)⟩)⟩;have hrow : aa w g t [.bool p.1, .slice p.2.1 p.2.2.1 p.2.2.2] := hw.all _ (List.mem_append_right _ hm);have hl : rR ao k cap ps w := by
  obtain ⟨m, h1, h2⟩ := (hE (none, 0)).right' X G;exact (hw.perm h1).all _ (List.mem_cons_self ..)
 obtain ⟨ao', cap', w', hrun, h1', hc, hS⟩ := yX (ty := ty) hl hb (ad := ⟨g, 0, none⟩) (c := c) (hrow.cell 0) (hrow.cell 1);obtain ⟨m, h1, h2⟩ := (hE (ao', cap')).right' X G;refine xK rfl ?_;show mK _ _ ((execOp a.eval _).run _ w);rw [hA.exec (o := ⟨some s, .call { callee := Callee.builtin Builtin.append, args := #[sa, xa], argTypes := #[22, 22] }, ty, pos, af, none⟩) hk.1];have e : (execOp (cT ls) ⟨some s, .call { callee := Callee.builtin Builtin.append, args := #[sa, xa], argTypes := #[22, 22] }, ty, pos, af, none⟩).run Tryz.prog w = .ok (.value (.slice ao' (k + 1) cap')) w' := by
  simp [execOp, resolve, invoke, builtin, ha, hv, hrun, Result.andThen]
 rw [e];refine ⟨(ao', cap'), rfl, Fr.perm ((hw.perm h1).cD (e := .kY ao k cap ps) (e' := .kY ao' (k + 1) cap' (ps ++ [p])) rfl hc (fun x hx _ => ?_) (fun _ h => h) h1' hS) h2.symm⟩;rintro b ⟨o, rfl⟩;obtain ⟨_, _, ⟨h, _⟩ | ⟨b', tl, h, ht, hr, _⟩⟩ := hl
 · cases h
 · cases h; exact ⟨_, _, hr, aI.rn ht, by decide⟩
end
section
variable {P : Program} {ops : Array Oper} {Q : Exit -> Act -> World -> Prop} {ds : List Deferred} {S0 : Nat -> Prop} {w0 : World} {E0 : List En} {hd : List (List Nat)} {n j s : Nat} {l : List Nat} {G E : List En} {ls : List (Nat × Value)} {op : Op} {ty : TypeId} {pos : String} {af : Array Edge} {f : FuncId} {args : Array Value}
end
section
variable {P : Program} {Q : Exit -> Act -> World -> Prop} {ds : List Deferred} {S0 : Nat -> Prop} {w0 : World} {n : Nat} {ls : List (Nat × Value)} {es : List En} {c : Code}
end
section
variable {P : Program} {ops : Array Oper} {Q : Exit -> Act -> World -> Prop} {ds : List Deferred} {S0 : Nat -> Prop} {w0 : World} {E0 : List En} {hd : List (List Nat)} {n j s : Nat} {l : List Nat} {G E : List En} {ls : List (Nat × Value)} {op : Op} {ty : TypeId} {pos : String} {af : Array Edge} {f : FuncId} {args : Array Value}
theorem bW {t : TypeId} {cs : List Value} {m : Nat} (k : ∀ g, dy ds ⟨P, ops, Q, S0, w0, E0, hd⟩ n l (.row g t cs :: G) E ((s, .slice (some ⟨g, 0, none⟩) m m) :: ls))
 (ho : ops[j]? = some ⟨some s, op, ty, pos, af, none⟩ := by rfl) (hk : (!bF op && cX op && dK ls op && Nat.blt s n) = true := by kernel_rfl)
 (hr : ∀ w, (execOp (cT ls) ⟨some s, op, ty, pos, af, none⟩).run P w = .ok (.value (.slice (some ⟨w.heap.size, 0, none⟩) m m)) (w.alloc (.cells cs.toArray t (0, 0))) := by intro w; (try simp only [av]); go_simp <;> with_reducible rfl) : dy ds ⟨P, ops, Q, S0, w0, E0, hd⟩ n (j :: l) G E ls := fun a ha => by
 simp only [Bool.and_eq_true, Bool.not_eq_true'] at hk;refine ⟨_, ho, .inr (.inl ⟨hk.1.1.1, hk.1.1.2, fun g => .slice (some ⟨g, 0, none⟩) m m, t, cs, ⟨rfl, fun w => ?_⟩, fun g => k g _ (ha.put (Nat.le_of_ble_eq_true hk.2) _)⟩)⟩;rw [ha.exec hk.1.2];exact hr w
end
theorem aL.pos {w : World} {L : Nat} {ao : Option Addr} {xs : List Int} (h : aL w L ao xs) {i : Nat} (hi : i < xs.length) : ∃ b o, ao = some ⟨b, o, none⟩ := by
 obtain ⟨b, o, e, _⟩ := h (by omega);exact ⟨b, o, e⟩
theorem oX {w : World} {ao : Option Addr} {k cap : Nat} {ps : List P4} {xs : List Int} (h : rR ao k cap ps w) (hn : bQ w ps xs) : ik w ao xs := fun hl => by
 obtain ⟨h1, _, ⟨_, h2⟩ | ⟨b, tl, rfl, ht, hr, _⟩⟩ := h
 · have := hn.1; omega
 · exact (aK.mk' hr ht hn).lsN hl
theorem uK {ls : List (Nat × Value)} {w : World} {t b : Nat} {x y z : Value} (h : aa w b 24 [x, y, z]) (h1 : eH ls (.tmp t) = true := by kernel_rfl) (h2 : cT ls (.tmp t) = .pointer (some ⟨b, 0, none⟩) := by (simp only [bX, Nat.reduceEqDiff, ↓reduceIte]) <;> rfl) : eJ Tryz.prog ls w (.cell t 24) (.agg #[x, y, z]) :=
 ⟨h1, _, h2, run_loadVar_row w b 24 24 #[x, y, z] (0, 0) _ h Tryz.underlying24 rfl (by kernel_rfl)⟩
theorem uz {w : World} {l : Nat} {o o' : Obj} (hl : w.heap[l]? = some o) (hn : o.isCells = false) {p : Addr} {v : Value} (h : w.cell? p = some v) : (w.putObj l o').cell? p = some v := by
 by_cases e : p.block = l
 · exfalso;unfold World.cell? at h;rw [e, hl] at h;cases o <;> simp_all [Obj.isCells]
 · exact (World.cell?_of_block (World.putObj_heap_other e)).trans h
theorem rq {w : World} {l : Nat} {o o' x : Obj} (hl : w.heap[l]? = some o) (hn : o.isCells = false) {b : Nat} (h : w.heap[b]? = some x) (hx : x.isCells = true) : (w.putObj l o').heap[b]? = some x := by
 by_cases e : b = l
 · subst e; rw [hl] at h; cases h; rw [hn] at hx; cases hx
 · rw [World.putObj_heap_other e]; exact h
theorem gT {w : World} {l : Nat} {o o' : Obj} (hl : w.heap[l]? = some o) (hn : o.isCells = false) {b : Nat} {t : TypeId} {cs : List Value} (h : aa w b t cs) : aa (w.putObj l o') b t cs := rq hl hn h rfl
theorem wN {w : World} {l : Nat} {o o' : Obj} (hl : w.heap[l]? = some o) (hn : o.isCells = false) {ao : Option Addr} {ws : List Nat} (h : cE w ao ws) : cE (w.putObj l o') ao ws := by
 refine ⟨h.1, fun hp => ?_⟩;obtain ⟨b, q, e, hb, hc⟩ := h.2 hp;exact ⟨b, q, e, by rw [show (w.putObj l o').heap.size = w.heap.size by simp]; exact hb, fun i hi => uz hl hn (hc i hi)⟩
theorem xF {w : World} {l : Nat} {o o' : Obj} (hl : w.heap[l]? = some o) (hn : o.isCells = false) {L : Nat} {v : Value} {x : Int} (h : ai w L v x) : ai (w.putObj l o') L v x := by
 obtain ⟨n, ao, len, cap, ws, e, hW, r⟩ := h;exact ⟨n, ao, len, cap, ws, e, wN hl hn hW, r⟩
theorem kO {w : World} {l : Nat} {o o' : Obj} (hl : w.heap[l]? = some o) (hn : o.isCells = false) {v : Value} {x : Int} (h : aH w v x) : aH (w.putObj l o') v x := ⟨xF hl hn h.1, h.2⟩
theorem ub {w : World} {l : Nat} {o o' : Obj} (hl : w.heap[l]? = some o) (hn : o.isCells = false) {b : Nat} {xs : List Int} (h : aK w b xs) : aK (w.putObj l o') b xs := by
 obtain ⟨ps, tl, nt, hr, hl', hN⟩ := h;exact ⟨ps, tl, nt, gT hl hn hr, hl', fun i h1 h2 => kO hl hn (hN i h1 h2)⟩
def Pz (e : En) : Prop := ∀ (w : World) (l : Nat) (o o' : Obj), w.heap[l]? = some o -> o.isCells = false -> e.F w -> e.F (w.putObj l o')
theorem Pz.row {b : Nat} {t : TypeId} {cs : List Value} : Pz (.row b t cs) := fun _ _ _ _ hl hn h => gT hl hn h
theorem Pz.own {B : Nat} {v : Value} {x : Int} : Pz (.own B v x) := fun w l o o' hl hn h => by
 obtain ⟨ao, cap, rfl, h1, h2, h3, h4⟩ := (h : aj w B v x);refine ⟨ao, cap, rfl, h1, h2, h3, h4.imp id ?_⟩;rintro ⟨g, c, cur, hv, hbb, hg, r⟩;exact ⟨g, c, cur, hv, hbb, rq hl hn hg rfl, r⟩
theorem Pz.ns {ps : List P4} {xs : List Int} : Pz (.ns ps xs) := fun _ _ _ _ hl hn h => ⟨h.1, fun i a => kO hl hn (h.2 i a)⟩
theorem Pz.kY {ao : Option Addr} {k cap : Nat} {ps : List P4} : Pz (.kY ao k cap ps) := fun w l o o' hl hn ⟨h1, h2, h⟩ => ⟨h1, h2, h.imp id fun ⟨b, tl, e, hn', hr, hl'⟩ => ⟨b, tl, e, hn', gT hl hn hr, hl'⟩⟩
theorem Pz.lg {te : TypeId} {sz : Nat} {ao : Option Addr} {k cap : Nat} {cs : List Value} : Pz (.lg te sz ao k cap cs) := fun w l o o' hl hn ⟨h1, h2, h⟩ => ⟨h1, h2, h.imp id fun ⟨b, tl, e, hn', hr, hl'⟩ => ⟨b, tl, e, hn', gT hl hn hr, hl'⟩⟩
theorem Pz.iR {x : Nat} {gs : List Nat} {E : List (List Int)} : Pz (.iR x gs E) := fun w l o o' hl hn h t ht hx => by
 obtain ⟨ps, tl, hn', hr, h1, h2⟩ := (h : y9 x gs E w) t ht hx;exact ⟨ps, tl, hn', gT hl hn hr, h1, fun i a => kO hl hn (h2 i a)⟩
def Cz (e : En) : Prop := ∀ w : World, e.F w -> e.wr = true -> ∀ b, e.S b -> ∃ t cs, aa w b t cs /\ aI cs
theorem Cz.row {b : Nat} {t : TypeId} {cs : List Value} (hn : aI cs := by repeat (first | exact aI.nil | exact fT _ | apply aI.bool | apply aI.slice | apply aI.i64 | apply aI.ptr | apply aI.append | unfold cl)) : Cz (.row b t cs) := fun w h _ g e => by cases (e : g = b); exact ⟨_, _, h, hn⟩
theorem Cz.no {e : En} (h : e.wr = false) : Cz e := fun _ _ h' => by rw [h] at h'; cases h'
theorem Cz.kY {ao : Option Addr} {k cap : Nat} {ps : List P4} : Cz (.kY ao k cap ps) := fun w ⟨_, _, h⟩ _ g ⟨o, e⟩ => by
 rcases h with ⟨h, _⟩ | ⟨b, tl, h, hn, hr, _⟩
 · rw [e] at h; cases h
 · rw [e] at h; cases h; exact ⟨_, _, hr, aI.rn hn⟩
theorem Cz.lg {te : TypeId} {sz : Nat} {ao : Option Addr} {k cap : Nat} {cs : List Value} (hc : aI cs) : Cz (.lg te sz ao k cap cs) := fun w ⟨_, _, h⟩ _ g ⟨o, e⟩ => by
 rcases h with ⟨h, _⟩ | ⟨b, tl, h, hn, hr, _⟩
 · rw [e] at h; cases h
 · rw [e] at h; cases h; exact ⟨_, _, hr, hc.append hn⟩
theorem Cz.iR {x : Nat} {gs : List Nat} {E : List (List Int)} : Cz (.iR x gs E) := fun w h _ g ⟨t, ht, hx, e⟩ => by
 obtain ⟨ps, tl, hn, hr, _⟩ := (h : y9 x gs E w) t ht hx;rw [e]; exact ⟨_, _, hr, aI.rn hn⟩
def Rz (es : List En) : Prop := ∀ e ∈ es, Pz e /\ Cz e
theorem Rz.nil : Rz [] := fun _ h => (List.not_mem_nil h).elim
theorem Rz.cons {e : En} {es : List En} (h1 : Pz e) (h2 : Cz e) (h : Rz es) : Rz (e :: es) := fun x hx => (List.mem_cons.1 hx).elim (fun q => q ▸ ⟨h1, h2⟩) (h x)
theorem Fr.uD {S0 : Nat -> Prop} {w0 w : World} {es : List En} (h : Fr S0 w0 w es) (hz : Rz es) {l : Nat} {o : Obj} (o' : Obj) (hl : w.heap[l]? = some o) (hn : o.isCells = false) (h0 : w0.heap.size <= l) : Fr S0 w0 (w.putObj l o') es :=
 ⟨⟨h.bs.os, h.bs.tape, h.bs.output, by have := h.bs.size; simpa using this, fun k hk hs => (World.putObj_heap_other (by omega)).trans (h.bs.block k hk hs)⟩, fun e he => (hz e he).1 w l o o' hl hn (h.all e he), h.sep, h.own⟩
theorem Fr.comp {S0 S : Nat -> Prop} {w0 w W : World} {es es' : List En} (h : Fr S0 w0 w es) (h' : Fr S w W es') (hs : ∀ b, S b -> S0 b ∨ w0.heap.size <= b) : Fr S0 w0 W es' :=
 ⟨⟨h'.bs.os.trans h.bs.os, h'.bs.tape.trans h.bs.tape, h'.bs.output.trans h.bs.output, Nat.le_trans h.size h'.size, fun k hk hn => (h'.bs.block k (Nat.lt_of_lt_of_le hk h.size) (fun q => (hs k q).elim hn (by omega))).trans (h.bs.block k hk hn)⟩, h'.all, h'.sep, fun e he hw b hb => (h'.own e he hw b hb).elim (hs b) (fun q => .inr (Nat.le_trans h.size q))⟩
def sC (es : List En) (b : Nat) : Prop := ∃ e ∈ es, e.wr = true /\ e.S b
theorem Fr.self {S0 : Nat -> Prop} {w0 w : World} {es : List En} (h : Fr S0 w0 w es) : Fr (sC es) w w es := ⟨aN.refl _ _, h.all, h.sep, fun e he hw b hb => .inl ⟨e, he, hw, hb⟩⟩
theorem Fr.sC {S0 : Nat -> Prop} {w0 w : World} {es : List En} (h : Fr S0 w0 w es) : ∀ b, Go.Proofs.YtjjlmfmoihooiaaGreat.sC es b -> S0 b ∨ w0.heap.size <= b := fun b ⟨e, he, hw, hb⟩ => h.own e he hw b hb
theorem Aq {S : Nat -> Prop} {w w' : World} (h : aN S w w') (hS : ∀ b, S b -> ∃ o, w.heap[b]? = some o /\ o.isCells = true) : KeepsOthers w w' := ⟨h.size, fun k o hk hn => by
 have hlt := (Array.getElem?_eq_some_iff.1 hk).1;rw [h.block k hlt (fun q => by
  obtain ⟨x, hx, hc⟩ := hS k q;rw [hk] at hx; cases hx; rw [hn] at hc; cases hc)]
 exact hk⟩
theorem xj {S S' : Nat -> Prop} {w w' : World} {B : Nat} (h : aN S' w w') (hB : B <= w.heap.size) (hS : ∀ b, S' b -> b < B -> S b) : dL B S w w' := ⟨h.os, h.tape, h.output, h.size, fun k hk hn => h.block k (by omega) fun q => hn (hS k q hk)⟩
abbrev mkD (D : Nat) : Deferred := { target := .collected D, args := #[] }
abbrev En.uB (B D : Nat) : En := .fact false false (· = D) (fun w => w.heap[D]? = some (.deferred (some [])) /\ B <= D) (fun h b e => by cases e; exact (Array.getElem?_eq_some_iff.1 h.1).1)
 (fun {w w' T} h hc _ hs => ⟨(hc.block D (Array.getElem?_eq_some_iff.1 h.1).1 (hs D rfl)).trans h.1, h.2⟩)
theorem qf {α : Type} {P : Program} {n : Nat} {g : Operand} {ps : Array Tmp} {assign body : Code} {Q : Exit -> Act -> World -> Prop} {a : Act} {w : World}
 {gf : Nat} {lb : Array Value} (hg : a.eval g = .func (.func gf) #[] lb) (eg : ∀ args w, (callFunc gf args).run P w = .ok (.enter gf args) w)
 {encs : α -> Array Value} (hps : ∀ x, (encs x).size = ps.size) (S : Nat -> Prop) (N : Nat) (Sx : List α -> Prop)
 (E : List α -> α -> World -> Prop) (I : List α -> World -> Prop)
 (hE : ∀ s x W l o o', E s x W -> w.heap.size <= l -> W.heap[l]? = some o -> o.isCells = false -> E s x (W.putObj l o'))
 (hIl : ∀ s W l o o', I s W -> w.heap.size <= l -> W.heap[l]? = some o -> o.isCells = false -> I s (W.putObj l o'))
 (hIb : ∀ s A B, I s A -> Below A.heap.size A B -> I s B) (h0 : I [] w) (A1 : α -> Act -> Prop) (hEb : ∀ s x A B, E s x A -> Below A.heap.size A B -> E s x B)
 (hseq : ∀ (l : Nat) (J : List α -> World -> Prop) (W : World), Below w.heap.size w W -> (∀ s A B, J s A -> Below A.heap.size A B -> J s B) -> (∀ s A, J s A -> I s A) ->
  (∀ pre x W1, J pre W1 -> E pre x W1 -> pre.length < N -> YieldAt Fence.wide (n - 1 - 1) P l (encs x) W1 fun e W' => e = .returned (.bool true) /\ J (pre ++ [x]) W' /\ dL w.heap.size S W1 W') ->
  J [] W -> CallsIn Fence.wide (n - 1) P gf (#[.func (.yield l) #[] #[]] ++ lb) W fun e W' => (∃ v, e = .returned v) /\ ∃ xs, Sx xs /\ J xs W')
 (hassign : ∀ (l : Nat) (pre : List α) (x : α) (W : World) (K : Act -> World -> Prop), E pre x W -> (∀ a1 W1, A1 x a1 -> Below W.heap.size W W1 -> K a1 W1) ->
  assign.wpIn (Fence.wide.inRound l) (n - 1 - 1) P (Exit.then K (fun _ _ _ => False)) { tmps := (ps.zip (encs x)).foldl (fun t (p, v) => t.setIfInBounds p v) a.tmps, defers := [] } W)
 (hbody : ∀ (l : Nat) (pre : List α) (x : α) (W : World) (a1 : Act), A1 x a1 -> I pre W -> E pre x W -> pre.length < N -> body.wpIn (Fence.wide.inRound l) (n - 1 - 1) P (qy w.heap.size S I (pre ++ [x]) W) a1 W)
 (hdone : ∀ (D : Nat) (xs : List α) (W : World), w.heap.size <= D -> Sx xs -> I xs W -> W.heap[D]? = some (.deferred (some [])) -> Q .normal { a with defers := { target := .collected D, args := #[] } :: a.defers } W) :
 (Code.rangeFunc g ps assign body).wpIn Fence.wide n P Q a w := by
 refine wpIn_rangeFunc ?_;intro fn hfn;obtain ⟨R, hR⟩ : ∃ R : LoopState -> Option Code -> Loop, R = fun st pe => { state := st, pending := pe, fn, tmps := a.tmps, params := ps, assign, body, defers := w.heap.size } := ⟨_, rfl⟩;have hz0 : (w.alloc (.deferred (some []))).heap.size = w.heap.size + 1 := by simp
 have hbA : Below w.heap.size w (w.alloc (.deferred (some []))) := (Below.refl _ _).alloc (Nat.le_refl _) _;have hbB : Below (w.heap.size + 1) (w.alloc (.deferred (some []))) ((w.alloc (.deferred (some []))).alloc (.loop (R .ready none))) := (Below.refl _ _).alloc (by simp) _;have hl0 : ((w.alloc (.deferred (some []))).alloc (.loop (R .ready none))).heap[w.heap.size + 1]? = some (.loop (R .ready none)) := by
  have := World.alloc_heap_new (w.alloc (.deferred (some []))) (.loop (R .ready none)); rwa [World.size_alloc] at this
 have hd0 : ((w.alloc (.deferred (some []))).alloc (.loop (R .ready none))).heap[w.heap.size]? = some (.deferred (some [])) :=
  (hbB.block _ (by omega)).trans (World.alloc_heap_new w _)
 have hen := run_enterLoop_outer (P := P) (w := w) fn a.tmps ps assign body;have hI1 : I [] ((w.alloc (.deferred (some []))).alloc (.loop (R .ready none))) := hIb _ _ _ (hIb _ _ _ h0 hbA) (by rw [hz0]; exact hbB);have hbw : Below w.heap.size w ((w.alloc (.deferred (some []))).alloc (.loop (R .ready none))) := hbA.trans (hbB.mono (by omega));rw [show ({ state := .ready, pending := none, fn, tmps := a.tmps, params := ps, assign, body, defers := w.heap.size } : Loop) = R .ready none by rw [hR]] at hen;generalize (w.alloc (.deferred (some []))).alloc (.loop (R .ready none)) = W0 at *;refine ⟨w.heap.size + 1, [{ target := .collected w.heap.size, args := #[] }], W0, { target := .fn (.func gf) lb, args := #[.func (.yield (w.heap.size + 1)) #[] #[]] }, W0, gf,
  #[.func (.yield (w.heap.size + 1)) #[] #[]] ++ lb, W0, hen, ?_, fun _ _ => trivial, by simp [invoke, go_sem, eg], fun h => absurd h (by decide), ?_⟩
 · simp only [resolve, hg];simp [go_sem]
 have hlp : ∀ st pe, (Obj.loop (R st pe)).isCells = false := fun _ _ => rfl;refine (hseq (w.heap.size + 1) (fun pre W => I pre W /\ W.heap[w.heap.size + 1]? = some (.loop (R .ready none)) /\ W.heap[w.heap.size]? = some (.deferred (some []))) W0 hbw ?_ (fun _ _ h => h.1) ?_ ⟨hI1, hl0, hd0⟩).mono ?_
 · rintro s A B ⟨h1, h2, h3⟩ hb;exact ⟨hIb _ _ _ h1 hb, (hb.block _ (Array.getElem?_eq_some_iff.1 h2).1).trans h2, (hb.block _ (Array.getElem?_eq_some_iff.1 h3).1).trans h3⟩
 · rintro pre x W ⟨hi, hl, hd⟩ hx hlen;have hlt : w.heap.size + 1 < W.heap.size := (Array.getElem?_eq_some_iff.1 hl).1;have hy := run_yield (P := P) (args := encs x) hl (by rw [hR]; exact hps x);have hle : w.heap.size <= w.heap.size + 1 := by omega
   rw [hR] at hy;refine ⟨fn, _, assign, body, hy, roundIn_of_wpIn hfn (hassign _ pre x W _ hx fun a1 W1 hA1 hB1 => ?_)⟩;have hl := (hB1.block _ (Array.getElem?_eq_some_iff.1 hl).1).trans hl;have hd := (hB1.block _ (Array.getElem?_eq_some_iff.1 hd).1).trans hd;have hi := hIb _ _ _ hi hB1;have hx := hEb _ _ _ _ hx hB1;have hlt : w.heap.size + 1 < W1.heap.size := (Array.getElem?_eq_some_iff.1 hl).1;have hbg := run_beginRound (P := P) hl (by rw [hR]);rw [hR] at hbg;refine ⟨_, hbg, ?_⟩;have hl2 : (W1.putObj (w.heap.size + 1) (.loop (R .busy none))).heap[w.heap.size + 1]? = some (.loop (R .busy none)) := World.putObj_heap_same hlt;have hd2 : (W1.putObj (w.heap.size + 1) (.loop (R .busy none))).heap[w.heap.size]? = some (.deferred (some [])) := (World.putObj_heap_other (by omega)).trans hd;have hk2 : dL w.heap.size S W (W1.putObj (w.heap.size + 1) (.loop (R .busy none))) := (dL.aU (hB1.mono (by omega))).trans (dL.putObj W1 _ hle);have hi2 := hIl pre W1 (w.heap.size + 1) _ (.loop (R .busy none)) hi hle hl rfl;have hx2 := hE pre x W1 (w.heap.size + 1) _ (.loop (R .busy none)) hx hle hl rfl;rw [show ({ state := .busy, pending := none, fn, tmps := a.tmps, params := ps, assign, body, defers := w.heap.size } : Loop) = R .busy none by rw [hR]];generalize W1.putObj (w.heap.size + 1) (.loop (R .busy none)) = W2 at *;refine wpIn_mono (hbody (w.heap.size + 1) pre x W2 a1 hA1 hi2 hx2 hlen) ?_;intro e a3 W3 hp;cases e with
   | normal =>
    obtain ⟨hk3, hkp3, hi3⟩ := hp;have hl3 := hk3.same _ _ hl2 rfl;have hd3 := hk3.same _ _ hd2 rfl;have hend := run_endRound (P := P) none hl3;rw [hR] at hend;refine ⟨_, _, hend, rfl, ⟨hIl _ _ _ _ _ hi3 hle hl3 rfl, ?_, ?_⟩, ?_⟩
    · rw [World.putObj_heap_same (Array.getElem?_eq_some_iff.1 hl3).1, hR]; rfl
    · exact (World.putObj_heap_other (by omega)).trans hd3
    · exact hk2.trans (hkp3.trans (dL.putObj _ _ hle))
   | ret => exact hp.elim
   | exit id => exact hp.elim
   | goto t => exact hp.elim
   | panic ch => exact hp.elim
   | outgrown => exact hp.elim
 · rintro e W2 ⟨⟨v, rfl⟩, xs, hS, hi, hl, hd⟩;have hle : w.heap.size <= w.heap.size + 1 := by omega
   have hend := run_endLoop (P := P) hl (by rw [hR]; simp);rw [hR] at hend;exact ⟨none, _, hend, hdone _ xs _ (Nat.le_refl _) hS (hIl _ _ _ _ _ hi hle hl rfl) ((World.putObj_heap_other (by omega)).trans hd)⟩
theorem uX {l N : Nat} {P : Program} {c : Code} {q : Act -> World -> Prop} {K : Act -> World -> Prop} {a : Act} {w : World} (h : c.wpIn (ve l) N P (Exit.then q (fun _ _ _ => False)) a w) (hk : ∀ a w, q a w -> K a w) : c.wpIn (ve l) N P (Exit.then K (fun _ _ _ => False)) a w :=
 wpIn_mono h fun e a w hq => by
  cases e with
  | normal => exact hk _ _ hq
  | _ => exact hq
def rdQ {X : Type} (I : X -> Prop) (S' : Nat -> Prop) (W : World) (ex : X -> List En) : Exit -> Act -> World -> Prop
 | .normal, _, w => ∃ y, I y /\ Fr S' W w (ex y)
 | _, _, _ => False
theorem rdE {X : Type} {I : X -> Prop} {S' : Nat -> Prop} {W : World} {ex : X -> List En} {n : Nat} {ls : List (Nat × Value)} {es : List En} (y : X) (h : I y) (he : ∀ w, Fr S' W w es -> Fr S' W w (ex y) := by intro w h; first | exact h | exact h.pick (by repeat (first | exact Pk.n | refine Pk.c (by repeat (first | exact Rm.z | apply Rm.s)) ?_))) : QW n S' W (rdQ I S' W ex) .normal ls es := fun a w _ hw => ⟨y, h, he w hw⟩
theorem asgE {n : Nat} {ls lw : List (Nat × Value)} {W : World} {es : List En} {Qx : Exit -> Act -> World -> Prop} (hs : ∀ a, Sl n ls a -> Sl n lw a := by intro a h; refine h.sub ?_; simp [eH, bX]) : QW n (fun _ => False) W (Exit.then (fun a1 w1 => Sl n lw a1 /\ Below W.heap.size W w1) Qx) .normal ls es := fun a w ha hw => ⟨hs a ha, hw.below⟩
theorem tt {X : Type} {n : Nat} {ls : List (Nat × Value)} {es : List En} {S0 : Nat -> Prop} {w0 : World} {Q : Exit -> Act -> World -> Prop} {gop : Operand} {p1 p2 : Nat} {assign body : Code} {gb b r c m : Nat} {ps : List P4} {tl : List Value} {xs : List Int}
 (I : Nat -> X -> Prop) (ex : X -> List En) (ex2 : Nat -> X -> List En) (x0 : X) (la : Nat -> Nat -> List (Nat × Value)) (hr : r <= 64) (hc : c <= 64) (hs : xs.length = r * c) (hm : xs.length = m) (hL : ∀ x ∈ xs, ag x.natAbs <= 17592186044415) (ht : aI tl) (h0 : I 0 x0)
 (asg : ∀ (l k g : Nat) (W : World), CI l 4 Tryz.prog n (fun _ => False) W assign (Exit.then (fun a1 w1 => Sl n (la k g) a1 /\ Below W.heap.size W w1) (fun _ _ _ => False)) ((p2, .slice (some ⟨g, 0, none⟩) c c) :: (p1, .int .i64 (k : Int)) :: ls) [])
 (round : ∀ (l k : Nat) (x : X) (g : Nat) (qs : List P4) (tk : List Value) (S' : Nat -> Prop) (W : World), I k x -> k < r -> aI tk -> CI l 4 Tryz.prog n S' W body (rdQ (I (k + 1)) S' W ex) (la k g) (.row g 37 (rn qs tk) :: .ns qs (rowOf xs c k) :: ex x))
 (k : ∀ D x, I r x -> n5 [mkD D] n S0 w0 Q .normal ls (ex2 D x))
 (hz : ∀ x, Rz (ex x))
 (he : ∀ w, Fr S0 w0 w es -> Fr S0 w0 w (.row gb 24 [.int .i64 (r : Int), .int .i64 (c : Int), .slice (some ⟨b, 0, none⟩) m m] :: .row b 37 (rn ps tl) :: .ns ps xs :: ex x0) := by intro w h; first | exact h | exact h.pick (by repeat (first | exact Pk.n | refine Pk.c (by repeat (first | exact Rm.z | apply Rm.s)) ?_)))
 (hx2 : ∀ D x, ex x ++ [.uB w0.heap.size D] = ex2 D x := by intro D x; rfl)
 (hgi : eH ls gop = true := by kernel_rfl) (hg : cT ls gop = .func (.func 89) #[] #[.pointer (some ⟨gb, 0, none⟩)] := by (simp only [bX, Nat.reduceEqDiff, ↓reduceIte]) <;> rfl)
 (hp : (Nat.blt p1 n && Nat.blt p2 n && !(p1 == p2) && ls.all fun q => !(q.1 == p1) && !(q.1 == p2)) = true := by kernel_rfl) :
 CW Tryz.prog n S0 w0 (.rangeFunc gop #[p1, p2] assign body) Q ls es := fun a w ha hw => by
 subst hm;simp only [Bool.and_eq_true, Bool.not_eq_true', beq_eq_false_iff_ne] at hp;obtain ⟨⟨⟨hp1, hp2⟩, hp3⟩, hp4⟩ := hp;have hp1 := Nat.le_of_ble_eq_true hp1;have hp2 := Nat.le_of_ble_eq_true hp2;have H := he w hw;have Hx := H.tl.tl.tl;have hgR : aa w gb 24 [.int .i64 (r : Int), .int .i64 (c : Int), .slice (some ⟨b, 0, none⟩) xs.length xs.length] := H.m0;have hbR : aK w b xs := ⟨ps, tl, ht, H.m1, (H.m2 : bQ w ps xs).1, fun i h1 h2 => by
  have := (H.m2 : bQ w ps xs).2 i h1;rw [gV h1, c7 h2] at this; exact this⟩
 have hp := List.pairwise_cons.1 H.sep;have hq := List.pairwise_cons.1 hp.2;have hgS : ¬ sC (ex x0) gb := fun ⟨e, h1, h2, h3⟩ => (hp.1 e (List.mem_cons_of_mem _ (List.mem_cons_of_mem _ h1))).2 h2 gb h3 rfl;have hbS : ¬ sC (ex x0) b := fun ⟨e, h1, h2, h3⟩ => (hq.1 e (List.mem_cons_of_mem _ h1)).2 h2 b h3 rfl;refine (wpIn_wide (n := 6)).1 ?_;refine qf (S := sC (ex x0)) (N := r) (Sx := th r c xs) (E := fun pre x W => tL w.heap.size pre x W /\ x = (pre.length, ⟨x.2.blk, c, rowOf xs c pre.length⟩) /\ pre.length < r /\ ∃ y, I pre.length y /\ Fr (sC (ex x0)) w W (ex y) /\ ∀ e ∈ ex y, ∀ b, e.S b -> b < x.2.blk)
  (I := fun pre W => ∃ y, I pre.length y /\ Fr (sC (ex x0)) w W (ex y)) (gf := 89) (lb := #[.pointer (some ⟨gb, 0, none⟩)]) (encs := NR.enc) ((ha.ev hgi).trans hg) (enters_of Tryz.func89 (by kernel_rfl) rfl) (fun _ => rfl) ?hE ?hIl ?hIb ⟨x0, h0, Hx.self⟩
  (fun x a1 => Sl n (la x.1 x.2.blk) a1) ?hEb ?hseq ?hassign ?hbody ?hdone
 case hE =>
  rintro s x W l o o' ⟨h1, h2, h3, y, h4, h5, h6⟩ hl ho hn;exact ⟨⟨ub ho hn h1.1, h1.2⟩, h2, h3, y, h4, h5.uD (hz y) o' ho hn hl, h6⟩
 case hIl =>
  rintro s W l o o' ⟨y, h4, h5⟩ hl ho hn;exact ⟨y, h4, h5.uD (hz y) o' ho hn hl⟩
 case hIb =>
  rintro s A B ⟨y, h4, h5⟩ hb;exact ⟨y, h4, h5.grow hb⟩
 case hEb =>
  rintro s x A B ⟨h1, h2, h3, y, h4, h5, h6⟩ hb;exact ⟨⟨h1.1.below hb, h1.2⟩, h2, h3, y, h4, h5.grow hb, h6⟩
 case hseq =>
  intro l J W hW hJ hJI hY hJ0;exact kE 5 gb b r c xs w _ (fun b ⟨e, h1, h2, h3⟩ => (hz x0 e h1).2 w (Hx.all e h1) h2 b h3) hgR hgS hbR hbS hs (by omega) (by omega) hL l J W hW hJ (fun pre x Wp W1 hj hB hle hx hxe hl => hY pre x W1 (hJ _ _ _ hj hB) ⟨hx, hxe, hl, by
   obtain ⟨y, hy, hf⟩ := hJI _ _ hj;exact ⟨y, hy, hf.grow hB, fun e he b hb => Nat.lt_of_lt_of_le (En.lt (hf.all e he) b hb) hle⟩⟩ hl) hJ0 (by omega)
 case hassign =>
  rintro l pre ⟨k', hd⟩ W K ⟨_, hxe, hlt, _⟩ hK;have e1 : hd = ⟨hd.blk, c, rowOf xs c pre.length⟩ := congrArg Prod.snd hxe;have hlen : hd.xs.length = c := by rw [e1]; exact bO hs hlt
  have hcap : hd.cap = c := by rw [e1]
  refine uX (asg l k' hd.blk W _ W ⟨rfl, ?_, fun q hq' => ?_⟩ (Fr.nil _ W)) fun a1 w1 ⟨h1, h2⟩ => hK a1 w1 h1 h2
  · simp [NR.enc, ha.sz]
  · have hsz := ha.sz;simp only [NR.enc, hlen, hcap];have e9 : ∀ u v : Value, Array.foldl (fun t (x : Nat × Value) => t.setIfInBounds x.1 x.2) a.tmps (#[p1, p2].zip #[u, v]) = (a.tmps.setIfInBounds p1 u).setIfInBounds p2 v := fun u v => by simp
    rw [e9];rcases List.mem_cons.1 hq' with rfl | hq'
    · rw [bX.2.2.2, if_pos rfl];exact Array.getElem?_setIfInBounds_self_of_lt (by rw [Array.size_setIfInBounds, hsz]; exact hp2)
    · rcases List.mem_cons.1 hq' with rfl | hq'
      · rw [bX.2.2.2, if_neg hp3, bX.2.2.2, if_pos rfl, Array.getElem?_setIfInBounds_ne (fun e => hp3 e.symm)];exact Array.getElem?_setIfInBounds_self_of_lt (by rw [hsz]; exact hp1)
      · have h4 := List.all_eq_true.1 hp4 q hq';simp only [Bool.and_eq_true, Bool.not_eq_true', beq_eq_false_iff_ne] at h4;rw [bX.2.2.2, if_neg h4.2, bX.2.2.2, if_neg h4.1, Array.getElem?_setIfInBounds_ne (fun e => h4.2 e.symm), Array.getElem?_setIfInBounds_ne (fun e => h4.1 e.symm)];exact ha.vs q hq'
 case hbody =>
  rintro l pre ⟨k', hd⟩ W a1 hA1 _ ⟨hH, hxe, hlt, y, hy, hf, hbl⟩ _;have e0 : k' = pre.length := congrArg Prod.fst hxe;have e1 : hd = ⟨hd.blk, c, rowOf xs c pre.length⟩ := congrArg Prod.snd hxe;subst e0;obtain ⟨hrow, hge, _⟩ := hH
  replace hrow : aK W hd.blk hd.xs := hrow
  rw [show hd.xs = rowOf xs c pre.length by rw [e1]] at hrow
  replace hge : w.heap.size <= hd.blk := hge
  replace hbl : ∀ e ∈ ex y, ∀ b, e.S b -> b < hd.blk := hbl
  obtain ⟨qs, tk, nt, hr1, hl1, hN1⟩ := hrow;have f1 : Fr (sC (ex x0)) w W (.ns qs (rowOf xs c pre.length) :: ex y) := hf.pure ⟨hl1, fun i h => by rw [gV h, c7 (by rw [<- hl1]; exact h)]; exact hN1 i h (by rw [<- hl1]; exact h)⟩ (fun _ h => h);have f2 : Fr (sC (ex x0)) w W (.row hd.blk 37 (rn qs tk) :: .ns qs (rowOf xs c pre.length) :: ex y) := f1.cons hr1 (fun e' he' => by
   rcases List.mem_cons.1 he' with rfl | he'
   · exact ⟨fun _ _ _ h => h, fun _ _ h => h.elim⟩
   · exact ⟨fun _ b hb h => by cases (hb : b = hd.blk); exact Nat.lt_irrefl _ (hbl e' he' _ h), fun _ b h hb => by cases (hb : b = hd.blk); exact Nat.lt_irrefl _ (hbl e' he' _ h)⟩) (fun _ b hb => by cases (hb : b = hd.blk); exact .inr hge)
  refine wpIn_mono (round l pre.length y hd.blk qs tk _ W hy hlt nt a1 W hA1 f2.self) fun e a' W' hq => ?_;cases e with
  | normal =>
   obtain ⟨y', hy', hf'⟩ := hq;have hsw : ∀ b, sC (.row hd.blk 37 (rn qs tk) :: .ns qs (rowOf xs c pre.length) :: ex y) b -> b = hd.blk ∨ sC (ex y) b := fun b ⟨e, he', h1, h2⟩ => by
    rcases List.mem_cons.1 he' with rfl | he'
    · exact .inl h2
    · rcases List.mem_cons.1 he' with rfl | he'
      · exact h2.elim
      · exact .inr ⟨e, he', h1, h2⟩
   refine ⟨Aq hf'.bs fun b hb => ?_, xj hf'.bs hf.size fun b hb hlt' => ?_, y', by rw [List.length_append]; exact hy', hf.comp hf' fun b hb => ?_⟩
   · rcases hsw b hb with rfl | ⟨e, he', h1, h2⟩
     · exact ⟨_, hr1, rfl⟩
     · obtain ⟨t, cs, hr2, _⟩ := (hz y e he').2 W (hf.all e he') h1 b h2;exact ⟨_, hr2, rfl⟩
   · rcases hsw b hb with rfl | h
     · omega
     · exact (hf.sC b h).resolve_right (by omega)
   · rcases hsw b hb with rfl | h
     · exact .inr hge
     · exact hf.sC b h
  | _ => exact hq.elim
 case hdone =>
  rintro D zs W hD hS ⟨y, hy, hf⟩ hK;have hl : zs.length = r := hS.1;rw [hl] at hy;refine k D y hy _ W ⟨by show mkD D :: a.defers = _; rw [ha.df], ha.sz, ha.vs⟩ ?_;rw [<- hx2];have f1 : Fr S0 w0 W (ex y) := Hx.comp hf Hx.sC;have f2 : Fr S0 w0 W (.uB w0.heap.size D :: ex y) := f1.cons ⟨hK, Nat.le_trans hw.size hD⟩ (fun e' he' => ⟨fun h => (nomatch h), fun h1 b h2 h3 => by
   cases (h3 : b = D);obtain ⟨t, cs, ho, _⟩ := (hz y e' he').2 W (f1.all e' he') h1 _ h2;unfold aa at ho;rw [hK] at ho; cases ho⟩) (fun h => (nomatch h))
  exact f2.perm (List.perm_append_singleton (.uB w0.heap.size D) (ex y)).symm
theorem zD {P : Program} {S0 : Nat -> Prop} {es : List En} {ls : List (Nat × Value)} {f : FuncId} {fn : Func} {c : Code} {vs : List Value} {w : World} {R : Ending -> World -> Prop} (hf : P.funcs[f]? = some fn) (H : Fr S0 w w es) (k : CW P fn.ntmps S0 w c (bodyPostM Fence.wide 6 P fn R) ls es) (hb : fn.body = some c := by rfl) (hl : ql 0 vs = ls := by (try simp only [ql, Nat.reduceAdd, av]); rfl) (hn : Nat.ble vs.length fn.ntmps = true := by kernel_rfl) : Calls P f vs.toArray w R := by
 have hn := Nat.le_of_ble_eq_true hn;subst hl;refine callsIn_wide.1 (callsIn_of_wp_marks (n := 6) hf hb trivial (wpIn_wide.2 (k _ w ⟨rfl, by simp; omega, fun p hp => ?_⟩ H)) rfl);obtain ⟨_, h1, h2⟩ := nh vs 0 p hp;rw [h2];have hlt := (List.getElem?_eq_some_iff.1 h1).1;rw [Nat.sub_zero] at h1 hlt;simp only [Array.getElem?_append, List.size_toArray, hlt, if_true, List.getElem?_toArray];exact h1
section
variable {P : Program} {S0 : Nat -> Prop} {w0 : World} {n : Nat} {ls : List (Nat × Value)} {es : List En} {fn : Func} {R : Ending -> World -> Prop}
theorem eJ.runM {a : Act} {w : World} {r : ResultVar} {v : Value} (h : ∀ t, eH ls (.tmp t) = true -> a.tmps[t]? = some (cT ls (.tmp t))) (hr : eJ P ls w r v) : (∃ t, r = .tmp t /\ a.tmps[t]? = some v) ∨ ∃ t ty ad, r = .cell t ty /\ a.tmps[t]? = some (.pointer (some ad)) /\ (loadVar ty ad).run P w = .ok v w := by
 cases r with
 | tmp t => exact .inl ⟨t, rfl, (h t hr.1).trans (by rw [hr.2])⟩
 | cell t ty =>
  obtain ⟨h1, ad, h2, h3⟩ := hr;exact .inr ⟨t, ty, ad, rfl, (h t h1).trans (by rw [h2]), h3⟩
theorem res1 {a : Act} {w : World} {r : ResultVar} {v : Value} (h : fn.results = #[r]) (hs : ∀ t, eH ls (.tmp t) = true -> a.tmps[t]? = some (cT ls (.tmp t))) (h1 : eJ P ls w r v) : (results fn a.tmps).run P w = .ok v w := by
 rcases h1.runM hs with ⟨t, rfl, e⟩ | ⟨t, ty, ad, rfl, e, e'⟩ <;> simp [results, h, asAddr, *]
theorem res2 {a : Act} {w : World} {r r' : ResultVar} {v v' : Value} (h : fn.results = #[r, r']) (hs : ∀ t, eH ls (.tmp t) = true -> a.tmps[t]? = some (cT ls (.tmp t))) (h1 : eJ P ls w r v) (h2 : eJ P ls w r' v') : (results fn a.tmps).run P w = .ok (.tuple #[v, v']) w := by
 rcases h1.runM hs with ⟨t, rfl, e⟩ | ⟨t, ty, ad, rfl, e, e'⟩ <;> rcases h2.runM hs with ⟨t2, rfl, f⟩ | ⟨t2, ty2, ad2, rfl, f, f'⟩ <;> simp [results, h, asAddr, *]
theorem fin1M {D : Nat} {es' : List En} {r : ResultVar} (k : ∀ w, Fr S0 w0 w es' -> ∃ v, eJ P ls w r v /\ R (.returned v) w) (hz : Rz es') (hD : En.uB w0.heap.size D ∈ es) (he : ∀ w, Fr S0 w0 w es -> Fr S0 w0 w es' := by intro w h; exact h.pick (by repeat (first | exact Pk.n | refine Pk.c (by repeat (first | exact Rm.z | apply Rm.s)) ?_))) (h : fn.results = #[r] := by rfl) : n5 [mkD D] n S0 w0 (bodyPostM Fence.wide 6 P fn R) .ret ls es := fun a w ha hw => by
 obtain ⟨hK, hB⟩ := (hw.all _ hD : w.heap[D]? = some (.deferred (some [])) /\ w0.heap.size <= D);show LeavesInM Fence.wide 6 P fn a.tmps R a.defers .returning w;rw [ha.df];refine ⟨by simp, .inl ⟨_, _, rfl, run_takeDeferred hK, ?_⟩⟩;obtain ⟨v, h1, hR⟩ := k _ ((he w hw).uD hz _ hK rfl hB);exact ⟨v, res1 h (fun t => ha.tmp) h1, hR⟩
theorem fin2M {D : Nat} {es' : List En} {r r' : ResultVar} (k : ∀ w, Fr S0 w0 w es' -> ∃ v v', eJ P ls w r v /\ eJ P ls w r' v' /\ R (.returned (.tuple #[v, v'])) w) (hz : Rz es') (hD : En.uB w0.heap.size D ∈ es) (he : ∀ w, Fr S0 w0 w es -> Fr S0 w0 w es' := by intro w h; exact h.pick (by repeat (first | exact Pk.n | refine Pk.c (by repeat (first | exact Rm.z | apply Rm.s)) ?_))) (h : fn.results = #[r, r'] := by rfl) : n5 [mkD D] n S0 w0 (bodyPostM Fence.wide 6 P fn R) .ret ls es := fun a w ha hw => by
 obtain ⟨hK, hB⟩ := (hw.all _ hD : w.heap[D]? = some (.deferred (some [])) /\ w0.heap.size <= D);show LeavesInM Fence.wide 6 P fn a.tmps R a.defers .returning w;rw [ha.df];refine ⟨by simp, .inl ⟨_, _, rfl, run_takeDeferred hK, ?_⟩⟩;obtain ⟨v, v', h1, h2, hR⟩ := k _ ((he w hw).uD hz _ hK rfl hB);exact ⟨_, res2 h (fun t => ha.tmp) h1 h2, hR⟩
end
theorem qF (r c n : Nat) (ao : Option Addr) (cap : Nat) (xs : List Int) (w : World) (hr : r <= 64) (hc : c <= 64) (h : aL w 17592186044415 ao xs) (hs : xs.length = r * c) (hn : xs.length = n) :
 Calls Tryz.prog 63 #[.agg #[.int .i64 (r : Int), .int .i64 (c : Int), .slice ao n cap]] w fun e w' => ∃ q : (Nat × Nat) × List P4 × List Value, e = .returned (.func (.func 89) #[] #[.pointer (some ⟨q.1.1, 0, none⟩)]) /\ Nw w w' [.row q.1.1 24 [.int .i64 (r : Int), .int .i64 (c : Int), .slice (some ⟨q.1.2, 0, none⟩) n n], .row q.1.2 37 (rn q.2.1 q.2.2), .ns q.2.1 xs, .pr (aI q.2.2)] := by
 subst hn;have hsnd : aR (r : Int) (c : Int) xs.length = true := by
  unfold aR bJ;rw [hs];simp; omega
 refine (qK (r : Int) (c : Int) ao xs.length cap xs w (by omega) (by omega) h rfl hsnd (by rw [hs]; have := Nat.mul_le_mul hr hc; omega)).mono ?_;rintro e w3 ⟨⟨g, b, rfl, hg, hb, hRg, ps, tl, nt, hRb, hl, hN⟩, hb3⟩;refine ⟨((g, b), ps, tl), rfl, hb3, fun e he => ?_, ?_⟩
 · simp only [List.mem_cons, List.mem_nil_iff, or_false] at he;rcases he with rfl | rfl | rfl | rfl
   · exact ⟨hRg, fun q e => by cases (e : q = g); exact hg⟩
   · exact ⟨hRb, fun q e => by cases (e : q = b); exact hb⟩
   · exact ⟨⟨hl, fun i h => by rw [gV h, c7 (by rw [<- hl]; exact h)]; exact hN i h (by rw [<- hl]; exact h)⟩, fun _ h => h.elim⟩
   · exact ⟨nt, fun _ h => h.elim⟩
 · have hne : g ≠ b := aa.ne hRg hRb (by decide);refine List.pairwise_cons.2 ⟨fun e he => ?_, List.pairwise_cons.2 ⟨fun e he => ?_, List.pairwise_cons.2 ⟨fun e he => ?_, List.pairwise_singleton ..⟩⟩⟩
   · simp only [List.mem_cons, List.mem_nil_iff, or_false] at he;rcases he with rfl | rfl | rfl
     · exact ⟨fun _ q h1 h2 => hne (Eq.trans (Eq.symm h1) h2), fun _ q h1 h2 => hne (Eq.trans (Eq.symm h2) h1)⟩
     · exact ⟨fun _ _ _ h => h, fun _ _ h => h.elim⟩
     · exact ⟨fun _ _ _ h => h, fun _ _ h => h.elim⟩
   · simp only [List.mem_cons, List.mem_nil_iff, or_false] at he;rcases he with rfl | rfl
     · exact ⟨fun _ _ _ h => h, fun _ _ h => h.elim⟩
     · exact ⟨fun _ _ _ h => h, fun _ _ h => h.elim⟩
   · simp only [List.mem_cons, List.mem_nil_iff, or_false] at he;rcases he with rfl;exact ⟨fun _ _ _ h => h, fun _ _ h => h.elim⟩
section
variable {P : Program} {ops : Array Oper} {Q : Exit -> Act -> World -> Prop} {ds : List Deferred} {S0 : Nat -> Prop} {w0 : World} {E0 : List En} {hd : List (List Nat)} {n j s sg g : Nat} {l : List Nat} {G E : List En} {ls : List (Nat × Value)} {op : Op} {ty : TypeId} {pos : String} {af : Array Edge} {f : FuncId} {args : Array Value} {v : Value} {want : Bool}
theorem cGg {α : Type} {mk : α -> Value} {ens : α -> List En} (c : ∀ w, Fr S0 w0 w (G ++ E) -> Calls P f args w fun e w' => ∃ p, e = .returned (mk p) /\ Nw w w' (ens p))
 (k : ∀ p, dy ds ⟨P, ops, Q, S0, w0, E0, hd⟩ n l (ens p ++ G) E ((s, mk p) :: ls))
 (ho : ops[j]? = some ⟨some s, op, ty, pos, af, some (g, want)⟩ := by rfl) (hk : (!bF op && !cX op && dK ls op && Nat.blt s n) = true := by kernel_rfl)
 (hg : (ops[g]?).bind (·.dst) = some sg := by rfl) (hi : eH ls (.tmp sg) = true := by kernel_rfl) (hb : cT ls (.tmp sg) = .bool want := by (simp only [bX, Nat.reduceEqDiff, ↓reduceIte]) <;> first | rfl | simp [*])
 (hr : ∀ w, (execOp (cT ls) ⟨some s, op, ty, pos, af, some (g, want)⟩).run P w = .ok (.enter f args) w := by intro w; (try simp only [av]); go_simp <;> with_reducible rfl) (hne : Nonempty α := by infer_instance)
 (hst : fo ops hd j [] = true := by kernel_rfl) : dy ds ⟨P, ops, Q, S0, w0, E0, hd⟩ n (j :: l) G E ls := fun a ha => by
 simp only [Bool.and_eq_true, Bool.not_eq_true'] at hk;refine ⟨_, ho, .inr (.inr ⟨hk.1.1.1, hk.1.1.2, α, mk, fun p => ens p ++ G, fun _ => E, [], hne, fun X w hX hw => ?_, hst, fun _ _ _ => rfl, fun p => k p _ (ha.put (Nat.le_of_ble_eq_true hk.2) _)⟩)⟩;rw [if_pos (by rw [jv ha hg hi hb]; simp)];show mK P _ ((execOp a.eval _).run P w);rw [ha.exec hk.1.2, hr w];refine (c w (hw.sub (List.sublist_append_right ..))).mono ?_;rintro e w' ⟨p, rfl, hn⟩;refine ⟨_, rfl, p, rfl, (hn.fr hw).perm ?_⟩;rw [List.append_assoc];exact (List.perm_append_comm_assoc (ens p) X (G ++ E))
theorem AI (c : ∀ w, Fr S0 w0 w (G ++ E) -> Calls P f args w fun e w' => e = .returned v /\ Below w.heap.size w w')
 (k : dy ds ⟨P, ops, Q, S0, w0, E0, hd⟩ n l G E ((s, v) :: ls))
 (ho : ops[j]? = some ⟨some s, op, ty, pos, af, some (g, want)⟩ := by rfl) (hk : (!bF op && !cX op && dK ls op && Nat.blt s n) = true := by kernel_rfl)
 (hg : (ops[g]?).bind (·.dst) = some sg := by rfl) (hi : eH ls (.tmp sg) = true := by kernel_rfl) (hb : cT ls (.tmp sg) = .bool want := by (simp only [bX, Nat.reduceEqDiff, ↓reduceIte]) <;> first | rfl | simp [*])
 (hr : ∀ w, (execOp (cT ls) ⟨some s, op, ty, pos, af, some (g, want)⟩).run P w = .ok (.enter f args) w := by intro w; (try simp only [av]); go_simp <;> with_reducible rfl)
 (hst : fo ops hd j [] = true := by kernel_rfl) : dy ds ⟨P, ops, Q, S0, w0, E0, hd⟩ n (j :: l) G E ls := by
 refine cGg (α := Unit) (mk := fun _ => v) (ens := fun _ => []) (fun w hw => (c w hw).mono ?_) (fun _ => k) ho hk hg hi hb hr ⟨()⟩ hst;rintro e w' ⟨rfl, hb⟩;exact ⟨(), rfl, hb, fun e he => (List.not_mem_nil he).elim, .nil⟩
theorem uC (k : dy ds ⟨P, ops, Q, S0, w0, E0, hd⟩ n l G E ((s, undef) :: ls))
 (ho : ops[j]? = some ⟨some s, op, ty, pos, af, some (g, want)⟩ := by rfl) (hk : (!bF op && !cX op && Nat.blt s n) = true := by kernel_rfl)
 (hg : (ops[g]?).bind (·.dst) = some sg := by rfl) (hi : eH ls (.tmp sg) = true := by kernel_rfl) (hb : cT ls (.tmp sg) = .bool (!want) := by (simp only [bX, Nat.reduceEqDiff, ↓reduceIte]) <;> first | rfl | simp [*])
 (hst : fo ops hd j [] = true := by kernel_rfl) : dy ds ⟨P, ops, Q, S0, w0, E0, hd⟩ n (j :: l) G E ls := fun a ha => by
 simp only [Bool.and_eq_true, Bool.not_eq_true'] at hk;refine ⟨_, ho, .inr (.inr ⟨hk.1.1, hk.1.2, Unit, fun _ => undef, fun _ => G, fun _ => E, [], ⟨()⟩, fun X w hX hw => ?_, hst, fun _ _ _ => rfl, fun _ => k _ (ha.put (Nat.le_of_ble_eq_true hk.2) _)⟩)⟩;rw [if_neg (by rw [jv ha hg hi hb]; simp)];exact ⟨(), rfl, hw⟩
end
theorem cNo' {P : Program} {f : FuncId} {args : Array Value} {w : World} {B : Nat} {x : Int} (h : Calls P f args w fun e w' => (∃ v, e = .returned v /\ aj w' w.heap.size v x) /\ Below w.heap.size w w') (hB : B <= w.heap.size) : Calls P f args w fun e w' => ∃ p : P4, e = .returned (av p) /\ Nw w w' [.own B (av p) x] := h.mono fun e w' ⟨⟨v, he, hv⟩, hb⟩ => by
 subst he;obtain ⟨b, ao, l', k', rfl⟩ := aj.parts hv;exact ⟨(b, ao, l', k'), rfl, hb, fun e he => by
  rcases List.mem_singleton.1 he with rfl;exact ⟨aj.mono hv hB, fun _ h => h.elim⟩, List.pairwise_singleton ..⟩
section
variable {ops : Array Oper} {Q : Exit -> Act -> World -> Prop} {ds : List Deferred} {S0 : Nat -> Prop} {w0 : World} {E0 : List En} {hd : List (List Nat)} {n j s : Nat} {l : List Nat} {G E : List En} {ls : List (Nat × Value)} {ty : TypeId} {pos : String} {af : Array Edge}
end
theorem y6 (aoA aoB : Option Addr) (lA cA lB cB : Nat) (xs ys : List Nat) (w : World) (hA : cE w aoA xs) (hB : cE w aoB ys) (hlA : lA = xs.length) (hlB : lB = ys.length) (hmA : lA <= 17592186044415) (hmB : lB <= 17592186044415) :
 Calls Tryz.prog 70 #[.slice aoA lA cA, .slice aoB lB cB] w fun e w' => e = .returned (.bool (decide (xs = ys))) /\ Below w.heap.size w w' := by
 subst hlA hlB;have HA := hi_ hA; clear hA;have HB := hi_ hB; clear hB;go_enter Tryz.func70, Tryz.ntmps70;by_cases hs : xs.length = ys.length
 · have hb : (((xs.length : Nat) : Int) != ((ys.length : Nat) : Int)) = false := by rw [hs]; simp
   have Hs := hi_ hs; clear hs;go_wp2;go_loopw [5] (fun i wr => ∃ k : Nat, k <= xs.length /\ i = .int .i64 (k : Int) /\ Hid (∀ j, j < k -> gw xs j = gw ys j) /\ Below w.heap.size w wr) (fun i _ => xs.length - (intOf i).toNat)
   case atStart => exact ⟨0, Nat.zero_le _, rfl, hi_ (fun j hj => by omega), Below.refl _ _⟩
   case round =>
    obtain ⟨k, hk, rfl, hag, hbl⟩ := hrel;by_cases h0 : k < xs.length
    · have h01 : (k : Int) < (xs.length : Int) := by omega
      have h02 : (k : Int) < (ys.length : Int) := by have := Hs.out; omega
      obtain ⟨b1, o1, rfl, hb1, hc1⟩ := (HA.out.below hbl).pos (by omega);obtain ⟨b2, o2, rfl, hb2, hc2⟩ := (HB.out.below hbl).pos (by omega);have e1 := hc1 k h0;have e2 := hc2 k (by omega);clear hc1 hc2;by_cases hne : gw xs k = gw ys k
      · have t1 : (((gw xs k : Nat) : Int) != ((gw ys k : Nat) : Int)) = false := by rw [hne]; simp
        have HN := hi_ hne; clear hne;go_wp2
        go_quiet (fail)
        go_wp2;go_roundw
        case rel => exact ⟨k + 1, by omega, by go_num, hi_ (fun j hj => by
         by_cases e : j = k
         · subst e; exact HN.out
         · exact hag.out j (by omega)), below_drewN hbl _⟩
        case measure => simp [intOf]; omega
      · have t1 : (((gw xs k : Nat) : Int) != ((gw ys k : Nat) : Int)) = true := by rw [bne_iff_ne]; omega
        have hd : decide (xs = ys) = false := by
         rw [decide_eq_false_iff_not]; intro e; exact hne (by rw [e])
        have HD := hi_ hd; clear hd hne;go_wp2
        go_quiet (fail)
        go_wp2;go_ret;exact ⟨by rw [HD.out]; rfl, below_drewN hbl _⟩
    · obtain rfl : k = xs.length := by omega
      have hd : decide (xs = ys) = true := by
       rw [decide_eq_true_iff];refine List.ext_getElem Hs.out fun j h1 h2 => ?_;have := hag.out j h1;unfold gw at this;simpa [h1, h2] using this
      have HD := hi_ hd; clear hd;go_wp2;go_ret;exact ⟨by rw [HD.out]; rfl, hbl⟩
 · have hb : (((xs.length : Nat) : Int) != ((ys.length : Nat) : Int)) = true := by rw [bne_iff_ne]; omega
   have hd : decide (xs = ys) = false := by
    rw [decide_eq_false_iff_not]; intro e; exact hs (by rw [e])
   have HD := hi_ hd; clear hd hs;go_wp2;go_ret;exact ⟨by rw [HD.out]; rfl, Below.refl _ _⟩
theorem su (x y : Int) : (decide (fp x.natAbs = fp y.natAbs) && (decide (x < 0) == decide (y < 0))) = decide (x = y) := by
 have h1 : fp x.natAbs = fp y.natAbs ↔ x.natAbs = y.natAbs := ⟨fun h => by rw [<- cM x.natAbs, h, cM], fun h => by rw [h]⟩;rw [Bool.eq_iff_iff];simp only [Bool.and_eq_true, decide_eq_true_eq, beq_iff_eq, h1, decide_eq_decide];omega
theorem dR {a : Nat} (h : a < 9223372036854775807) : Value.int .i64 (IntKind.i64.wrap ((a : Int) + 1)) = .int .i64 ((a + 1 : Nat) : Int) := by
 rw [wrap_small] <;> first | rfl | omega
theorem AN {a b : Nat} (h : a + b < 9223372036854775807) : Value.int .i64 (IntKind.i64.wrap ((a : Int) + b)) = .int .i64 ((a + b : Nat) : Int) := by
 rw [wrap_small] <;> first | rfl | omega
theorem qJ {a b : Nat} (h : a * b < 9223372036854775808) : Value.int .i64 (IntKind.i64.wrap ((a : Int) * b)) = .int .i64 ((a * b : Nat) : Int) := by
 rw [<- Int.natCast_mul, wrap_small] <;> first | rfl | omega
theorem Fr.ln {S0 : Nat -> Prop} {w0 w : World} {es : List En} (h : Fr S0 w0 w es) {ao : Option Addr} {xs : List Int} (hx : ik w ao xs) (hS : ∀ e ∈ es, e.wr = false) : Fr S0 w0 w (.kP ao xs :: es) :=
 h.cons hx (fun e he => ⟨(fun q => nomatch q), fun q => by rw [hS e he] at q; cases q⟩) (fun q => nomatch q)
theorem ik.pos {w : World} {ao : Option Addr} {xs : List Int} (h : ik w ao xs) {i : Nat} (hi : i < xs.length) : ∃ b o, ao = some ⟨b, o, none⟩ := by
 obtain ⟨b, o, e, _⟩ := h (by omega);exact ⟨b, o, e⟩
section
variable {P : Program} {Q : Exit -> Act -> World -> Prop} {ds : List Deferred} {S0 : Nat -> Prop} {w0 : World} {n : Nat} {ls : List (Nat × Value)} {es : List En} {c : Code}
theorem zK {xs : List Int} {b o : Nat} (i : Nat) (hm : En.kP (some ⟨b, o, none⟩) xs ∈ es) (hi : i < xs.length) (k : ∀ p : P4, eP ds P n S0 w0 c Q ls (.cell ⟨b, o + i * 2, none⟩ (.bool p.1) :: .cell ⟨b, o + i * 2 + 1, none⟩ (.slice p.2.1 p.2.2.1 p.2.2.2) :: .num (av p) (gi xs i) :: es)) : eP ds P n S0 w0 c Q ls es := fun a w ha hw => by
 have hA : ik w (some ⟨b, o, none⟩) xs := hw.all _ hm;obtain ⟨b', o', e, hb, hc⟩ := hA (by omega);cases e;obtain ⟨p, h0, h1, hx⟩ := hc i hi;rw [<- c7 hi] at hx;have hS : (En.kP (some ⟨b, o, none⟩) xs).S b := ⟨by omega, o, rfl⟩;exact k p a w ha (((hw.pure (e := .num (av p) (gi xs i)) hx (fun _ h => h)).cellOf (List.mem_cons_of_mem _ hm) rfl hS h1).cellOf (List.mem_cons_of_mem _ (List.mem_cons_of_mem _ hm)) rfl hS h0)
end
theorem AF (v u : Value) (x y : Nat) (w : World) (hA : ai w 17592186044415 v x) (hB : ai w 17592186044415 u y) (hy : y ≠ 0) :
 Calls Tryz.prog 53 #[v, u] w fun e w' => (∃ v' u', e = .returned (.tuple #[v', u', .int .i64 0]) /\ aj w' w.heap.size v' ((x / y : Nat) : Int) /\ aj w' w.heap.size u' ((x % y : Nat) : Int)) /\ Below w.heap.size w w' :=
 my v u x y w hA hB (by omega)
theorem uk {x : Int} (h : aO x < 0) : x < 0 := by
 unfold aO at h; split at h
 · assumption
 · split at h <;> omega
structure ExtX where
 r : Nat
 k : Nat
 m : Int
 l : Int
 p : P4
 q : P4
 s : P4
 t : P4
theorem vE (v u : Value) (a b : Int) (w : World) (hA : ai w 4398046511103 v a) (hB : ai w 4398046511103 u b) :
 Calls Tryz.prog 91 #[v, u] w fun e w' => (∃ g x y vg vx vy, e = .returned (.tuple #[vg, vx, vy]) /\ eF a b g x y /\ aj w' w.heap.size vg g /\ aj w' w.heap.size vx x /\ aj w' w.heap.size vy y) /\ Below w.heap.size w w' := by
 have hla := hA.ag;have hlb := hB.ag;obtain ⟨p, rfl⟩ := hA.parts;obtain ⟨q, rfl⟩ := hB.parts;have hA0 := hA;have hA := hA.mono (L' := 17592186044415) (by omega);have hB := hB.mono (L' := 17592186044415) (by omega);have hsa := lN a;refine bS (S0 := fun _ => False) Tryz.func91 (((Fr.nil _ w).i hA).i hB) ?_;refine ah ?_;refine rW [] ?_;refine aW fun g2 => ?_;refine aW fun g3 => ?_;refine aW fun g4 => ?_;refine aW fun g5 => ?_;refine aW fun g6 => ?_;refine eW ?_;refine ah ?_;refine rW [] ?_;refine dW ?_;refine cV (fun w H => bN _ b w H.m5) ?_;refine dW ?_;refine eW ?_;refine ah ?_;refine kG (fun h => ?_) (fun h => ?_)
 · refine ah ?_;refine rW [[], [], [], [], [], [1, 2]] ?_;refine dH ?_;refine cN (fun w H => kU _ a w H.m6) fun p1 => ?_;refine dH ?_;refine cV (fun w H => bN _ a w H.m7) ?_;refine cN (fun w H => ko (aO a) w (by omega) (by omega)) fun p2 => ?_;refine dH ?_;(iterate 3 refine sW ?_);refine eW ?_;refine ah ?_;refine tb fun w H => ?_;obtain rfl : b = 0 := cS.1 (by simpa using h);exact ⟨_, _, _, jB H.m4, jB H.m3, jB H.m2, ⟨_, _, _, _, _, _, rfl, sV a, H.m1, H.m0, aj.zero _ _⟩, H.below⟩
 refine ah ?_;refine rW [] ?_;refine dW ?_;refine cN (fun w H => kU _ a w H.m6) fun p1 => ?_;refine dW ?_;refine cN (fun w H => kU _ b w H.m6) fun p2 => ?_;refine dW ?_;refine aW fun g7 => ?_;refine sG ?_;refine eW ?_;refine ah ?_;refine rW [] ?_;refine cN (fun w H => ko 1 w (by omega) (by omega)) fun p3 => ?_;refine cN (fun w H => ko 0 w (by omega) (by omega)) fun p4 => ?_;refine dW ?_;refine aW fun g8 => ?_;refine sG ?_;refine eW ?_;refine ah ?_;have hb0 : b ≠ 0 := fun e => by rw [cS.2 e] at h; cases h
 refine cI (X := ExtX) (fun x => lY a.natAbs b x.r x.k x.m x.l /\ x.r <= max a.natAbs b.natAbs /\ x.k <= max a.natAbs b.natAbs) (·.k) (fun _ => [(8, .pointer (some ⟨g8, 0, none⟩)), (7, .pointer (some ⟨g7, 0, none⟩)), (6, .pointer (some ⟨g6, 0, none⟩)), (5, .pointer (some ⟨g5, 0, none⟩)), (4, .pointer (some ⟨g4, 0, none⟩)), (3, .pointer (some ⟨g3, 0, none⟩)), (2, .pointer (some ⟨g2, 0, none⟩))])
  (fun x => [.row g8 136 (cl x.s ++ cl x.t), .own w.heap.size (av x.t) x.l, .own w.heap.size (av x.s) x.m, .row g7 136 (cl x.p ++ cl x.q), .own w.heap.size (av x.q) x.k, .own w.heap.size (av x.p) x.r, .row g6 37 (cl p0), .row g5 37 (cl p0), .row g4 37 (cl p0), .row g3 37 (cl q), .row g2 37 (cl p), .at 17592186044415 (av q) b, .at 17592186044415 (av p) a])
  ⟨a.natAbs, b.natAbs, 1, 0, p1, p2, p3, p4⟩ ⟨lY.start _ hb0, Nat.le_max_left .., Nat.le_max_right ..⟩ (fun x hx => ?_)
 · have hmx : ag (max a.natAbs b.natAbs) <= 4398046511103 := by rcases Nat.le_total a.natAbs b.natAbs with h | h <;> simp [Nat.max_eq_left, Nat.max_eq_right, h, hla, hlb]
   obtain ⟨hE, hr, hk⟩ := hx;have br : ag ((x.r : Nat) : Int).natAbs <= 4398046511103 := Nat.le_trans (aF hr) hmx;have bk : ag ((x.k : Nat) : Int).natAbs <= 4398046511103 := Nat.le_trans (aF hk) hmx;have bm : ag x.m.natAbs <= 4398046511103 := Nat.le_trans (aF hE.k0) hlb;have bl : ag x.l.natAbs <= 4398046511103 := Nat.le_trans (aF hE.k1) hlb;refine ah ?_;refine rW [] ?_;refine dW ?_;refine dW ?_;refine cV (fun w H => bN _ x.k w (aj.int H.m4 (by omega))) ?_;refine dW ?_;refine eW ?_;refine ah ?_;refine kG (fun h => ?_) (fun h => ?_)
   · have hk0 : x.k ≠ 0 := fun e => by rw [e] at h; cases h
     refine ah ?_;refine rW [] ?_;(iterate 4 refine dW ?_);refine cN2 (fun w H => AF _ _ x.r x.k w (aj.int H.m5 (by omega)) (aj.int H.m4 (by omega)) (by omega)) fun p5 p6 => ?_;(iterate 4 refine dW ?_);refine aW fun g9 => ?_;refine aW fun g10 => ?_;refine sG ?_;refine sG ?_;refine dW ?_;refine eW ?_;refine ah ?_;refine rW [] ?_;(iterate 5 refine dW ?_);have hs := hE.step hk0;have bq : ag ((x.r / x.k : Nat) : Int).natAbs <= 4398046511103 := Nat.le_trans (aF (Nat.le_trans (Nat.div_le_self ..) hr)) hmx;have bn := Nat.le_trans (aF hs.k1) hlb;refine cN (x := ((x.r / x.k : Nat) : Int) * x.l) (fun w H => gL _ _ _ _ 4398046511103 4398046511103 w (aj.int H.m2 bq) (aj.int H.m5 bl) (by omega)) fun p7 => ?_;refine cN (fun w H => kT _ _ _ _ w (aj.int H.m7 (by omega)) (aj.int H.m0 (Nat.le_trans (by rw [Int.natAbs_mul]; exact cP ..) (by omega : _ <= 17592186044415)))) fun p8 => ?_;refine aW fun g12 => ?_;refine sG ?_;refine eW ?_;refine ah ?_;refine rW [] ?_;(iterate 4 refine dW ?_);refine sW ?_;refine eW ?_;refine ah ?_;refine rW [] ?_;(iterate 4 refine dW ?_);refine sW ?_;refine eW ?_;refine ah ?_;refine cf ⟨x.k, x.r % x.k, x.l, x.m - ((x.r / x.k : Nat) : Int) * x.l, x.q, p6, x.t, p8⟩ ⟨⟨hs, hk, Nat.le_trans (Nat.le_of_lt (Nat.mod_lt _ (by omega))) hk⟩, Nat.mod_lt _ (by omega)⟩
   · have hk0 : x.k = 0 := by
      have := cS.1 (by simpa using h : aO x.k = 0);omega
     rw [hk0] at hE;obtain ⟨hg, hd⟩ := hE.done hb0;have hmb := hE.k0;refine ah ?_;refine rW [[], [], [8], [8]] ?_;(iterate 4 refine dH ?_);refine sW ?_;refine sW ?_;refine eW ?_;refine ah ?_;refine rW [] ?_;refine dW ?_;refine cV (fun w H => bN _ a w H.m12) ?_;refine dW ?_;refine eW ?_;refine ah ?_;refine wG (X := P4 × Int) (fun z => b ∣ (x.r : Int) - z.2 * a /\ ag z.2.natAbs <= 4398046511103) (fun _ => [(6, .pointer (some ⟨g6, 0, none⟩)), (5, .pointer (some ⟨g5, 0, none⟩)), (4, .pointer (some ⟨g4, 0, none⟩)), (3, .pointer (some ⟨g3, 0, none⟩)), (2, .pointer (some ⟨g2, 0, none⟩))])
      (fun z => [.own w.heap.size (av z.1) z.2, .own w.heap.size (av x.p) x.r, .row g6 37 (cl p0), .row g5 37 (cl z.1), .row g4 37 (cl x.p), .row g3 37 (cl q), .row g2 37 (cl p), .at 17592186044415 (av q) b, .at 17592186044415 (av p) a]) ?_ (fun z hz => ?_)
     · refine kG (fun h => ?_) (fun h => ?_)
       · have ha := uk (by simpa using h);rw [if_pos ha] at hd;refine ah ?_;refine rW [] ?_;refine dW ?_;refine cN (fun w H => iT _ x.m w (aj.int H.m2 (by omega))) fun p9 => ?_;refine sW ?_;refine eW ?_;refine ah ?_;exact mS (p9, -x.m) ⟨hd, by simpa using bm⟩
       · have ha : ¬ a < 0 := fun e => by
          have : aO a = -1 := by unfold aO; rw [if_pos e]
          rw [this] at h; cases h
         rw [if_neg ha] at hd;refine ah ?_;exact mS (x.s, x.m) ⟨hd, bm⟩
     · obtain ⟨pm, m⟩ := z;obtain ⟨h1, h2, h3, h4⟩ := qS hb0 hg hz.1;have bz : ag m.natAbs <= 4398046511103 := hz.2;have hr0 : (x.r : Int) ≠ 0 := fun e => hb0 (Int.zero_dvd.1 (e ▸ h1));have bq : ag (b / (x.r : Int)).natAbs <= 4398046511103 := Nat.le_trans (aF (Int.natAbs_ediv_le_natAbs _ _)) hlb;have bx : ag (m % (b / (x.r : Int))).natAbs <= 4398046511103 := Nat.le_trans (aF (by have := Int.emod_nonneg m h2; have := Int.emod_lt m h2; omega)) bq;refine ah ?_;refine rW [] ?_;refine dW ?_;refine dW ?_;refine vH (fun w H => fR _ _ b x.r w H.m7 (aj.int H.m1 (by omega)) hr0 h1) fun p9 => ?_;(iterate 3 refine dW ?_);refine aW fun g13 => ?_;refine sG ?_;refine dW ?_;refine eW ?_;refine ah ?_;refine rW [[], [], [], [], [], [5]] ?_;refine dH ?_;refine dH ?_;refine vH (fun w H => rL _ _ m _ w (aj.int H.m2 (by omega)) (aj.int H.m1 (by omega)) h2) fun p10 => ?_;(iterate 3 refine dH ?_);refine sW ?_;refine eW ?_;refine ah ?_;refine rW [[], [], [], [], [], [], [], [], [], [5]] ?_;(iterate 3 refine dH ?_);refine cN (fun w H => gL _ _ a _ 4398046511103 4398046511103 w (ai.below hA0 H.below) (aj.int H.m0 bx) (by omega)) fun p11 => ?_;have bp : ag (a * (m % (b / (x.r : Int)))).natAbs <= 8796093022206 := Nat.le_trans (by rw [Int.natAbs_mul]; exact cP ..) (by omega : _ <= 8796093022206);refine cN (fun w H => kT _ _ _ _ w (aj.int H.m5 (by omega)) (aj.int H.m0 (by omega))) fun p12 => ?_;refine dH ?_;have bs : ag ((x.r : Int) - a * (m % (b / (x.r : Int)))).natAbs <= 17592186044415 := by
        have h5 := aF (Int.natAbs_sub_le (x.r : Int) (a * (m % (b / (x.r : Int)))));have h6 := mY (x.r : Int).natAbs (a * (m % (b / (x.r : Int)))).natAbs;have h7 : max (ag (x.r : Int).natAbs) (ag (a * (m % (b / (x.r : Int)))).natAbs) <= 8796093022206 := Nat.max_le.2 ⟨by omega, bp⟩;omega
       refine vH (fun w H => fR _ _ _ b w (aj.int H.m0 bs) H.m12 hb0 h3) fun p13 => ?_;(iterate 3 refine dH ?_);refine sW ?_;refine eW ?_;refine ah ?_;refine rW [[], [10], [10, 9]] ?_;(iterate 3 refine dH ?_);(iterate 3 refine sW ?_);refine eW ?_;refine ah ?_;refine tb fun w H => ?_;exact ⟨_, _, _, jB H.m10, jB H.m9, jB H.m8, ⟨_, _, _, _, _, _, rfl, h4, H.m7, H.m3, H.m0⟩, H.below⟩
theorem vv {n : Nat} (h0 : 0 < n) (h : n < W) : fp n = [n] := by
 have e := gU (Ok.one h);have hv : ae [n] = n := by simp [ae]
 have hw : ag n = 1 := by
  have e1 : ag n ≠ 0 := fun e => by have := db.1 e; omega
  have e2 : ag n <= 1 := au (by simpa using h);omega
 have ht := bG (Ok.one h);rw [hv, hw] at ht;rw [hv, <- ht] at e;simpa using e
theorem iD {n : Nat} (h0 : 0 < n) (h : n < W) : ag n = 1 := by
 have e1 : ag n ≠ 0 := fun e => by have := db.1 e; omega
 have e2 : ag n <= 1 := au (by simpa using h);omega
theorem yd {r c i j : Nat} (hi : i < r) (hj : j < c) : i * c + j < r * c := by
 have h1 : (i + 1) * c <= r * c := Nat.mul_le_mul_right _ hi;have h2 : (i + 1) * c = i * c + c := Nat.succ_mul i c;omega
section
variable {P : Program} {ops : Array Oper} {Q : Exit -> Act -> World -> Prop} {ds : List Deferred} {S0 : Nat -> Prop} {w0 : World} {E0 : List En} {n j s sg g : Nat} {l : List Nat} {G E : List En} {ls : List (Nat × Value)} {op : Op} {ty : TypeId} {pos : String} {af : Array Edge} {v v' : Value} {want : Bool}
theorem dGE (hv : v' = v) (k : dy ds ⟨P, ops, Q, S0, w0, E0, []⟩ n l G E ((s, v) :: ls))
 (ho : ops[j]? = some ⟨some s, op, ty, pos, af, some (g, want)⟩ := by rfl) (hk : (bF op && dK ls op && Nat.blt s n) = true := by kernel_rfl)
 (hg : (ops[g]?).bind (·.dst) = some sg := by rfl) (hi : eH ls (.tmp sg) = true := by kernel_rfl) (hb : cT ls (.tmp sg) = .bool want := by (simp only [bX, Nat.reduceEqDiff, ↓reduceIte]) <;> first | rfl | simp [*])
 (hr : ∀ w, (pI op = true -> Fr S0 w0 w E0) -> (execOp (cT ls) ⟨some s, op, ty, pos, af, some (g, want)⟩).run P w = .ok (.value v') w := by intro w H; (first | (have c := (H rfl).c; try simp only [rV, cl, List.cons_append, List.nil_append] at c) | skip); clear H; go_simp <;> with_reducible rfl) : dy ds ⟨P, ops, Q, S0, w0, E0, []⟩ n (j :: l) G E ls :=
 dG k ho hk hg hi hb (by rw [<- hv]; exact hr)
end
theorem Fr.cl {S0 : Nat -> Prop} {w0 w : World} {es : List En} (h : Fr S0 w0 w es) {a : Addr} {v : Value} (hc : w.cell? a = some v) (hS : ∀ e ∈ es, e.wr = false) : Fr S0 w0 w (.cell a v :: es) :=
 h.cons (e := .cell a v) hc (fun e he => ⟨(fun q => nomatch q), fun q => by rw [hS e he] at q; cases q⟩) (fun q => nomatch q)
end Go.Proofs.YtjjlmfmoihooiaaGreat
namespace Go.Proofs.YtjjlmfmoihooiaaGreat
def c8 (c : Nat) (f : Nat -> Nat -> Int) (k : Nat) : List Int := (List.range k).map fun q => f (q / c) (q % c)
theorem cU (c : Nat) (f : Nat -> Nat -> Int) (k : Nat) : (c8 c f k).length = k := by simp [c8]
theorem nV {c i j : Nat} (f : Nat -> Nat -> Int) (hj : j < c) : c8 c f (i * c + j + 1) = c8 c f (i * c + j) ++ [f i j] := by
 have h1 : (i * c + j) / c = i := by rw [Nat.mul_comm, Nat.mul_add_div (by omega), Nat.div_eq_of_lt hj]; rfl
 have h2 : (i * c + j) % c = j := by rw [Nat.mul_comm, Nat.mul_add_mod, Nat.mod_eq_of_lt hj]
 unfold c8;rw [List.range_succ, List.map_append];simp [h1, h2]
end Go.Proofs.YtjjlmfmoihooiaaGreat
namespace Go.Proofs.YtjjlmfmoihooiaaGreat
open Go.RowKit
theorem zA {P : Program} {Q : Exit -> Act -> World -> Prop} {ds : List Deferred} {S0 : Nat -> Prop} {w0 : World} {n b N : Nat} {ls : List (Nat × Value)} {es : List En} {c : Code} (k : eP ds P n S0 w0 c Q ls (.kY (some ⟨b, 0, none⟩) 0 N [] :: es)) : eP ds P n S0 w0 c Q ls (.row b 37 (rn (List.replicate N p0) []) :: es) := fun a w ha hw =>
 k a w ha (hw.conv (fun hr => ⟨rfl, Nat.zero_le _, .inr ⟨b, rn (List.replicate N p0) [], rfl, aI.rn aI.nil, hr, by show (rn (List.replicate N p0) []).length = _; rw [rn, List.append_nil, bg]; simp; omega⟩⟩) (fun g ⟨o, e⟩ => by cases e; rfl) (fun _ => rfl))
structure B1X where
 i : Nat
 K : Nat
 ao : Option Addr
 cap : Nat
 ps : List P4
structure B1I (r c : Nat) (z : B1X) : Prop where
 hi : z.i <= r
 hK : z.i * c = z.K
structure B2X where
 j : Nat
 K : Nat
 ao : Option Addr
 cap : Nat
 ps : List P4
structure B2I (c i : Nat) (z : B2X) : Prop where
 hj : z.j <= c
 hK : i * c + z.j = z.K
theorem wQ (F : FuncId) (hF : ∀ (args : Array Value) (w : World), (callFunc F args).run Tryz.prog w = .ok (.enter F args) w) (r c g : Nat) (f : Nat -> Nat -> Int) (w : World) (hr : r <= 64) (hc : c <= 64)
 (hf : ∀ (i j : Nat) (w' : World), i < r -> j < c -> Below w.heap.size w w' -> Calls Tryz.prog F #[.int .i64 (i : Int), .int .i64 (j : Int), .pointer (some ⟨g, 0, none⟩)] w' fun e w'' => (∃ v, e = .returned v /\ aj w'' w'.heap.size v (f i j)) /\ Below w'.heap.size w' w'') :
 Calls Tryz.prog 56 #[.int .i64 (r : Int), .int .i64 (c : Int), .func (.func F) #[] #[.pointer (some ⟨g, 0, none⟩)]] w fun e w' => (∃ ao cap, e = .returned (.agg #[.int .i64 (r : Int), .int .i64 (c : Int), .slice ao (r * c) cap]) /\ ik w' ao (c8 c f (r * c)) /\ r * c <= cap /\ ∀ b o, ao = some ⟨b, o, none⟩ -> w.heap.size <= b) /\ Below w.heap.size w w' := by
 have hnc : r * c <= 4096 := Nat.mul_le_mul hr hc;have hms : r * c < 9223372036854775808 := by omega
 refine bS (S0 := fun _ => False) Tryz.func56 (Fr.nil _ w) ?_;refine ah ?_;refine rW [] ?_;refine aW fun g6 => ?_;refine eW ?_;refine ah ?_;refine rW [] ?_;(iterate 4 refine dW ?_);refine dE (qJ (a := r) (b := c) hms) ?_;obtain ⟨N, hN⟩ : ∃ N, r * c = N := ⟨_, rfl⟩;rw [hN] at hnc ⊢;have HN : Hid (r * c = N) := hi_ hN;clear hms hN;refine mN 0 N rfl rfl (Nat.zero_le _) (by omega) fun b => ?_;refine dW ?_;refine aW fun g7 => ?_;refine sG ?_;refine eW ?_;refine dU (es' := [.row b 37 (rn (List.replicate N p0) []), .row g7 24 [.int .i64 (r : Int), .int .i64 (c : Int), .slice (some ⟨b, 0, none⟩) 0 N], .row g6 24 [.int .i64 0, .int .i64 0, .slice none 0 0]]) ?_;refine zA ?_;refine mQ (e := .ns [] (c8 c f 0)) (fun w' _ => bQ.nil w') ?_;refine dU (es' := [.row g7 24 [.int .i64 (r : Int), .int .i64 (c : Int), .slice (some ⟨b, 0, none⟩) 0 N], .row g6 24 [.int .i64 0, .int .i64 0, .slice none 0 0], .kY (some ⟨b, 0, none⟩) 0 N [], .ns [] (c8 c f 0)]) ?_;refine ah ?_;refine rW [] ?_;refine dW ?_;refine dW ?_;refine eW ?_;refine ah ?_;refine cI (X := B1X) (B1I r c) (fun z => r - z.i) (fun z => [(18, .int .i64 (z.i : Int)), (17, .int .i64 (r : Int)), (1, .int .i64 (c : Int)), (2, .func (.func F) #[] #[.pointer (some ⟨g, 0, none⟩)]), (7, .pointer (some ⟨g7, 0, none⟩)), (6, .pointer (some ⟨g6, 0, none⟩))])
  (fun z => [.row g7 24 [.int .i64 (r : Int), .int .i64 (c : Int), .slice z.ao z.K z.cap], .row g6 24 [.int .i64 0, .int .i64 0, .slice none 0 0], .kY z.ao z.K z.cap z.ps, .ns z.ps (c8 c f z.K)]) ⟨0, 0, some ⟨b, 0, none⟩, N, []⟩ ⟨Nat.zero_le _, Nat.zero_mul _⟩ fun z hz => ?_
 obtain ⟨i, K, ao, cap, ps⟩ := z;obtain ⟨hi, hK⟩ := hz
 replace hi : i <= r := hi
 replace hK : i * c = K := hK
 by_cases h : i < r
 · have h01 : (i : Int) < (r : Int) := by omega
   have HK : Hid (i * c + 0 = K) := hi_ hK;clear hK;refine ah ?_;refine rW [] ?_;refine dB true ?_;refine eW ?_;refine ah ?_;refine fB ?_;refine ah ?_;refine rW [] ?_;refine dW ?_;refine dW ?_;refine eW ?_;refine ah ?_;refine rW [] ?_;refine dW ?_;refine dW ?_;refine eW ?_;refine ah ?_;refine cI (X := B2X) (B2I c i) (fun z => c - z.j) (fun z => [(22, .int .i64 (z.j : Int)), (21, .int .i64 (c : Int)), (8, .int .i64 (i : Int)), (18, .int .i64 (i : Int)), (17, .int .i64 (r : Int)), (1, .int .i64 (c : Int)), (2, .func (.func F) #[] #[.pointer (some ⟨g, 0, none⟩)]), (7, .pointer (some ⟨g7, 0, none⟩)), (6, .pointer (some ⟨g6, 0, none⟩))])
    (fun z => [.row g7 24 [.int .i64 (r : Int), .int .i64 (c : Int), .slice z.ao z.K z.cap], .row g6 24 [.int .i64 0, .int .i64 0, .slice none 0 0], .kY z.ao z.K z.cap z.ps, .ns z.ps (c8 c f z.K)]) ⟨0, K, ao, cap, ps⟩ ⟨Nat.zero_le _, HK.out⟩ fun z hz => ?_
   clear HK;obtain ⟨j, K, ao, cap, ps⟩ := z;obtain ⟨hj, hK⟩ := hz
   replace hj : j <= c := hj
   replace hK : i * c + j = K := hK
   by_cases h' : j < c
   · have h02 : (j : Int) < (c : Int) := by omega
     have hlt := yd h h';have ht := nV (i := i) f h';have hKN : K <= 100000000 := by have := HN.out; omega
     rw [hK] at ht;have HT : Hid (c8 c f (K + 1) = c8 c f K ++ [f i j] /\ i * c + j = K) := hi_ ⟨ht, hK⟩;clear ht hK hlt;refine ah ?_;refine rW [] ?_;refine dB true ?_;refine eW ?_;refine ah ?_;refine fB ?_;refine ah ?_;refine rW [] ?_;refine dW ?_;refine dW ?_;refine eW ?_;refine ah ?_;refine rW [] ?_;(iterate 5 refine dW ?_);refine cN (fun w' H => hf i j w' h h' H.below) fun q => ?_;refine bW (m := 1) fun g31 => ?_;refine ja (e := .ns (ps ++ [q]) (c8 c f (K + 1))) (fun w' H => by rw [HT.out.1]; exact bQ.snoc H.m5 H.m1.num) ?_;refine Ad (g := g31) (t := 37) (c := 1) (ao := ao) (k := K) (cap := cap) (ps := ps) q hKN (by simp) fun z => ?_;refine dW ?_;refine sW ?_;refine eW ?_;refine ah ?_;refine rW [] ?_;refine dE (dR (a := j) (by omega)) ?_;refine dW ?_;refine eW ?_;refine ah ?_;exact cf (⟨j + 1, K + 1, z.1, z.2, ps ++ [q]⟩ : B2X) ⟨⟨h', by show i * c + (j + 1) = K + 1; have := HT.out.2; omega⟩, by show c - (j + 1) < c - j; omega⟩
   · obtain rfl : j = c := by omega
     have HK : Hid ((i + 1) * j = K) := hi_ (by rw [Nat.succ_mul]; exact hK);clear hK;refine ah ?_;refine rW [] ?_;refine dB false ?_;refine eW ?_;refine ah ?_;refine dT ?_;refine ah ?_;refine rW [] ?_;refine dE (dR (a := i) (by omega)) ?_;refine dW ?_;refine eW ?_;refine ah ?_;exact cf (⟨i + 1, K, ao, cap, ps⟩ : B1X) ⟨⟨h, HK.out⟩, by show r - (i + 1) < r - i; omega⟩
 · obtain rfl : i = r := by omega
   obtain rfl : K = N := by rw [<- hK]; exact HN.out
   clear hK;refine ah ?_;refine rW [] ?_;refine dB false ?_;refine eW ?_;refine ah ?_;refine dT ?_;refine ah ?_;refine rW [] ?_;refine dW ?_;refine sW ?_;refine eW ?_;refine ah ?_;refine ei fun w' H => ?_;exact ⟨_, uK H.m1, ⟨ao, cap, rfl, oX H.m2 H.m3, (show rR ao K cap ps w' from H.m2).2.1, fun b o e => (H.own (.kY ao K cap ps) (by simp) rfl b ⟨o, e⟩).elim (fun h => h.elim) id⟩, H.below⟩
theorem sU {A : Prop} {P : Program} {Q : Exit -> Act -> World -> Prop} {ds : List Deferred} {S0 : Nat -> Prop} {w0 : World} {n : Nat} {ls : List (Nat × Value)} {es : List En} {c : Code} (hm : En.pr A ∈ es) (k : A -> eP ds P n S0 w0 c Q ls es) : eP ds P n S0 w0 c Q ls es := fun a w ha hw => k (hw.all _ hm) a w ha hw
section
variable {P : Program} {ops : Array Oper} {Q : Exit -> Act -> World -> Prop} {ds : List Deferred} {S0 : Nat -> Prop} {w0 : World} {E0 : List En} {hd : List (List Nat)} {n j s : Nat} {l : List Nat} {G E : List En} {ls : List (Nat × Value)} {op : Op} {ty : TypeId} {pos : String} {af : Array Edge} {v : Value} {f : FuncId} {args : Array Value}
theorem fW (k : dy ds ⟨P, ops, Q, S0, w0, E0, hd⟩ n l G E ((s, v) :: ls))
 (ho : ops[j]? = some ⟨some s, op, ty, pos, af, none⟩ := by rfl) (hk : (!bF op && !cX op && dK ls op && Nat.blt s n) = true := by kernel_rfl)
 (hr : ∀ w, (execOp (cT ls) ⟨some s, op, ty, pos, af, none⟩).run P w = .ok (.value v) w := by intro w; (try simp only [av]); go_simp <;> with_reducible rfl)
 (hst : fo ops hd j [] = true := by kernel_rfl) : dy ds ⟨P, ops, Q, S0, w0, E0, hd⟩ n (j :: l) G E ls := fun a ha => by
 simp only [Bool.and_eq_true, Bool.not_eq_true'] at hk;refine ⟨_, ho, .inr (.inr ⟨hk.1.1.1, hk.1.1.2, Unit, fun _ => v, fun _ => G, fun _ => E, [], ⟨()⟩, fun X w hX hw => ?_, hst, fun _ _ _ => rfl, fun _ => k _ (ha.put (Nat.le_of_ble_eq_true hk.2) _)⟩)⟩;refine xK rfl ?_;show mK P _ ((execOp a.eval _).run P w);rw [ha.exec hk.1.2, hr w];exact ⟨(), rfl, hw⟩
theorem uP {α : Type} {mk : α -> Value} {ao : α -> Option Addr} {xs : α -> List Int} {A : α -> Prop} (c : ∀ w, Fr S0 w0 w (G ++ E) -> Calls P f args w fun e w' => (∃ p, e = .returned (mk p) /\ ik w' (ao p) (xs p) /\ A p /\ ∀ b o, ao p = some ⟨b, o, none⟩ -> w.heap.size <= b) /\ Below w.heap.size w w')
 (k : ∀ p, dy ds ⟨P, ops, Q, S0, w0, E0, hd⟩ n l (.kP (ao p) (xs p) :: .pr (A p /\ ∀ b o, ao p = some ⟨b, o, none⟩ -> w0.heap.size <= b) :: G) E ((s, mk p) :: ls))
 (ho : ops[j]? = some ⟨some s, op, ty, pos, af, none⟩ := by rfl) (hk : (!bF op && !cX op && dK ls op && Nat.blt s n) = true := by kernel_rfl)
 (hr : ∀ w, (execOp (cT ls) ⟨some s, op, ty, pos, af, none⟩).run P w = .ok (.enter f args) w := by intro w; (try simp only [av]); go_simp <;> with_reducible rfl) (hne : Nonempty α := by infer_instance)
 (hst : fo ops hd j [] = true := by kernel_rfl) : dy ds ⟨P, ops, Q, S0, w0, E0, hd⟩ n (j :: l) G E ls := by
 refine cG (mk := mk) (ens := fun p => [.kP (ao p) (xs p), .pr (A p /\ ∀ b o, ao p = some ⟨b, o, none⟩ -> w0.heap.size <= b)]) (fun w hw => (c w hw).mono ?_) k ho hk hr hne hst;rintro e w' ⟨⟨p, rfl, hl, hA, hS⟩, hb⟩;exact ⟨p, rfl, hb, fun e he => by
  rcases List.mem_cons.1 he with rfl | he
  · exact ⟨hl, fun b ⟨_, o, e⟩ => hS b o e⟩
  · rcases List.mem_singleton.1 he with rfl;exact ⟨⟨hA, fun b o e => Nat.le_trans hw.size (hS b o e)⟩, fun _ h => h.elim⟩, List.pairwise_pair.2 ⟨(fun h => nomatch h), (fun h => nomatch h)⟩⟩
end
theorem kB (b : Nat) : ∀ (us : List Value) (k : Nat) (w : World), w.setCells b k us = oN w b k us
 | [], _, _ => rfl
 | _ :: us, k, _ => kB b us (k + 1) _
theorem lL : ∀ (us : List Value) (k : Nat) (cs : List Value), (iz cs k us).length = cs.length
 | [], _, _ => rfl
 | u :: us, k, cs => by rw [iz, lL us, List.length_set]
section
variable {ops : Array Oper} {Q : Exit -> Act -> World -> Prop} {ds : List Deferred} {S0 : Nat -> Prop} {w0 : World} {E0 : List En} {hd : List (List Nat)} {n j s : Nat} {l : List Nat} {G E : List En} {ls : List (Nat × Value)} {ty : TypeId} {pos : String} {af : Array Edge}
end
theorem ot : ∀ (us cs tl : List Value), us.length <= tl.length -> iz (cs ++ tl) cs.length us = cs ++ us ++ tl.drop us.length
 | [], cs, tl, _ => by simp [iz]
 | u :: us, cs, tl, h => by
  obtain ⟨x, t, rfl⟩ : ∃ x t, tl = x :: t := by
   cases tl with
   | nil => simp at h
   | cons x t => exact ⟨x, t, rfl⟩
  have e : (cs ++ x :: t).set cs.length u = (cs ++ [u]) ++ t := by
   rw [List.set_append_right _ _ (Nat.le_refl _)]; simp
  have h2 := ot us (cs ++ [u]) t (by simpa using h);rw [iz, e, show cs.length + 1 = (cs ++ [u]).length by simp, h2];simp
theorem nE.nil (te : TypeId) (sz : Nat) (w : World) : nE te sz none 0 0 [] w := ⟨by simp, Nat.le_refl _, .inl ⟨rfl, rfl⟩⟩
section
variable {P : Program} {Q : Exit -> Act -> World -> Prop} {ds : List Deferred} {S0 : Nat -> Prop} {w0 : World} {n : Nat} {ls : List (Nat × Value)} {es : List En} {c : Code}
theorem yv {te : TypeId} {sz : Nat} (k : eP ds P n S0 w0 c Q ls (.lg te sz none 0 0 [] :: es)) : eP ds P n S0 w0 c Q ls es := fun a w ha hw => k a w ha (hw.pure (e := .lg te sz none 0 0 []) (nE.nil te sz w) (fun b ⟨o, e⟩ => nomatch e))
theorem tS {te : TypeId} {sz : Nat} {ao : Option Addr} {k cap : Nat} {cs : List Value} (hk : 0 < k) (h : ∀ b tl, ao = some ⟨b, 0, none⟩ -> aI tl -> (cs ++ tl).length = cap * sz -> eP ds P n S0 w0 c Q ls (.row b te (cs ++ tl) :: es)) : eP ds P n S0 w0 c Q ls (.lg te sz ao k cap cs :: es) := fun a w ha hw => by
 obtain ⟨h1, h2, ⟨_, h3⟩ | ⟨b, tl, rfl, ht, hr, hl⟩⟩ : nE te sz ao k cap cs w := hw.m0
 · omega
 · exact h b tl rfl ht hl a w ha (hw.conv (fun _ => hr) (fun g e => by obtain rfl : g = b := e; exact ⟨0, rfl⟩) (fun _ => rfl))
end
theorem wF {w : World} {t te ty : TypeId} {sz bytes : Nat} {z : Value} (ht : Tryz.prog.underlying t = some (.slice te)) (hinfo : (Tryz.prog.info? te).map (fun i => (i.zero, i.size, i.bytes)) = some (some z, sz, bytes)) (hzc : z.cells.size = sz) (hzn : ∀ n, aI (Builtin.zeroCells z.cells n).toList)
 {ao : Option Addr} {k cap m : Nat} {cs news : List Value} {x : Value} (h : nE te sz ao k cap cs w) (hb : (k + m) * bytes <= 140737488355328) (hb2 : k + m <= 100000000) (hs : Src Tryz.prog sz t x m news w) :
 ∃ ao' cap' w', (Builtin.append_ #[t, t] ty #[.slice ao k cap, x]).run Tryz.prog w = .ok (.slice ao' (k + m) cap') w' /\ nE te sz ao' (k + m) cap' (cs ++ news) w' /\ aN (fun g => ∃ o, ao = some ⟨g, o, none⟩) w w' /\ ∀ g, (∃ o, ao' = some ⟨g, o, none⟩) -> (∃ o, ao = some ⟨g, o, none⟩) ∨ w.heap.size <= g := by
 obtain ⟨i, hi, hz, hsz, hby⟩ := info_parts hinfo;subst hsz hby;obtain ⟨hk, hkc, hrow⟩ := h;have hnl := hs.newsLen;by_cases h0 : m = 0
 · subst h0;have hn : news = [] := List.eq_nil_of_length_eq_zero (by simpa using hnl);subst hn;exact ⟨ao, cap, w, run_append_nothing w t t ty te i ht hi ao k cap hkc _ hs, by simpa using ⟨hk, hkc, hrow⟩, aN.refl _ _, fun g hg => .inl hg⟩
 · by_cases hroom : k + m <= cap
   · obtain ⟨_, h⟩ | ⟨b, tl, rfl, htl, hr, hl⟩ := hrow
     · omega
     have hmul : (k + m) * i.size <= cap * i.size := Nat.mul_le_mul_right _ hroom;rw [Nat.add_mul] at hmul;have hle : news.length <= tl.length := by rw [List.length_append] at hl; omega
     have hex : ∀ j, j < cap * i.size -> (w.cell? ⟨b, j, none⟩).isSome = true := fun j hj => by rw [hr.cell, List.getElem?_eq_getElem (by omega)]; rfl
     have hset : iz (cs ++ tl) (k * i.size) news = cs ++ news ++ tl.drop news.length := by rw [<- hk]; exact ot news cs tl hle
     have hsc : w.setCells b (0 + k * i.size) news = oN w b (k * i.size) news := by rw [Nat.zero_add, kB]
     refine ⟨_, _, _, run_append_room_src w t t ty te i ht hi b 0 k cap _ m _ hs hroom (fun j hj => hex _ (by omega)) (fun j _ => hr.free _), ?_, ?_, fun g hg => .inl hg⟩
     · rw [hsc];have h2 := hr.oN news (k * i.size);rw [hset] at h2;refine ⟨by rw [List.length_append, hk, hnl, Nat.add_mul], hroom, .inr ⟨b, tl.drop news.length, rfl, fun v hv => htl v (List.mem_of_mem_drop hv), h2, ?_⟩⟩;rw [<- hset, lL]; exact hl
     · rw [hsc];exact (aN.oN news (k * i.size) (aN.refl (· = b) w)).mono (fun g _ e => by obtain rfl : g = b := e; exact ⟨0, rfl⟩)
   · have hold : (Builtin.firstCells i.size k (.slice ao k cap)).run Tryz.prog w.drew = .ok cs.toArray w.drew := by
      obtain ⟨rfl, h⟩ | ⟨b, tl, rfl, htl, hr, hl⟩ := hrow
      · have : k = 0 := by omega
        subst this;have hc : cs = [] := List.eq_nil_of_length_eq_zero (by simpa using hk);subst hc;exact run_firstCells_none w.drew i.size 0 0 cap
      · refine run_firstCells_some w.drew i.size k _ k cap cs hk fun j v hj => ?_;have e : w.drew.cell? ((⟨b, 0, none⟩ : Addr).add j) = w.cell? ⟨b, j, none⟩ := by simp only [Addr.add]; by_cases hj0 : j = 0 <;> simp [hj0]
        rw [e, hr.cell, List.getElem?_append_left (List.getElem?_eq_some_iff.1 hj).1]; exact hj
     have hge := grownCap_ge w (k + m) cap te;refine ⟨_, _, _, run_append_grow_src w t t ty te i z ht hi hz ao k cap cs hold _ m _ hs (by omega) (by omega) (growslice_fits (by omega) hb), ⟨by rw [List.length_append, hk, hnl, Nat.add_mul], hge, .inr ⟨_, (Builtin.zeroCells z.cells (grownCap w (k + m) cap te - (k + m))).toList, rfl, hzn _, ?_, ?_⟩⟩, aN.wy _ w _, fun g ⟨o, e⟩ => by cases e; exact .inr (Nat.le_refl _)⟩
     · have hnew := aa.new w.drew ((cs ++ news).toArray ++ Builtin.zeroCells z.cells (grownCap w (k + m) cap te - (k + m))) te;simpa using hnew
     · have hz2 : (Builtin.zeroCells z.cells (grownCap w (k + m) cap te - (k + m))).toList.length = (grownCap w (k + m) cap te - (k + m)) * i.size := by rw [Array.length_toList, size_zeroCells, hzc]
       rw [List.length_append, List.length_append, hk, hnl, hz2, <- Nat.add_mul, <- Nat.add_mul, show k + m + (grownCap w (k + m) cap te - (k + m)) = grownCap w (k + m) cap te by omega]
section
variable {ops : Array Oper} {Q : Exit -> Act -> World -> Prop} {ds : List Deferred} {S0 : Nat -> Prop} {w0 : World} {E0 : List En} {hd : List (List Nat)} {n j s : Nat} {l : List Nat} {G E : List En} {ls : List (Nat × Value)} {ty : TypeId} {pos : String} {af : Array Edge}
theorem yT {i k cap g c bytes : Nat} {t te : TypeId} {z v : Value} {ao : Option Addr} {cs : List Value} {sa xa : Operand} {E' : Option Addr × Nat -> List En} (ht : Tryz.prog.underlying t = some (.slice te)) (hinfo : (Tryz.prog.info? te).map (fun i => (i.zero, i.size, i.bytes)) = some (some z, 1, bytes)) (hzc : z.cells.size = 1) (hzn : ∀ n, aI (Builtin.zeroCells z.cells n).toList)
 (hb : (k + 1) * bytes <= 140737488355328) (hb2 : k + 1 <= 100000000) (hone : v.oneCell' = true) (hnw : aI cs /\ te ≠ 60) (hm : En.row g te [v] ∈ G ++ E)
 (k' : ∀ q, dy ds ⟨Tryz.prog, ops, Q, S0, w0, E0, hd⟩ n l G (E' q) ((s, .slice q.1 (k + 1) q.2) :: ls))
 (ho : ops[j]? = some ⟨some s, .call { callee := Callee.builtin Builtin.append, args := #[sa, xa], argTypes := #[t, t] }, ty, pos, af, none⟩ := by rfl) (hk : (dK ls (.call { callee := Callee.builtin Builtin.append, args := #[sa, xa], argTypes := #[t, t] }) && Nat.blt s n) = true := by kernel_rfl)
 (ha : cT ls sa = .slice ao k cap := by (simp only [bX, Nat.reduceEqDiff, ↓reduceIte]) <;> rfl)
 (hv : cT ls xa = .slice (some ⟨g, 0, none⟩) 1 c := by (simp only [bX, Nat.reduceEqDiff, ↓reduceIte, av]) <;> rfl)
 (hE : ∀ q, Up (.lg te 1 ao k cap cs) (.lg te 1 q.1 (k + 1) q.2 (cs ++ [v])) i E (E' q) := by intro q; repeat first | exact .z | apply Up.s)
 (hst : fo ops hd j [i] = true := by kernel_rfl) : dy ds ⟨Tryz.prog, ops, Q, S0, w0, E0, hd⟩ n (j :: l) G E ls := fun a hA => by
 simp only [Bool.and_eq_true] at hk;refine ⟨_, ho, .inr (.inr ⟨rfl, rfl, Option Addr × Nat, fun q => .slice q.1 (k + 1) q.2, fun _ => G, E', [i], ⟨(none, 0)⟩, fun X w hX hw => ?_, hst, fun q r hr => (hE q).other (by simpa using hr), fun q => k' q _ (hA.put (Nat.le_of_ble_eq_true hk.2) _)⟩)⟩;have hrow : aa w g te [v] := hw.all _ (List.mem_append_right _ hm);have hl : nE te 1 ao k cap cs w := by
  obtain ⟨m, h1, h2⟩ := (hE (none, 0)).right' X G;exact (hw.perm h1).all _ (List.mem_cons_self ..)
 have hsrc : Src Tryz.prog 1 t (.slice (some ⟨g, 0, none⟩) 1 c) 1 [v] w := Src.ofSlice w ht _ 1 c [v] rfl (fun j u hj => by
  match j, hj with
  | 0, hj => cases hj; exact hrow.cell 0) (fun u hu => by rw [List.mem_singleton.1 hu]; exact hone)
 obtain ⟨ao', cap', w', hrun, h1', hc, hS⟩ := wF (ty := ty) ht hinfo hzc hzn hl hb hb2 hsrc;obtain ⟨m, h1, h2⟩ := (hE (ao', cap')).right' X G;refine xK rfl ?_;show mK _ _ ((execOp a.eval _).run _ w);rw [hA.exec (o := ⟨some s, .call { callee := Callee.builtin Builtin.append, args := #[sa, xa], argTypes := #[t, t] }, ty, pos, af, none⟩) hk.1];have e : (execOp (cT ls) ⟨some s, .call { callee := Callee.builtin Builtin.append, args := #[sa, xa], argTypes := #[t, t] }, ty, pos, af, none⟩).run Tryz.prog w = .ok (.value (.slice ao' (k + 1) cap')) w' := by
  simp [execOp, resolve, invoke, builtin, ha, hv, hrun, Result.andThen]
 rw [e];refine ⟨(ao', cap'), rfl, Fr.perm ((hw.perm h1).cD (e := .lg te 1 ao k cap cs) (e' := .lg te 1 ao' (k + 1) cap' (cs ++ [v])) rfl hc (fun x hx _ => ?_) (fun _ h => h) h1' hS) h2.symm⟩;rintro b ⟨o, rfl⟩;obtain ⟨_, _, ⟨h, _⟩ | ⟨b', tl, h, ht, hr, _⟩⟩ := hl
 · cases h
 · cases h; exact ⟨_, _, hr, hnw.1.append ht, hnw.2⟩
end
theorem xd : (Tryz.prog.info? 22).map (fun i => (i.zero, i.size, i.bytes)) = some (some (.slice none 0 0), 1, 24) := by kernel_rfl
theorem sS : (Tryz.prog.info? 3).map (fun i => (i.zero, i.size, i.bytes)) = some (some (.int .i64 0), 1, 8) := by kernel_rfl
theorem pW (z : Value) (hz : z.cells = #[z]) (hn : ∀ n, z ≠ .int .u64 n) (n : Nat) : aI (Builtin.zeroCells z.cells n).toList := by
 rw [hz];intro v hv k;unfold Builtin.zeroCells at hv;simp only [Array.toList_map, List.mem_map, Array.mem_toList_iff, Array.mem_range] at hv;obtain ⟨i, _, rfl⟩ := hv;have h2 : i % 1 = 0 := Nat.mod_one i;simp [h2];exact hn k
theorem Fr.zI {S0 : Nat -> Prop} {w0 w : World} {es : List En} (h : Fr S0 w0 w es) : ∀ {X : List En}, (∀ x ∈ X, x.F w /\ ∀ b, ¬ x.S b) -> Fr S0 w0 w (X ++ es)
 | [], _ => h
 | x :: X, hx => (Fr.zI h (X := X) fun y hy => hx y (List.mem_cons_of_mem _ hy)).pure (hx x (List.mem_cons_self ..)).1 (hx x (List.mem_cons_self ..)).2
section
variable {P : Program} {ops : Array Oper} {Q : Exit -> Act -> World -> Prop} {ds : List Deferred} {S0 : Nat -> Prop} {w0 : World} {E0 : List En} {hd : List (List Nat)} {n j s : Nat} {l : List Nat} {G E : List En} {ls : List (Nat × Value)} {op : Op} {ty : TypeId} {pos : String} {af : Array Edge} {f : FuncId} {args : Array Value}
theorem cUp {α : Type} {mk : α -> Value} {e : En} {e' : α -> En} {ens : α -> List En} {i : Nat} {E' : α -> List En}
 (c : ∀ w, Fr S0 w0 w (G ++ E) -> Calls P f args w fun r w' => ∃ p, r = .returned (mk p) /\ aN e.S w w' /\ (e' p).F w' /\ (∀ b, (e' p).S b -> e.S b ∨ w.heap.size <= b) /\ ∀ x ∈ ens p, x.F w' /\ ∀ b, ¬ x.S b)
 (hwl : ∀ w, e.F w -> Wl e.S w)
 (k : ∀ p, dy ds ⟨P, ops, Q, S0, w0, E0, hd⟩ n l (ens p ++ G) (E' p) ((s, mk p) :: ls))
 (hwr : e.wr = true := by rfl) (hne : Nonempty α := by infer_instance)
 (ho : ops[j]? = some ⟨some s, op, ty, pos, af, none⟩ := by rfl) (hk : (!bF op && !cX op && dK ls op && Nat.blt s n) = true := by kernel_rfl)
 (hr : ∀ w, (execOp (cT ls) ⟨some s, op, ty, pos, af, none⟩).run P w = .ok (.enter f args) w := by intro w; (try simp only [av]); go_simp <;> with_reducible rfl)
 (hE : ∀ p, Up e (e' p) i E (E' p) := by intro p; repeat first | exact .z | apply Up.s)
 (hst : fo ops hd j [i] = true := by kernel_rfl) : dy ds ⟨P, ops, Q, S0, w0, E0, hd⟩ n (j :: l) G E ls := fun a ha => by
 simp only [Bool.and_eq_true, Bool.not_eq_true'] at hk;refine ⟨_, ho, .inr (.inr ⟨hk.1.1.1, hk.1.1.2, α, mk, fun p => ens p ++ G, E', [i], hne, fun X w hX hw => ?_, hst, fun p r hr => (hE p).other (by simpa using hr), fun p => k p _ (ha.put (Nat.le_of_ble_eq_true hk.2) _)⟩)⟩;refine xK rfl ?_;show mK P _ ((execOp a.eval _).run P w);rw [ha.exec hk.1.2, hr w];refine (c w (hw.sub (List.sublist_append_right ..))).mono ?_;rintro r w' ⟨p, rfl, hc, hF, hS, hens⟩;obtain ⟨m, h1, h2⟩ := (hE p).right' X G;have h0 := hw.perm h1;have h3 := Fr.zI (Fr.perm (h0.cD hwr (e' := e' p) hc (fun x hx hl => hwl w h0.m0) (fun _ h => h) hF hS) h2.symm) hens;refine ⟨_, rfl, p, rfl, h3.perm ?_⟩;rw [List.append_assoc];exact (List.perm_append_comm_assoc (ens p) X (G ++ E' p))
end
theorem nE.rl {te : TypeId} {ao : Option Addr} {k cap : Nat} {cs : List Value} {w : World} (h : nE te 1 ao k cap cs w) : u4 ao cs w := fun hl => by
 obtain ⟨h1, h2, ⟨_, h3⟩ | ⟨b, tl, e, _, hr, _⟩⟩ := h
 · omega
 · exact ⟨b, e, hr.lt, fun i v hv => by rw [hr.cell, List.getElem?_append_left (List.getElem?_eq_some_iff.1 hv).1]; exact hv⟩
section
variable {P : Program} {Q : Exit -> Act -> World -> Prop} {ds : List Deferred} {S0 : Nat -> Prop} {w0 : World} {n : Nat} {ls : List (Nat × Value)} {es : List En} {c : Code}
theorem lrsW {L : Nat} {hs : List (Option Addr × Nat)} {R : List (List Int)} (t : Nat) (hm : En.zM L hs R ∈ es) (ht : t < R.length) (k : eP ds P n S0 w0 c Q ls (.ls L (hs.getD t (none, 0)).1 (R.getD t []) :: es)) : eP ds P n S0 w0 c Q ls es := fun a w ha hw => by
 have hA : ∀ t, t < R.length -> aL w L (hs.getD t (none, 0)).1 (R.getD t []) := hw.all _ hm;refine k a w ha (hw.cons (e := .ls L (hs.getD t (none, 0)).1 (R.getD t [])) (hA t ht) (fun e' he' => ⟨(fun q => nomatch q), fun q g hg ⟨hl, o, e⟩ => ?_⟩) (fun q => nomatch q));exact hw.apart he' hm q rfl hg ⟨t, ht, hl, o, e⟩
theorem rlW {ao : Option Addr} {cs : List Value} {v : Value} (i : Nat) (hm : En.rl ao cs ∈ es) (hi : cs[i]? = some v) (k : ∀ b, ao = some ⟨b, 0, none⟩ -> eP ds P n S0 w0 c Q ls (.cell ⟨b, i, none⟩ v :: es)) : eP ds P n S0 w0 c Q ls es := fun a w ha hw => by
 have hl : 0 < cs.length := by have := (List.getElem?_eq_some_iff.1 hi).1; omega
 obtain ⟨b, e, hb, hc⟩ := (hw.all _ hm : u4 ao cs w) hl;exact k b e a w ha (hw.cellOf hm rfl ⟨hl, 0, e⟩ (hc i v hi))
theorem zz {L : Nat} {ao : Option Addr} {xs : List Int} (hm : En.ls L ao xs ∈ es) (hl : 0 < xs.length) (k : ∀ b o, ao = some ⟨b, o, none⟩ -> eP ds P n S0 w0 c Q ls es) : eP ds P n S0 w0 c Q ls es := fun a w ha hw => by
 obtain ⟨b, o, e, _⟩ := (hw.all _ hm : aL w L ao xs) hl;exact k b o e a w ha hw
end
section
variable {S0 : Nat -> Prop} {w0 w : World} {e : En} {es : List En}
theorem Fr.o6 {X : List En} (h : Fr S0 w0 w (e :: es)) (hw : e.wr = true) (hX : ∀ x ∈ X, x.F w /\ ∀ b, x.S b -> e.S b) (hp : X.Pairwise Ap) : Fr S0 w0 w (X ++ es) := by
 have hs := List.pairwise_cons.1 h.sep;refine ⟨h.bs, fun x hx => (List.mem_append.1 hx).elim (fun q => (hX x q).1) (fun q => h.all x (List.mem_cons_of_mem _ q)), List.pairwise_append.2 ⟨hp, hs.2, fun x hx y hy => ⟨fun _ b h1 h2 => (hs.1 y hy).1 hw b ((hX x hx).2 b h1) h2, fun q b h1 h2 => (hs.1 y hy).2 q b h1 ((hX x hx).2 b h2)⟩⟩, fun x hx q b hb => ?_⟩;rcases List.mem_append.1 hx with hx | hx
 · exact h.own e (List.mem_cons_self ..) hw b ((hX x hx).2 b hb)
 · exact h.own x (List.mem_cons_of_mem _ hx) q b hb
theorem Fr.tR {X : List En} (h : Fr S0 w0 w (X ++ es)) (he : e.F w) (hS : ∀ b, e.S b -> ∃ x ∈ X, x.wr = true /\ x.S b) : Fr S0 w0 w (e :: es) := by
 have hs := List.pairwise_append.1 h.sep;refine ⟨h.bs, fun x hx => (List.mem_cons.1 hx).elim (fun q => q ▸ he) (fun q => h.all x (List.mem_append_right _ q)), List.pairwise_cons.2 ⟨fun y hy => ⟨fun _ b h1 h2 => ?_, fun q b h1 h2 => ?_⟩, hs.2.1⟩, fun x hx q b hb => ?_⟩
 · obtain ⟨x, hx, hw, hb⟩ := hS b h1;exact (hs.2.2 x hx y hy).1 hw b hb h2
 · obtain ⟨x, hx, hw, hb⟩ := hS b h2;exact (hs.2.2 x hx y hy).2 q b h1 hb
 · rcases List.mem_cons.1 hx with rfl | hx
   · obtain ⟨y, hy, hw, hb'⟩ := hS b hb;exact h.own y (List.mem_append_left _ hy) hw b hb'
   · exact h.own x (List.mem_append_right _ hx) q b hb
theorem ic {α : Type} {l : List α} {x d : α} (t : Nat) : (l ++ [x]).getD t d = if t < l.length then l.getD t d else if t = l.length then x else d := by
 by_cases h : t < l.length
 · simp [h, List.getElem?_append_left h]
 · rw [if_neg h];by_cases h2 : t = l.length
   · subst h2; simp
   · rw [if_neg h2];rw [List.getD_eq_getElem?_getD, List.getElem?_eq_none (by simp; omega)]; rfl
theorem Fr.oW {gs : List Nat} {E : List (List Int)} {g x x' : Nat} {ps : List P4} {tl : List Value} {v : List Int} (hl : gs.length = E.length) (hx : E.length <= x) (hx' : E.length < x') (hn : aI tl)
 (h : Fr S0 w0 w (.row g 37 (rn ps tl) :: .ns ps v :: .iR x gs E :: es)) : Fr S0 w0 w (.iR x' (gs ++ [g]) (E ++ [v]) :: es) /\ ∀ t, t < E.length -> gs.getD t 0 ≠ g := by
 have hr : aa w g 37 (rn ps tl) := h.m0;have hns : bQ w ps v := h.m1;have hF : y9 x gs E w := h.m2;have hs := List.pairwise_cons.1 h.sep;refine ⟨Fr.tR (X := [.row g 37 (rn ps tl), .ns ps v, .iR x gs E]) h (fun t ht hne => ?_) fun b ⟨t, ht, hne, e⟩ => ?_, fun t ht e => ?_⟩
 · rw [List.length_append] at ht;rw [ic, ic, hl];by_cases q : t < E.length
   · rw [if_pos q, if_pos q]; exact hF t q (by omega)
   · have e : t = E.length := by simp at ht; omega
     rw [if_neg q, if_neg q, if_pos e, if_pos e];exact ⟨ps, tl, hn, hr, hns⟩
 · rw [List.length_append] at ht;rw [ic, hl] at e;by_cases q : t < E.length
   · rw [if_pos q] at e;exact ⟨.iR x gs E, by simp, rfl, t, q, by omega, e⟩
   · rw [if_neg q, if_pos (by simp at ht; omega)] at e;exact ⟨.row g 37 (rn ps tl), by simp, rfl, e⟩
 · exact (hs.1 (.iR x gs E) (by simp)).1 rfl g rfl ⟨t, ht, by omega, e.symm⟩
theorem Fr.rws0 (h : Fr S0 w0 w es) : Fr S0 w0 w (.iR 0 [] [] :: es) := h.cons (fun t ht => absurd ht (Nat.not_lt_zero _)) (fun e' _ => ⟨fun _ b ⟨t, ht, _⟩ => absurd ht (Nat.not_lt_zero _), fun _ b _ ⟨t, ht, _⟩ => absurd ht (Nat.not_lt_zero _)⟩) (fun _ b ⟨t, ht, _⟩ => absurd ht (Nat.not_lt_zero _))
end
theorem zO {P : Program} {Q : Exit -> Act -> World -> Prop} {ds : List Deferred} {S0 : Nat -> Prop} {w0 : World} {n : Nat} {ls : List (Nat × Value)} {es : List En} {c : Code} (k : eP ds P n S0 w0 c Q ls (.iR 0 [] [] :: es)) : eP ds P n S0 w0 c Q ls es := fun a w ha hw => k a w ha hw.rws0
def hG (c : Nat) (gs : List Nat) : List Value := gs.map fun g => .slice (some ⟨g, 0, none⟩) c c
theorem iB (c : Nat) (gs : List Nat) : (hG c gs).length = gs.length := by simp [hG]
theorem An {c t : Nat} {gs : List Nat} (tl : List Value) (h : t < gs.length) : (hG c gs ++ tl)[t]? = some (.slice (some ⟨gs.getD t 0, 0, none⟩) c c) := by
 rw [List.getElem?_append_left (by rw [iB]; exact h)];simp [hG, h]
theorem tX (c : Nat) (gs : List Nat) (g : Nat) : hG c gs ++ [.slice (some ⟨g, 0, none⟩) c c] = hG c (gs ++ [g]) := by simp [hG]
theorem gG (c : Nat) : ∀ gs : List Nat, aI (hG c gs)
 | [] => aI.nil
 | _ :: gs => aI.slice (gG c gs)
def iL (ns : List Nat) : List Value := ns.map fun x : Nat => Value.int .i64 (x : Int)
theorem oQ (ns : List Nat) : (iL ns).length = ns.length := by simp [iL]
theorem Ax {t : Nat} {ns : List Nat} (tl : List Value) (h : t < ns.length) : (iL ns ++ tl)[t]? = some (.int .i64 ((ns.getD t 0 : Nat) : Int)) := by
 rw [List.getElem?_append_left (by rw [oQ]; exact h)];simp [iL, h]
theorem tB (ns : List Nat) (x : Nat) : iL ns ++ [.int .i64 (x : Int)] = iL (ns ++ [x]) := by simp [iL]
theorem iF : ∀ ns : List Nat, aI (iL ns)
 | [] => aI.nil
 | _ :: ns => aI.i64 (iF ns)
theorem lK {c t g : Nat} {gs : List Nat} (tl : List Value) (h : t < gs.length) (hg : gs.getD t 0 = g) : (hG c gs ++ tl)[t]? = some (.slice (some ⟨g, 0, none⟩) c c) := by rw [An tl h, hg]
theorem np {t x : Nat} {ns : List Nat} (tl : List Value) (h : t < ns.length) (hx : ns.getD t 0 = x) : (iL ns ++ tl)[t]? = some (.int .i64 (x : Int)) := by rw [Ax tl h, hx]
def v7 (o gs : List Nat) (E : List (List Int)) (w : World) : Prop := ∀ t, t < E.length -> t ∉ o -> ∃ (ps : List P4) (tl : List Value), aI tl /\ aa w (gs.getD t 0) 37 (rn ps tl) /\ bQ w ps (E.getD t [])
abbrev En.eI (o gs : List Nat) (E : List (List Int)) : En := .fact true true (fun g => ∃ t, t < E.length /\ t ∉ o /\ g = gs.getD t 0) (v7 o gs E)
 (fun h b ⟨t, ht, hx, e⟩ => by
  obtain ⟨ps, tl, _, hr, _⟩ := h t ht hx;rw [e]; exact hr.lt)
 (fun h hc hT hs t ht hx => by
  obtain ⟨ps, tl, hn, hr, h1, h2⟩ := h t ht hx;exact ⟨ps, tl, hn, hc.row hr (hs _ ⟨t, ht, hx, rfl⟩), h1, fun i a => hc.num (hT rfl).bI (h2 i a)⟩)
section
variable {S0 : Nat -> Prop} {w0 w : World} {es : List En} {gs o : List Nat} {E : List (List Int)}
theorem Fr.AG {x : Nat} (hx : E.length <= x) (h : Fr S0 w0 w (.iR x gs E :: es)) : Fr S0 w0 w (.eI [] gs E :: es) := h.conv (fun h t ht _ => h t ht (by omega)) (fun b ⟨t, ht, _, e⟩ => ⟨t, ht, by omega, e⟩) (fun _ => rfl)
theorem Fr.rwoT {t : Nat} (ht : t < E.length) (hto : t ∉ o) (hi : ∀ a b, a < E.length -> b < E.length -> gs.getD a 0 = gs.getD b 0 -> a = b) (h : Fr S0 w0 w (.eI o gs E :: es)) : ∃ ps tl, aI tl /\ ps.length = (E.getD t []).length /\ Fr S0 w0 w (.row (gs.getD t 0) 37 (rn ps tl) :: .ns ps (E.getD t []) :: .eI (t :: o) gs E :: es) := by
 have hF : v7 o gs E w := h.m0;obtain ⟨ps, tl, hn, hr, hns⟩ := hF t ht hto;refine ⟨ps, tl, hn, hns.1, h.o6 (X := [.row (gs.getD t 0) 37 (rn ps tl), .ns ps (E.getD t []), .eI (t :: o) gs E]) rfl (fun x hx => ?_) ?_⟩
 · simp only [List.mem_cons, List.mem_nil_iff, or_false] at hx;rcases hx with rfl | rfl | rfl
   · exact ⟨hr, fun b e => ⟨t, ht, hto, e⟩⟩
   · exact ⟨hns, fun _ h => h.elim⟩
   · exact ⟨fun s hs hso => hF s hs fun q => hso (List.mem_cons_of_mem _ q), fun b ⟨s, hs, hso, e⟩ => ⟨s, hs, fun q => hso (List.mem_cons_of_mem _ q), e⟩⟩
 · have hne : ∀ b, (∃ s, s < E.length /\ s ∉ t :: o /\ b = gs.getD s 0) -> b ≠ gs.getD t 0 := fun b ⟨s, hs, hso, e⟩ e' => hso (by rw [hi s t hs ht (e.symm.trans e')]; exact List.mem_cons_self ..);refine .cons (fun x hx => ?_) (.cons (fun x hx => ?_) (.cons (fun x hx => (List.not_mem_nil hx).elim) .nil))
   · simp only [List.mem_cons, List.mem_nil_iff, or_false] at hx;rcases hx with rfl | rfl
     · exact ⟨fun _ _ _ h => h, fun q => nomatch q⟩
     · exact ⟨fun _ b hb hb' => hne b hb' hb, fun _ b hb' hb => hne b hb' hb⟩
   · simp only [List.mem_cons, List.mem_nil_iff, or_false] at hx;rcases hx with rfl;exact ⟨(fun q => nomatch q), fun _ _ _ h => h⟩
theorem Fr.qo {t : Nat} {ps : List P4} {tl : List Value} {xs : List Int} (ht : t < E.length) (hto : t ∉ o) (hn : aI tl)
 (h : Fr S0 w0 w (.row (gs.getD t 0) 37 (rn ps tl) :: .ns ps xs :: .eI (t :: o) gs E :: es)) : Fr S0 w0 w (.eI o gs (E.set t xs) :: es) := by
 have hr : aa w (gs.getD t 0) 37 (rn ps tl) := h.m0;have hns : bQ w ps xs := h.m1;have hF : v7 (t :: o) gs E w := h.m2;refine Fr.tR (X := [.row (gs.getD t 0) 37 (rn ps tl), .ns ps xs, .eI (t :: o) gs E]) h (fun s hs hso => ?_) fun b ⟨s, hs, hso, e⟩ => ?_
 · rw [List.length_set] at hs;by_cases q : s = t
   · subst q;exact ⟨ps, tl, hn, hr, by rw [show (E.set s xs).getD s [] = xs by simp [ht]]; exact hns⟩
   · obtain ⟨ps', tl', a1, a2, a3⟩ := hF s hs (by simp [q, hso]);exact ⟨ps', tl', a1, a2, by rw [show (E.set t xs).getD s [] = E.getD s [] by simp [List.getElem?_set_ne (fun e => q e.symm)]]; exact a3⟩
 · rw [List.length_set] at hs;by_cases q : s = t
   · subst q; exact ⟨.row (gs.getD s 0) 37 (rn ps tl), by simp, rfl, e⟩
   · exact ⟨.eI (t :: o) gs E, by simp, rfl, s, hs, by simp [q, hso], e⟩
theorem Fr.rwoP {gs' : List Nat} {E' : List (List Int)} (f : Nat -> Nat) (hl : E'.length = E.length) (hf : ∀ t, t < E.length -> f t < E.length) (hg : ∀ t, t < E.length -> gs'.getD t 0 = gs.getD (f t) 0) (hE : ∀ t, t < E.length -> E'.getD t [] = E.getD (f t) []) (h : Fr S0 w0 w (.eI [] gs E :: es)) : Fr S0 w0 w (.eI [] gs' E' :: es) :=
 h.conv (fun h t ht _ => by rw [hl] at ht; rw [hg t ht, hE t ht]; exact h (f t) (hf t ht) (by simp)) (fun b ⟨t, ht, _, e⟩ => by rw [hl] at ht; exact ⟨f t, hf t ht, by simp, by rw [e, hg t ht]⟩) (fun _ => rfl)
end
section
variable {P : Program} {Q : Exit -> Act -> World -> Prop} {ds : List Deferred} {S0 : Nat -> Prop} {w0 : World} {n : Nat} {ls : List (Nat × Value)} {es : List En} {c : Code} {gs o : List Nat} {E : List (List Int)}
theorem ur (t : Nat) (ht : t < E.length) (hto : t ∉ o) (hi : ∀ a b, a < E.length -> b < E.length -> gs.getD a 0 = gs.getD b 0 -> a = b) (k : ∀ g ps tl, gs.getD t 0 = g -> aI tl -> ps.length = (E.getD t []).length -> eP ds P n S0 w0 c Q ls (.row g 37 (rn ps tl) :: .ns ps (E.getD t []) :: .eI (t :: o) gs E :: es)) : eP ds P n S0 w0 c Q ls (.eI o gs E :: es) := fun a w ha hw => by
 obtain ⟨ps, tl, h1, h2, h3⟩ := hw.rwoT ht hto hi;exact k _ ps tl rfl h1 h2 a w ha h3
theorem vU {es' : List En} (h : ∀ w, Fr S0 w0 w es -> Fr S0 w0 w es') (k : eP ds P n S0 w0 c Q ls es') : eP ds P n S0 w0 c Q ls es := fun a w ha hw => k a w ha (h w hw)
theorem vI {A : Prop} (hA : ∀ w, Fr S0 w0 w es -> A) (k : A -> eP ds P n S0 w0 c Q ls es) : eP ds P n S0 w0 c Q ls es := fun a w ha hw => k (hA w hw) a w ha hw
end
def ph {α : Type} (l : List α) (k p : Nat) (d : α) : List α := (l.set p (l.getD k d)).set k (l.getD p d)
theorem mh {α : Type} (l : List α) (k p : Nat) (d : α) : (ph l k p d).length = l.length := by simp [ph]
end Go.Proofs.YtjjlmfmoihooiaaGreat
namespace Go.Proofs.YtjjlmfmoihooiaaGreat
def sm : Nat -> (Nat -> Int) -> Int
 | 0, _ => 0
 | n + 1, f => sm n f + f n
theorem aS {n : Nat} {f g : Nat -> Int} (h : ∀ k, k < n -> f k = g k) : sm n f = sm n g := by
 induction n with
 | zero => rfl
 | succ n ih => unfold sm; rw [ih (fun k hk => h k (by omega)), h n (by omega)]
theorem c9 {n : Nat} {f : Nat -> Int} (h : ∀ k, k < n -> f k = 0) : sm n f = 0 := by
 induction n with
 | zero => rfl
 | succ n ih => unfold sm; rw [ih (fun k hk => h k (by omega)), h n (by omega)]; rfl
theorem kQ (n : Nat) (f g : Nat -> Int) : sm n (fun k => f k + g k) = sm n f + sm n g := by
 induction n with
 | zero => rfl
 | succ n ih => simp only [sm, ih]; omega
theorem A0 (n : Nat) (f g : Nat -> Int) : sm n (fun k => f k - g k) = sm n f - sm n g := by
 induction n with
 | zero => rfl
 | succ n ih => simp only [sm, ih]; omega
theorem gM (n : Nat) (c : Int) (f : Nat -> Int) : sm n (fun k => c * f k) = c * sm n f := by
 induction n with
 | zero => simp [sm]
 | succ n ih => simp only [sm, ih, Int.mul_add]
theorem pG (n : Nat) (c : Int) (f : Nat -> Int) : sm n (fun k => f k * c) = sm n f * c := by
 induction n with
 | zero => simp [sm]
 | succ n ih => simp only [sm, ih, Int.add_mul]
theorem tp (n m : Nat) (f : Nat -> Nat -> Int) : sm n (fun i => sm m (fun j => f i j)) = sm m (fun j => sm n (fun i => f i j)) := by
 induction n with
 | zero => exact (c9 (fun _ _ => rfl)).symm
 | succ n ih => simp only [sm, ih, kQ]
theorem gH {n : Nat} {f : Nat -> Int} (i : Nat) (hi : i < n) (h : ∀ k, k < n -> k ≠ i -> f k = 0) : sm n f = f i := by
 induction n with
 | zero => omega
 | succ n ih =>
  unfold sm;by_cases e : i = n
  · subst e; rw [c9 (fun k hk => h k (by omega) (by omega))]; omega
  · rw [ih (by omega) (fun k hk hne => h k (by omega) hne), h n (by omega) (fun e' => e e'.symm)]; omega
theorem oK {n : Nat} {f : Nat -> Int} {B : Nat} (h : ∀ k, k < n -> (f k).natAbs <= B) : (sm n f).natAbs <= n * B := by
 induction n with
 | zero => simp [sm]
 | succ n ih =>
  unfold sm;have h1 := ih (fun k hk => h k (by omega));have h2 := h n (by omega);have h3 := Int.natAbs_add_le (sm n f) (f n);rw [Nat.succ_mul]; omega
theorem j6 (n m : Nat) (f : Nat -> Int) : sm (n + m) f = sm n f + sm m (fun k => f (n + k)) := by
 induction m with
 | zero => simp [sm]
 | succ m ih => rw [<- Nat.add_assoc]; simp only [sm, ih]; omega
theorem pV : ∀ (n : Nat) (f : Nat -> Nat), (∀ i, i <= n -> f i < n) -> ∃ i j, i < j /\ j <= n /\ f i = f j
 | 0, f, h => by have := h 0 (Nat.le_refl _); omega
 | n + 1, f, h => by
  by_cases hc : ∃ i, i <= n /\ f i = f (n + 1)
  · obtain ⟨i, hi, he⟩ := hc;exact ⟨i, n + 1, by omega, Nat.le_refl _, he⟩
  · have hn : ∀ i, i <= n -> f i ≠ f (n + 1) := fun i hi he => hc ⟨i, hi, he⟩;obtain ⟨i, j, hij, hj, he⟩ := pV n (fun i => if f i = n then f (n + 1) else f i) (fun i hi => by
     have h1 := h i (by omega);have h2 := h (n + 1) (Nat.le_refl _);have h3 := hn i hi;split <;> omega)
    refine ⟨i, j, hij, by omega, ?_⟩;have h1 := hn i (by omega);have h2 := hn j hj;split at he <;> split at he <;> omega
def jy (Q : Nat) (v : Nat -> Nat) : Nat -> Nat
 | 0 => 0
 | s + 1 => jy Q v s + v s * Q ^ s
theorem mv {Q : Nat} {v : Nat -> Nat} : ∀ {s : Nat}, (∀ j, j < s -> v j < Q) -> jy Q v s < Q ^ s
 | 0, _ => by simp [jy]
 | s + 1, h => by
  have h1 := mv (s := s) (fun j hj => h j (by omega));have h2 := h s (by omega);have h3 : (v s + 1) * Q ^ s <= Q * Q ^ s := Nat.mul_le_mul_right _ h2;rw [Nat.succ_mul] at h3;rw [Nat.pow_succ, Nat.mul_comm];unfold jy; omega
theorem r7 {Q : Nat} {u v : Nat -> Nat} : ∀ {s : Nat}, (∀ j, j < s -> u j < Q) -> (∀ j, j < s -> v j < Q) -> jy Q u s = jy Q v s -> ∀ j, j < s -> u j = v j
 | 0, _, _, _, j, hj => by omega
 | s + 1, hu, hv, he, j, hj => by
  have h1 := mv (s := s) (fun j hj => hu j (by omega));have h2 := mv (s := s) (fun j hj => hv j (by omega));have hp : 0 < Q ^ s := by omega
  unfold jy at he;have d1 : (jy Q u s + u s * Q ^ s) / Q ^ s = u s := by rw [Nat.add_mul_div_right _ _ hp, Nat.div_eq_of_lt h1, Nat.zero_add]
  have d2 : (jy Q v s + v s * Q ^ s) / Q ^ s = v s := by rw [Nat.add_mul_div_right _ _ hp, Nat.div_eq_of_lt h2, Nat.zero_add]
  have hs : u s = v s := by rw [<- d1, <- d2, he]
  by_cases e : j = s
  · subst e; exact hs
  · rw [hs] at he;exact r7 (s := s) (fun j hj => hu j (by omega)) (fun j hj => hv j (by omega)) (by omega) j (by omega)
theorem j7 (Q n : Nat) : ∀ s, jy Q (fun k => n / Q ^ k % Q) s = n % Q ^ s
 | 0 => by simp [jy, Nat.mod_one]
 | s + 1 => by
  unfold jy;rw [j7 Q n s, Nat.mod_pow_succ, Nat.mul_comm]
theorem At (r s M : Nat) (A : Nat -> Nat -> Int) (hs : s < r) (hA : ∀ k j, k < r -> j < s -> (A k j).natAbs <= M) :
 ∃ x : Nat -> Int, (∃ k, k < r /\ x k ≠ 0) /\ (∀ k, k < r -> (x k).natAbs <= (2 * r * M + 1) ^ s) /\ ∀ j, j < s -> sm r (fun k => x k * A k j) = 0 := by
 obtain ⟨T, hT⟩ : ∃ T, (2 * r * M + 1) ^ s = T := ⟨_, rfl⟩;obtain ⟨V, hV⟩ : ∃ V, r * (T * M) = V := ⟨_, rfl⟩;have hTp : 0 < T := by rw [<- hT]; exact Nat.pow_pos (by omega)
 have hy : ∀ n j, j < s -> (sm r (fun k => ((n / (T + 1) ^ k % (T + 1) : Nat) : Int) * A k j)).natAbs <= V := by
  intro n j hj;rw [<- hV];refine oK (fun k hk => ?_);rw [Int.natAbs_mul, Int.natAbs_natCast];have h1 : n / (T + 1) ^ k % (T + 1) < T + 1 := Nat.mod_lt _ (by omega);exact Nat.mul_le_mul (by omega) (hA k j hk hj)
 have hQ : (2 * V + 1) ^ s < (T + 1) ^ r := by
  have h1 : 2 * V + 1 <= (2 * r * M + 1) * (T + 1) := by
   have e1 : (2 * r * M + 1) * (T + 1) = 2 * r * M * T + 2 * r * M + T + 1 := by
    rw [Nat.mul_add, Nat.add_mul]; omega
   have e2 : 2 * r * M * T = 2 * V := by
    rw [<- hV]; simp only [Nat.mul_assoc, Nat.mul_comm, Nat.mul_left_comm]
   omega
  have h2 : (2 * V + 1) ^ s <= T * (T + 1) ^ s := by
   rw [<- hT, <- Nat.mul_pow, hT]; exact Nat.pow_le_pow_left h1 s
  have h3 : T * (T + 1) ^ s < (T + 1) ^ (s + 1) := by
   rw [Nat.pow_succ, Nat.mul_comm];exact Nat.mul_lt_mul_of_pos_left (by omega) (Nat.pow_pos (by omega))
  have h4 : (T + 1) ^ (s + 1) <= (T + 1) ^ r := Nat.pow_le_pow_right (by omega) hs;omega
 obtain ⟨i, j, hij, hj, he⟩ := pV ((2 * V + 1) ^ s) (fun n => jy (2 * V + 1) (fun q => (sm r (fun k => ((n / (T + 1) ^ k % (T + 1) : Nat) : Int) * A k q) + V).toNat % (2 * V + 1)) s) (fun i _ => mv (fun q _ => Nat.mod_lt _ (by omega)));have hq := r7 (fun q _ => Nat.mod_lt _ (by omega)) (fun q _ => Nat.mod_lt _ (by omega)) he;refine ⟨fun k => ((j / (T + 1) ^ k % (T + 1) : Nat) : Int) - ((i / (T + 1) ^ k % (T + 1) : Nat) : Int), ?_, ?_, ?_⟩
 · by_cases hc : ∃ k, k < r /\ j / (T + 1) ^ k % (T + 1) ≠ i / (T + 1) ^ k % (T + 1)
   · obtain ⟨k, hk, hne⟩ := hc;refine ⟨k, hk, ?_⟩
     revert hne
     dsimp only;generalize j / (T + 1) ^ k % (T + 1) = a;generalize i / (T + 1) ^ k % (T + 1) = b;omega
   · exfalso;have hall : ∀ k, k < r -> j / (T + 1) ^ k % (T + 1) = i / (T + 1) ^ k % (T + 1) := fun k hk => Classical.byContradiction fun h => hc ⟨k, hk, h⟩;have e1 := j7 (T + 1) i r;have e2 := j7 (T + 1) j r;have e3 : ∀ s', s' <= r -> jy (T + 1) (fun k => j / (T + 1) ^ k % (T + 1)) s' = jy (T + 1) (fun k => i / (T + 1) ^ k % (T + 1)) s' := by
      intro s' hs';induction s' with
      | zero => rfl
      | succ q ih => simp only [jy]; rw [ih (by omega), hall q (by omega)]
     have e4 := e3 r (Nat.le_refl _);rw [e1, e2, Nat.mod_eq_of_lt (by omega), Nat.mod_eq_of_lt (by omega)] at e4;omega
 · intro k hk;have h1 : j / (T + 1) ^ k % (T + 1) < T + 1 := Nat.mod_lt _ (by omega);have h2 : i / (T + 1) ^ k % (T + 1) < T + 1 := Nat.mod_lt _ (by omega);rw [hT]
   revert h1 h2
   dsimp only;generalize j / (T + 1) ^ k % (T + 1) = a;generalize i / (T + 1) ^ k % (T + 1) = b;omega
 · intro q hq';have h1 := hq q hq';have h2 := hy i q hq';have h3 := hy j q hq';have h4 : sm r (fun k => (((j / (T + 1) ^ k % (T + 1) : Nat) : Int) - ((i / (T + 1) ^ k % (T + 1) : Nat) : Int)) * A k q) = sm r (fun k => ((j / (T + 1) ^ k % (T + 1) : Nat) : Int) * A k q) - sm r (fun k => ((i / (T + 1) ^ k % (T + 1) : Nat) : Int) * A k q) := by
    rw [<- A0]; exact aS (fun k _ => Int.sub_mul ..)
   dsimp only at h1 ⊢;rw [h4];generalize sm r (fun k => ((j / (T + 1) ^ k % (T + 1) : Nat) : Int) * A k q) = a at *;generalize sm r (fun k => ((i / (T + 1) ^ k % (T + 1) : Nat) : Int) * A k q) = b at *;rw [Nat.mod_eq_of_lt (by omega), Nat.mod_eq_of_lt (by omega)] at h1;omega
def Sp (n : Nat) (E : Nat -> Nat -> Int) (v : Nat -> Int) : Prop := ∃ x : Nat -> Int, ∀ j, v j = sm n (fun k => x k * E k j)
theorem Sp.zero (n : Nat) (E : Nat -> Nat -> Int) : Sp n E (fun _ => 0) := ⟨fun _ => 0, fun j => (c9 (fun k _ => Int.zero_mul _)).symm⟩
theorem Sp.congr {n : Nat} {E : Nat -> Nat -> Int} {v w : Nat -> Int} (h : Sp n E v) (e : ∀ j, w j = v j) : Sp n E w := by
 obtain ⟨x, hx⟩ := h;exact ⟨x, fun j => (e j).trans (hx j)⟩
theorem Sp.add {n : Nat} {E : Nat -> Nat -> Int} {v w : Nat -> Int} (h : Sp n E v) (k : Sp n E w) : Sp n E (fun j => v j + w j) := by
 obtain ⟨x, hx⟩ := h; obtain ⟨y, hy⟩ := k;refine ⟨fun k => x k + y k, fun j => ?_⟩;show v j + w j = _;rw [hx, hy, <- kQ]; exact aS (fun k _ => (Int.add_mul ..).symm)
theorem Sp.smul {n : Nat} {E : Nat -> Nat -> Int} {v : Nat -> Int} (c : Int) (h : Sp n E v) : Sp n E (fun j => c * v j) := by
 obtain ⟨x, hx⟩ := h;refine ⟨fun k => c * x k, fun j => ?_⟩;show c * v j = _;rw [hx, <- gM]; exact aS (fun k _ => (Int.mul_assoc ..).symm)
theorem Sp.sub {n : Nat} {E : Nat -> Nat -> Int} {v w : Nat -> Int} (h : Sp n E v) (k : Sp n E w) : Sp n E (fun j => v j - w j) :=
 (h.add (k.smul (-1))).congr (fun j => by omega)
theorem Sp.row {n : Nat} (E : Nat -> Nat -> Int) {k : Nat} (hk : k < n) : Sp n E (E k) := by
 refine ⟨fun i => if i = k then 1 else 0, fun j => ?_⟩;rw [gH k hk (fun i _ hne => by simp [hne])]; simp
theorem Sp.sm {n m : Nat} {E : Nat -> Nat -> Int} {F : Nat -> Nat -> Int} {x : Nat -> Int} (h : ∀ k, k < m -> Sp n E (F k)) : Sp n E (fun j => sm m (fun k => x k * F k j)) := by
 induction m with
 | zero => exact Sp.zero n E
 | succ m ih => exact (ih (fun k hk => h k (by omega))).add ((h m (by omega)).smul (x m))
theorem Sp.trans {n m : Nat} {E F : Nat -> Nat -> Int} {v : Nat -> Int} (hv : Sp m F v) (h : ∀ k, k < m -> Sp n E (F k)) : Sp n E v := by
 obtain ⟨x, hx⟩ := hv;exact (Sp.sm (x := x) h).congr hx
def ba (n : Nat) (E : Nat -> Nat -> Int) (m : Nat) (F : Nat -> Nat -> Int) : Prop := (∀ k, k < n -> Sp m F (E k)) /\ ∀ k, k < m -> Sp n E (F k)
theorem ba.refl (n : Nat) (E : Nat -> Nat -> Int) : ba n E n E := ⟨fun k hk => Sp.row E hk, fun k hk => Sp.row E hk⟩
theorem ba.symm {n m : Nat} {E F : Nat -> Nat -> Int} (h : ba n E m F) : ba m F n E := ⟨h.2, h.1⟩
theorem ba.trans {n m l : Nat} {E F G : Nat -> Nat -> Int} (h : ba n E m F) (k : ba m F l G) : ba n E l G :=
 ⟨fun i hi => (h.1 i hi).trans k.1, fun i hi => (k.2 i hi).trans h.2⟩
theorem ba.of_eq {n : Nat} {E F : Nat -> Nat -> Int} (h : ∀ k, k < n -> ∀ j, E k j = F k j) : ba n E n F :=
 ⟨fun k hk => (Sp.row F hk).congr (h k hk), fun k hk => (Sp.row E hk).congr (fun j => (h k hk j).symm)⟩
structure Ech (n c : Nat) (E : Nat -> Nat -> Int) (l : Nat -> Nat) : Prop where
 inc : ∀ i k, i < k -> k < n -> l i < l k
 lt : ∀ i, i < n -> l i < c
 zero : ∀ i, i < n -> ∀ j, j < l i -> E i j = 0
 pos : ∀ i, i < n -> 0 < E i (l i)
structure eK (n c : Nat) (E : Nat -> Nat -> Int) (l : Nat -> Nat) : Prop extends Ech n c E l where
 red : ∀ i k, i < k -> k < n -> 0 <= E i (l k) /\ E i (l k) < E k (l k)
theorem Ech.at {n c : Nat} {E : Nat -> Nat -> Int} {l : Nat -> Nat} (h : Ech n c E l) (x : Nat -> Int) {k : Nat} (hk : k < n) (h0 : ∀ i, i < k -> x i = 0) : sm n (fun i => x i * E i (l k)) = x k * E k (l k) := by
 refine gH k hk (fun i hi hne => ?_);rcases Nat.lt_or_gt_of_ne hne with hlt | hgt
 · rw [h0 i hlt, Int.zero_mul]
 · rw [h.zero i hi _ (h.inc k i hgt hi), Int.mul_zero]
theorem Ech.small {n c : Nat} {E : Nat -> Nat -> Int} {l : Nat -> Nat} (h : Ech n c E l) (x : Nat -> Int) : ∀ m, m <= n -> (∀ k, k < m -> (sm n (fun i => x i * E i (l k))).natAbs < (E k (l k)).natAbs) -> ∀ k, k < m -> x k = 0
 | 0, _, _, k, hk => by omega
 | m + 1, hm, hs, k, hk => by
  have ih := Ech.small h x m (by omega) (fun k hk => hs k (by omega));by_cases e : k = m
  · subst e;have h1 := hs k (by omega);rw [h.at x (by omega) ih, Int.natAbs_mul] at h1;have h2 : ¬ 0 < (x k).natAbs := fun h3 => by
     have := Nat.mul_le_mul_right (E k (l k)).natAbs h3;omega
    omega
  · exact ih k (by omega)
theorem Ech.none {n c : Nat} {E : Nat -> Nat -> Int} {l : Nat -> Nat} (h : Ech n c E l) {v : Nat -> Int} (hv : Sp n E v) (hs : ∀ k, k < n -> (v (l k)).natAbs < (E k (l k)).natAbs) (j : Nat) : v j = 0 := by
 obtain ⟨x, hx⟩ := hv;have h0 := h.small x n (Nat.le_refl _) (fun k hk => by rw [<- hx]; exact hs k hk);rw [hx, c9 (fun k hk => by rw [h0 k hk, Int.zero_mul])]
theorem Ech.zL {n c : Nat} {E : Nat -> Nat -> Int} {l : Nat -> Nat} (h : Ech n c E l) {v : Nat -> Int} (hv : Sp n E v) (hs : ∀ k, k < n -> v (l k) = 0) (j : Nat) : v j = 0 :=
 h.none hv (fun k hk => by have := h.pos k hk; rw [hs k hk]; omega) j
theorem Ech.lead {n c : Nat} {E : Nat -> Nat -> Int} {l : Nat -> Nat} (h : Ech n c E l) {v : Nat -> Int} (hv : Sp n E v) {q : Nat} (hq : v q ≠ 0) (h0 : ∀ j, j < q -> v j = 0) : ∃ k, k < n /\ l k = q /\ E k q ∣ v q := by
 obtain ⟨x, hx⟩ := hv;have key : ∀ m, m <= n -> (∃ k, k < m /\ l k = q /\ E k q ∣ v q) ∨ (∀ k, k < m -> x k = 0 ∨ q < l k) := by
  intro m;induction m with
  | zero => exact fun _ => .inr (fun k hk => by omega)
  | succ m ih =>
   intro hm;rcases ih (by omega) with h1 | h1
   · obtain ⟨k, hk, h2⟩ := h1; exact .inl ⟨k, by omega, h2⟩
   · by_cases hlt : q < l m
     · exact .inr (fun k hk => by
        by_cases e : k = m
        · subst e; exact .inr hlt
        · exact h1 k (by omega))
     · have hz : ∀ i, i < m -> x i = 0 := fun i hi => (h1 i hi).elim id (fun h2 => by have := h.inc i m hi (by omega); omega);have h3 := h.at x (by omega : m < n) hz;rw [<- hx] at h3;by_cases e : l m = q
       · refine .inl ⟨m, by omega, e, ?_⟩;rw [e] at h3; rw [h3]; exact Int.dvd_mul_left ..
       · have h4 : v (l m) = 0 := h0 _ (by omega);rw [h4] at h3;have h5 := h.pos m (by omega);have h6 : x m = 0 := by
          rcases Int.mul_eq_zero.1 h3.symm with h7 | h7
          · exact h7
          · omega
         exact .inr (fun k hk => by
          by_cases e : k = m
          · subst e; exact .inl h6
          · exact .inl (hz k (by omega)))
 rcases key n (Nat.le_refl _) with h1 | h1
 · exact h1
 · exfalso;apply hq;rw [hx];refine c9 (fun k hk => ?_);rcases h1 k hk with h2 | h2
   · rw [h2, Int.zero_mul]
   · rw [h.zero k hk _ h2, Int.mul_zero]
theorem Ech.same {n m c c' : Nat} {E F : Nat -> Nat -> Int} {l l' : Nat -> Nat} (h : Ech n c E l) (h' : Ech m c' F l') (hs : ba n E m F) : n = m /\ ∀ k, k < n -> l k = l' k /\ E k (l k) = F k (l k) := by
 have one : ∀ {n m c c' : Nat} {E F : Nat -> Nat -> Int} {l l' : Nat -> Nat}, Ech n c E l -> Ech m c' F l' -> ba n E m F -> ∀ k, (∀ i, i < k -> i < n -> i < m -> l i = l' i) -> k < n -> (∀ i, i < k -> i < m) -> k < m /\ l' k <= l k /\ ∀ t, t < m -> l' t = l k -> F t (l k) ∣ E k (l k) := by
  intro n m c c' E F l l' h h' hs k ih hk hkm;obtain ⟨t, ht, e, hd⟩ := h'.lead (hs.1 k hk) (q := l k) (by have := h.pos k hk; omega) (h.zero k hk);have h1 : k <= t := by
   by_cases h2 : k <= t
   · exact h2
   · exfalso;have h3 := ih t (by omega) (by omega) ht;have h4 := h.inc t k (by omega) hk;omega
  have h2 : k < m := by omega
  refine ⟨h2, ?_, ?_⟩
  · rcases Nat.lt_or_eq_of_le h1 with h3 | h3
    · have := h'.inc k t h3 ht; omega
    · subst h3; omega
  · intro t' ht' e';have : t' = t := by
     rcases Nat.lt_trichotomy t' t with h3 | h3 | h3
     · have := h'.inc t' t h3 ht; omega
     · exact h3
     · have := h'.inc t t' h3 ht'; omega
    subst this; exact hd
 have all : ∀ k, (k < n ↔ k < m) /\ (k < n -> l k = l' k /\ E k (l k) = F k (l k)) := by
  intro k;induction k using Nat.strongRecOn with
  | _ k ih =>
   have h1 : k < n -> k < m := fun hk => (one h h' hs k (fun i hi hn _ => ((ih i hi).2 hn).1) hk (fun i hi => (ih i hi).1.1 (by omega))).1;have h2 : k < m -> k < n := fun hk => (one h' h hs.symm k (fun i hi hm _ => ((ih i hi).2 ((ih i hi).1.2 hm)).1.symm) hk (fun i hi => (ih i hi).1.2 (by omega))).1;refine ⟨⟨h1, h2⟩, fun hk => ?_⟩;have h3 := one h h' hs k (fun i hi hn _ => ((ih i hi).2 hn).1) hk (fun i hi => (ih i hi).1.1 (by omega));have h4 := one h' h hs.symm k (fun i hi hm _ => ((ih i hi).2 ((ih i hi).1.2 hm)).1.symm) (h1 hk) (fun i hi => (ih i hi).1.2 (by omega));have e : l k = l' k := by omega
   refine ⟨e, ?_⟩;have d1 := h3.2.2 k (h1 hk) e.symm;have d2 := h4.2.2 k hk e;rw [<- e] at d2;have p1 := h.pos k hk;have p2 := h'.pos k (h1 hk);rw [<- e] at p2;exact Int.dvd_antisymm (Int.le_of_lt p1) (Int.le_of_lt p2) d2 d1
 refine ⟨?_, fun k hk => (all k).2 hk⟩;have h1 := (all n).1;have h2 := (all m).1;omega
theorem eK.unique {n m c c' : Nat} {E F : Nat -> Nat -> Int} {l l' : Nat -> Nat} (h : eK n c E l) (h' : eK m c' F l') (hs : ba n E m F) : n = m /\ (∀ k, k < n -> l k = l' k) /\ ∀ k, k < n -> ∀ j, E k j = F k j := by
 obtain ⟨hnm, hl⟩ := h.toEch.same h'.toEch hs;refine ⟨hnm, fun k hk => (hl k hk).1, fun i hi j => ?_⟩;have hw : Sp n E (fun j => E i j - F i j) := (Sp.row E hi).sub (hs.2 i (by omega));have := h.toEch.none hw (fun k hk => ?_) j
 · omega
 · have hlk := hl k hk;have hp := h.pos k hk;rcases Nat.lt_trichotomy k i with h1 | h1 | h1
   · have e1 : E i (l k) = 0 := h.zero i hi _ (h.inc k i h1 hi);have e2 : F i (l k) = 0 := h'.zero i (by omega) _ (by rw [hlk.1]; exact h'.inc k i h1 (by omega));rw [e1, e2]; omega
   · subst h1;have := hlk.2; omega
   · have r1 := h.red i k h1 hk;have r2 := h'.red i k h1 (by omega);rw [<- hlk.1, <- hlk.2] at r2;omega
def oh (n : Nat) (a : Nat -> Nat -> Int) : Prop := ∀ x : Nat -> Int, (∀ j, sm n (fun k => x k * a k j) = 0) -> ∀ k, k < n -> x k = 0
theorem common : ∀ (n : Nat) (Y : Nat -> Int), (∀ k, k < n -> Y k ≠ 0) -> ∃ d : Int, d ≠ 0 /\ ∀ k, k < n -> Y k ∣ d
 | 0, _, _ => ⟨1, by omega, fun k hk => by omega⟩
 | n + 1, Y, h => by
  obtain ⟨d, hd, hk⟩ := common n Y (fun k hk => h k (by omega));refine ⟨d * Y n, fun e => ?_, fun k hk' => ?_⟩
  · rcases Int.mul_eq_zero.1 e with e | e
    · exact hd e
    · exact h n (by omega) e
  · by_cases e : k = n
    · subst e; exact Int.dvd_mul_left ..
    · exact Int.dvd_mul_of_dvd_left (hk k (by omega))
def tK (n M : Nat) : Nat := n * (n * ((2 * n * M + 1) ^ (n - 1) * M)) * (n * ((2 * n * M + 1) ^ (n - 1) * M))
theorem eK.bound {n c M : Nat} {E : Nat -> Nat -> Int} {l : Nat -> Nat} (h : eK n c E l) {a : Nat -> Nat -> Int} (ha : ∀ k, k < n -> Sp n E (a k)) (hi : oh n a) (hM : ∀ k j, k < n -> (a k j).natAbs <= M) : ∀ i j, i < n -> (E i j).natAbs <= tK n M := by
 obtain ⟨D, hD⟩ : ∃ D, n * ((2 * n * M + 1) ^ (n - 1) * M) = D := ⟨_, rfl⟩;have hy : ∀ i, i < n -> ∃ y : Nat -> Int, Sp n E y /\ (∀ j, (y j).natAbs <= D) /\ (∀ k, k < n -> k ≠ i -> y (l k) = 0) /\ y (l i) ≠ 0 := by
  intro i hin;obtain ⟨x, ⟨k0, hk0, hx0⟩, hxb, hxz⟩ := At n (n - 1) M (fun k q => a k (l (if q < i then q else q + 1))) (by omega) (fun k j hk _ => hM k _ hk);have hz : ∀ k, k < n -> k ≠ i -> sm n (fun t => x t * a t (l k)) = 0 := by
   intro k hk hne;rcases Nat.lt_or_gt_of_ne hne with h1 | h1
   · have := hxz k (by omega);simpa [h1] using this
   · have := hxz (k - 1) (by omega);have e : ¬ k - 1 < i := by omega
     have e2 : k - 1 + 1 = k := by omega
     simpa [e, e2] using this
  have hsp : Sp n E (fun j => sm n (fun k => x k * a k j)) := Sp.sm ha;refine ⟨fun j => sm n (fun k => x k * a k j), hsp, fun j => ?_, hz, fun e => ?_⟩
  · rw [<- hD];refine oK (fun k hk => ?_);rw [Int.natAbs_mul];exact Nat.mul_le_mul (hxb k hk) (hM k j hk)
  · have h0 := h.toEch.zL hsp (fun k hk => by
     by_cases e' : k = i
     · subst e'; exact e
     · exact hz k hk e')
    exact hx0 (hi x h0 k0 hk0)
 have hpiv : ∀ i, i < n -> (E i (l i)).natAbs <= D := by
  intro i hin;obtain ⟨y, hs, hb, hz, hn⟩ := hy i hin;obtain ⟨x, hx⟩ := hs;have h0 : ∀ k, k < i -> x k = 0 := h.toEch.small x i (by omega) (fun k hk => by
   rw [<- hx, hz k (by omega) (by omega)]; have := h.pos k (by omega); omega)
  have h1 := h.toEch.at x hin h0;rw [<- hx] at h1;have h2 := hb (l i);rw [h1, Int.natAbs_mul] at h2;have h3 : 1 <= (x i).natAbs := by
   have : x i ≠ 0 := fun e => hn (by rw [h1, e, Int.zero_mul]);omega
  have h4 := Nat.mul_le_mul_right (E i (l i)).natAbs h3;omega
 have hent : ∀ i k, i < n -> k < n -> (E i (l k)).natAbs <= D := by
  intro i k hin hk;rcases Nat.lt_trichotomy i k with h1 | h1 | h1
  · have := h.red i k h1 hk; have := hpiv k hk; omega
  · subst h1; exact hpiv i hin
  · rw [h.zero i hin _ (h.inc k i h1 hin)]; simp
 intro i j hin;obtain ⟨y, hY⟩ : ∃ y : Nat -> Nat -> Int, ∀ i, i < n -> Sp n E (y i) /\ (∀ j, (y i j).natAbs <= D) /\ (∀ k, k < n -> k ≠ i -> y i (l k) = 0) /\ y i (l i) ≠ 0 := by
  refine ⟨fun i => if hin : i < n then Classical.choose (hy i hin) else fun _ => 0, fun i hin => ?_⟩;simp only [hin, dif_pos];exact Classical.choose_spec (hy i hin)
 obtain ⟨d, hd, hdv⟩ := common n (fun k => y k (l k)) (fun k hk => (hY k hk).2.2.2);obtain ⟨q, hq⟩ : ∃ q : Nat -> Int, ∀ k, k < n -> d = q k * y k (l k) := by
  refine ⟨fun k => d / y k (l k), fun k hk => ?_⟩;exact (Int.ediv_mul_cancel (hdv k hk)).symm
 have hsp : Sp n E (fun j => d * E i j - sm n (fun k => (E i (l k) * q k) * y k j)) := ((Sp.row E hin).smul d).sub (Sp.sm (fun k hk => (hY k hk).1));have h0 := h.toEch.zL hsp (fun m hm => by
  rw [gH m hm (fun k hk hne => by rw [(hY k hk).2.2.1 m hm (fun e => hne e.symm), Int.mul_zero])];rw [Int.mul_assoc, <- hq m hm, Int.mul_comm]; omega) j
 have hb : (sm n (fun k => (E i (l k) * q k) * y k j)).natAbs <= n * (D * d.natAbs * D) := by
  refine oK (fun k hk => ?_);rw [Int.natAbs_mul, Int.natAbs_mul];have h1 : (q k).natAbs <= d.natAbs := by
   have e := congrArg Int.natAbs (hq k hk);rw [Int.natAbs_mul] at e;have h2 : 1 <= (y k (l k)).natAbs := by have := (hY k hk).2.2.2; omega
   have h3 := Nat.mul_le_mul_left (q k).natAbs h2;omega
  exact Nat.mul_le_mul (Nat.mul_le_mul (hent i k hin hk) h1) ((hY k hk).2.1 j)
 have h1 : (d * E i j).natAbs <= n * (D * d.natAbs * D) := by
  have : d * E i j = sm n (fun k => (E i (l k) * q k) * y k j) := by omega
  rw [this]; exact hb
 rw [Int.natAbs_mul] at h1;have h2 : n * (D * d.natAbs * D) = d.natAbs * (n * D * D) := by
  simp only [Nat.mul_comm, Nat.mul_left_comm, Nat.mul_assoc]
 rw [h2] at h1;have h3 := Nat.le_of_mul_le_mul_left h1 (by omega : 0 < d.natAbs);unfold tK;rw [hD]; exact h3
theorem gz (xs : List Int) {i : Nat} (d : Int) (h : i < xs.length) : xs.getD i d = xs[i] := by simp [h]
theorem dY (xs : List Int) {i : Nat} (d : Int) (h : xs.length <= i) : xs.getD i d = d := by simp [h]
theorem smTwo (n k l : Nat) (f : Nat -> Int) (hk : k < n) (hl : l < n) (hkl : k ≠ l) (h : ∀ i < n, i ≠ k -> i ≠ l -> f i = 0) : sm n f = f k + f l := by
 have e : sm n f = sm n (fun i => (if i = k then f i else 0) + (if i = k then 0 else f i)) := aS (fun i _ => by split <;> omega);rw [e, kQ, gH k hk (fun i _ hik => if_neg hik), gH l hl (fun i hi hil => by
  by_cases hik : i = k
  · exact if_pos hik
  · rw [if_neg hik]; exact h i hi hik hil), if_pos rfl, if_neg (fun e => hkl e.symm)]
abbrev Mx := Nat -> Nat -> Int
def ew (i a : Nat) : Nat := if a < i then a else a + 1
def minor (M : Mx) (i : Nat) : Mx := fun a b => M (ew i a) (b + 1)
def gn (i : Nat) : Int := if i % 2 = 0 then 1 else -1
theorem qI (i : Nat) : gn (i + 1) = - gn i := by
 unfold gn
 (repeat' split) <;> first | rfl | omega
def bK : Nat -> Mx -> Int
 | 0, _ => 1
 | n + 1, M => sm (n + 1) fun i => gn i * M i 0 * bK n (minor M i)
theorem bY : ∀ (n : Nat) {M N : Mx}, (∀ i < n, ∀ j < n, M i j = N i j) -> bK n M = bK n N
 | 0, _, _, _ => rfl
 | n + 1, M, N, h => by
  unfold bK;refine aS fun i hi => ?_;rw [h i hi 0 (by omega), bY n (M := minor M i) (N := minor N i) fun a ha b hb => h _ (by unfold ew; split <;> omega) _ (by omega)]
def cD (M : Mx) (k : Nat) (R : Nat -> Int) : Mx := fun a b => if a = k then R b else M a b
theorem fU (M : Mx) (k : Nat) (R : Nat -> Int) : minor (cD M k R) k = minor M k := by
 funext a b;unfold minor cD ew;split <;> rw [if_neg (by omega)]
theorem fu (M : Mx) (k i : Nat) (R : Nat -> Int) (h : i ≠ k) : minor (cD M k R) i = cD (minor M i) (if k < i then k else k - 1) (fun b => R (b + 1)) := by
 funext a b;unfold minor cD ew;by_cases ha : a < i <;> by_cases hk : k < i <;> simp only [ha, hk, if_true, if_false] <;> split <;> split <;> first | rfl | (exfalso; omega)
theorem js : ∀ (n : Nat) (M : Mx) (k : Nat) (c : Int) (U V : Nat -> Int), k < n -> bK n (cD M k fun j => c * U j + V j) = c * bK n (cD M k U) + bK n (cD M k V)
 | n + 1, M, k, c, U, V, hk => by
  unfold bK;rw [<- gM, <- kQ];refine aS fun i hi => ?_;by_cases h : i = k
  · subst h;rw [fU, fU, fU];simp only [cD, if_pos];generalize bK n (minor M i) = d;rw [Int.mul_add, Int.add_mul, <- Int.mul_assoc, <- Int.mul_assoc, Int.mul_comm (gn i) c];simp only [Int.mul_assoc]
  · rw [fu M k i _ h, fu M k i _ h, fu M k i _ h, js n (minor M i) _ c (fun b => U (b + 1)) (fun b => V (b + 1)) (by split <;> omega)];simp only [cD, if_neg h];rw [Int.mul_add, <- Int.mul_assoc, <- Int.mul_assoc, Int.mul_comm _ c, Int.mul_assoc c]
theorem mu : ∀ (n : Nat) (M : Mx) (k : Nat), k + 1 < n -> (∀ j < n, M k j = M (k + 1) j) -> bK n M = 0
 | n + 1, M, k, hk, h => by
  unfold bK;rw [smTwo (n + 1) k (k + 1) _ (by omega) (by omega) (by omega) fun i hi h1 h2 => ?_]
  · have e : minor M k = minor M (k + 1) ∨ True := .inr trivial;have e2 : bK n (minor M k) = bK n (minor M (k + 1)) := bY n fun a ha b hb => by
     unfold minor ew;by_cases h1 : a < k
     · rw [if_pos h1, if_pos (by omega)]
     · rw [if_neg h1];by_cases h3 : a = k
       · subst h3; rw [if_pos (by omega)]; exact (h (b + 1) (by omega)).symm
       · rw [if_neg (by omega)]
    rw [e2, h 0 (by omega), qI, Int.neg_mul, Int.neg_mul];omega
  · have : bK n (minor M i) = 0 := by
     by_cases hik : i < k
     · refine mu n _ (k - 1) (by omega) fun j hj => ?_;unfold minor ew;rw [if_neg (by omega), if_neg (by omega), show k - 1 + 1 = k by omega];exact h (j + 1) (by omega)
     · refine mu n _ k (by omega) fun j hj => ?_;unfold minor ew;rw [if_pos (by omega), if_pos (by omega)];exact h (j + 1) (by omega)
    rw [this, Int.mul_zero]
theorem fQ (M : Mx) (k : Nat) : cD M k (M k) = M := by
 funext a b; unfold cD; split
 · rename_i h; rw [h]
 · rfl
theorem di (M : Mx) {k l : Nat} (h : k ≠ l) (R R' : Nat -> Int) : cD (cD M k R) l R' = cD (cD M l R') k R := by
 funext a b; unfold cD; (repeat' split) <;> first | rfl | omega
theorem bP (M : Mx) (k : Nat) (R : Nat -> Int) : cD M k R k = R := by funext b; simp [cD]
theorem aT (M : Mx) {k l : Nat} (h : l ≠ k) (R : Nat -> Int) : cD M k R l = M l := by funext b; simp [cD, h]
theorem jr (n : Nat) (M : Mx) (k : Nat) (U V : Nat -> Int) (hk : k < n) : bK n (cD M k fun j => U j + V j) = bK n (cD M k U) + bK n (cD M k V) := by
 have := js n M k 1 U V hk;simpa using this
theorem jf (n : Nat) (M : Mx) (k : Nat) (c : Int) (U : Nat -> Int) (hk : k < n) : bK n (cD M k fun j => c * U j) = c * bK n (cD M k U) := by
 have h := js n M k c U (fun _ => 0) hk;have h0 := js n M k (-1) (fun _ => 0) (fun _ => 0) hk;simp at h h0;rw [h]; omega
theorem uE (n : Nat) (M : Mx) (k : Nat) (hk : k + 1 < n) (A B : Nat -> Int) : bK n (cD (cD M k A) (k + 1) B) = - bK n (cD (cD M k B) (k + 1) A) := by
 have z : ∀ C : Nat -> Int, bK n (cD (cD M k C) (k + 1) C) = 0 := fun C => mu n _ k hk fun j _ => by
  rw [aT _ (by omega), bP, bP]
 have s := z fun j => A j + B j;rw [jr n _ _ _ _ hk, di M (by omega : k ≠ k + 1), di M (by omega : k ≠ k + 1), jr n _ _ _ _ (by omega), jr n _ _ _ _ (by omega),
  <- di M (by omega : k ≠ k + 1), <- di M (by omega : k ≠ k + 1), <- di M (by omega : k ≠ k + 1), <- di M (by omega : k ≠ k + 1), z A, z B] at s
 omega
theorem oP : ∀ (d n : Nat) (M : Mx) (k : Nat), k + d + 1 < n -> (∀ j, M k j = M (k + d + 1) j) -> bK n M = 0
 | 0, n, M, k, hk, h => mu n M k hk fun j _ => h j
 | d + 1, n, M, k, hk, h => by
  have e := uE n M (k + d + 1) (by omega) (M (k + d + 1)) (M (k + d + 2));rw [fQ M (k + d + 1), fQ M (k + d + 2)] at e;rw [e, oP d n _ k (by omega) fun j => ?_]
  · rfl
  · rw [aT _ (by omega), aT _ (by omega), aT _ (by omega), bP];exact h j
theorem ll (n : Nat) (M : Mx) {k l : Nat} (hk : k < n) (hl : l < n) (hkl : k ≠ l) (h : ∀ j, M k j = M l j) : bK n M = 0 := by
 rcases Nat.lt_or_gt_of_ne hkl with h1 | h1
 · exact oP (l - k - 1) n M k (by omega) fun j => by rw [show k + (l - k - 1) + 1 = l by omega]; exact h j
 · exact oP (k - l - 1) n M l (by omega) fun j => by rw [show l + (k - l - 1) + 1 = k by omega]; exact (h j).symm
theorem jZ (n : Nat) (M : Mx) (k : Nat) (hk : k < n) (c : Nat -> Int) (hc : c k = 0) : ∀ (m : Nat), m <= n -> ∀ U : Nat -> Int, bK n (cD M k fun j => U j + sm m fun l => c l * M l j) = bK n (cD M k U)
 | 0, _, U => by simp [sm]
 | m + 1, hm, U => by
  have e : (fun j => U j + sm (m + 1) fun l => c l * M l j) = fun j => c m * M m j + (U j + sm m fun l => c l * M l j) := by
   funext j;show U j + (sm m (fun l => c l * M l j) + c m * M m j) = c m * M m j + (U j + sm m (fun l => c l * M l j));generalize c m * M m j = z;omega
  rw [e, js n M k _ _ _ hk, jZ n M k hk c hc m (by omega) U];by_cases hmk : m = k
  · rw [hmk, hc, Int.zero_mul, Int.zero_add]
  · rw [ll n (cD M k (M m)) hk (by omega) (fun e => hmk e.symm) fun j => by rw [bP, aT _ hmk]];rw [Int.mul_zero, Int.zero_add]
theorem vR (n : Nat) (M : Mx) {k l : Nat} (hk : k < n) (hl : l < n) (hkl : k ≠ l) (A B : Nat -> Int) : bK n (cD (cD M k A) l B) = - bK n (cD (cD M k B) l A) := by
 have z : ∀ C : Nat -> Int, bK n (cD (cD M k C) l C) = 0 := fun C => ll n _ hk hl hkl fun j => by
  rw [aT _ hkl, bP, bP]
 have s := z fun j => A j + B j;rw [jr n _ _ _ _ hl, di M hkl, di M hkl, jr n _ _ _ _ hk, jr n _ _ _ _ hk, <- di M hkl, <- di M hkl, <- di M hkl, <- di M hkl, z A, z B] at s;omega
theorem u5 (n : Nat) (M : Mx) (k : Nat) (hk : k < n) (c : Nat -> Int) (R : Nat -> Nat -> Int) : ∀ m, bK n (cD M k fun j => sm m fun l => c l * R l j) = sm m fun l => c l * bK n (cD M k (R l))
 | 0 => by
  have := jf n M k 0 (fun _ => 0) hk;simpa [sm] using this
 | m + 1 => by
  have e : (fun j => sm (m + 1) fun l => c l * R l j) = fun j => c m * R m j + sm m fun l => c l * R l j := by
   funext j; simp only [sm]; omega
  rw [e, js n M k _ _ _ hk, u5 n M k hk c R m];simp only [sm]; omega
theorem onto (n : Nat) (f : Nat -> Nat) (hf : ∀ i < n, f i < n) (hi : ∀ i < n, ∀ j < n, f i = f j -> i = j) (k : Nat) (hk : k < n) : ∃ i < n, f i = k := by
 refine Classical.byContradiction fun hc => ?_;have hne : ∀ i < n, f i ≠ k := fun i h e => hc ⟨i, h, e⟩;obtain ⟨m, rfl⟩ : ∃ m, n = m + 1 := ⟨n - 1, by omega⟩;obtain ⟨i, j, h1, h2, h3⟩ := pV m (fun i => if f i < k then f i else f i - 1) (fun i h => by
  have := hf i (by omega); have := hne i (by omega);show (if f i < k then f i else f i - 1) < m;split <;> omega)
 have h4 : f i = f j := by
  have a := hne i (by omega); have b := hne j (by omega);have h3 : (if f i < k then f i else f i - 1) = (if f j < k then f j else f j - 1) := h3;split at h3 <;> split at h3 <;> omega
 have := hi i (by omega) j (by omega) h4;omega
structure oi (k : Nat) (R : Mx) (p : Nat -> Nat) : Prop where
 at_ : ∀ i < k, R i (p i) ≠ 0
 zero : ∀ i < k, ∀ j < p i, R i j = 0
 clr : ∀ a < k, ∀ i < a, R a (p i) = 0
theorem oi.inj {k : Nat} {R : Mx} {p : Nat -> Nat} (h : oi k R p) : ∀ i < k, ∀ j < k, p i = p j -> i = j := by
 have key : ∀ i j, i < j -> j < k -> p i ≠ p j := fun i j hij hj e => h.at_ j hj (e ▸ h.clr j hj i hij);intro i hi j hj e;rcases Nat.lt_trichotomy i j with h1 | h1 | h1
 · exact absurd e (key i j h1 hj)
 · exact h1
 · exact absurd e.symm (key j i h1 hi)
theorem oi.lead {k : Nat} {R : Mx} {p : Nat -> Nat} (h : oi k R p) {v : Nat -> Int} (hv : Sp k R v) {q : Nat} (hq : v q ≠ 0) (h0 : ∀ j < q, v j = 0) : ∃ i < k, p i = q := by
 obtain ⟨x, hx⟩ := hv;have key : ∀ m a, p a = m -> m < q -> a < k -> x a = 0 := by
  intro m;induction m using Nat.strongRecOn with
  | _ m ih =>
   intro a hm hq ha;refine Classical.byContradiction fun hne => ?_;have h1 := h0 m hq;rw [hx, gH a ha fun b hb hba => ?_] at h1
   · rcases Int.mul_eq_zero.1 h1 with h2 | h2
     · exact hne h2
     · exact h.at_ a ha (hm ▸ h2)
   · rcases Nat.lt_trichotomy (p b) m with h2 | h2 | h2
     · rw [ih (p b) h2 b rfl (by omega) hb, Int.zero_mul]
     · exact absurd (h.inj b hb a ha (h2.trans hm.symm)) hba
     · rw [h.zero b hb m h2, Int.mul_zero]
 refine Classical.byContradiction fun hc => hq ?_;rw [hx];refine c9 fun b hb => ?_;rcases Nat.lt_trichotomy (p b) q with h2 | h2 | h2
 · rw [key _ b rfl h2 hb, Int.zero_mul]
 · exact absurd ⟨b, hb, h2⟩ hc
 · rw [h.zero b hb q h2, Int.mul_zero]
theorem ry {k r n c : Nat} {R A E : Mx} {p l : Nat -> Nat} (h : oi k R p) (hE : Ech r c E l) (hs : ba r E n A) (h1 : ∀ i < n, ∃ N : Int, N ≠ 0 /\ Sp k R fun j => N * A i j) (h2 : ∀ i < k, ∃ N : Int, N ≠ 0 /\ Sp n A fun j => N * R i j) : k = r := by
 have one : ∀ i < k, ∃ a, a < r /\ l a = p i := fun i hi => by
  obtain ⟨N, hN, hsp⟩ := h2 i hi;obtain ⟨a, ha, he, _⟩ := hE.lead (hsp.trans hs.2) (q := p i) (Int.mul_ne_zero hN (h.at_ i hi)) fun j hj => by rw [h.zero i hi j hj, Int.mul_zero]
  exact ⟨a, ha, he⟩
 have all : ∀ v, Sp n A v -> ∃ N : Int, N ≠ 0 /\ Sp k R fun j => N * v j := by
  intro v ⟨x, hx⟩;have key : ∀ m, m <= n -> ∃ N : Int, N ≠ 0 /\ Sp k R fun j => N * sm m fun i => x i * A i j := by
   intro m;induction m with
   | zero => intro _; exact ⟨1, by decide, (Sp.zero k R).congr fun j => by simp [sm]⟩
   | succ m ih =>
    intro hm;obtain ⟨N, hN, hsp⟩ := ih (by omega);obtain ⟨M, hM, hsq⟩ := h1 m (by omega);refine ⟨N * M, Int.mul_ne_zero hN hM, (((hsp.smul M).add (hsq.smul (N * x m))).congr fun j => ?_)⟩;simp only [sm];rw [Int.mul_add, Int.mul_comm N M, Int.mul_assoc];congr 1;rw [Int.mul_assoc, Int.mul_assoc, Int.mul_left_comm M N, Int.mul_left_comm M (x m)]
  obtain ⟨N, hN, hsp⟩ := key n (Nat.le_refl _);exact ⟨N, hN, hsp.congr fun j => by rw [hx]⟩
 have two : ∀ a < r, ∃ i, i < k /\ p i = l a := fun a ha => by
  obtain ⟨N, hN, hsp⟩ := all (E a) (hs.1 a ha);obtain ⟨i, hi, he⟩ := h.lead hsp (q := l a) (Int.mul_ne_zero hN (by have := hE.pos a ha; omega)) fun j hj => by rw [hE.zero a ha j hj, Int.mul_zero]
  exact ⟨i, hi, he⟩
 have le : ∀ (a b : Nat) (f g : Nat -> Nat), (∀ i < a, ∃ j, j < b /\ g j = f i) -> (∀ i < a, ∀ j < a, f i = f j -> i = j) -> a <= b := by
  intro a b f g hfg hinj;refine Nat.le_of_not_lt fun hlt => ?_;have hs : ∀ i, ∃ j, i < a -> j < b /\ g j = f i := fun i => by
   by_cases hi : i < a
   · obtain ⟨j, h1, h2⟩ := hfg i hi; exact ⟨j, fun _ => ⟨h1, h2⟩⟩
   · exact ⟨0, fun h => absurd h hi⟩
  obtain ⟨σ, hσ⟩ := Classical.axiomOfChoice hs;obtain ⟨i, j, h3, h4, h5⟩ := pV b σ fun i hi => (hσ i (by omega)).1;have := hinj i (by omega) j (by omega) (by rw [<- (hσ i (by omega)).2, <- (hσ j (by omega)).2, h5]);omega
 exact Nat.le_antisymm (le k r p l one h.inj) (le r k l p two fun i hi j hj e => by
  rcases Nat.lt_trichotomy i j with h1 | h1 | h1
  · have := hE.inc i j h1 hj; omega
  · exact h1
  · have := hE.inc j i h1 hi; omega)
theorem qA {k n : Nat} {R A : Mx} (h1 : ∀ i < n, ∃ N : Int, N ≠ 0 /\ Sp k R fun j => N * A i j) {v : Nat -> Int} (hv : Sp n A v) : ∃ N : Int, N ≠ 0 /\ Sp k R fun j => N * v j := by
 obtain ⟨x, hx⟩ := hv;have key : ∀ m, m <= n -> ∃ N : Int, N ≠ 0 /\ Sp k R fun j => N * sm m fun i => x i * A i j := by
  intro m;induction m with
  | zero => intro _; exact ⟨1, by decide, (Sp.zero k R).congr fun j => by simp [sm]⟩
  | succ m ih =>
   intro hm;obtain ⟨N, hN, hsp⟩ := ih (by omega);obtain ⟨M, hM, hsq⟩ := h1 m (by omega);refine ⟨N * M, Int.mul_ne_zero hN hM, (((hsp.smul M).add (hsq.smul (N * x m))).congr fun j => ?_)⟩;simp only [sm];rw [Int.mul_add, Int.mul_comm N M, Int.mul_assoc];congr 1;rw [Int.mul_assoc, Int.mul_assoc, Int.mul_left_comm M N, Int.mul_left_comm M (x m)]
 obtain ⟨N, hN, hsp⟩ := key n (Nat.le_refl _);exact ⟨N, hN, hsp.congr fun j => by rw [hx]⟩
def lH : Nat -> (Nat -> Int) -> Int
 | 0, _ => 1
 | n + 1, f => lH n f * f n
theorem rC : ∀ (n : Nat) {f : Nat -> Int}, (∀ i < n, f i ≠ 0) -> lH n f ≠ 0
 | 0, _, _ => Int.one_ne_zero
 | n + 1, f, h => Int.mul_ne_zero (rC n fun i hi => h i (by omega)) (h n (by omega))
theorem x3 (n : Nat) (A R : Mx) (up dn : Nat -> Int) (c : Nat -> Nat -> Int) (h : ∀ i < n, ∀ j, dn i * R i j = up i * A i j + sm i fun t => c i t * R t j) : lH n dn * bK n R = lH n up * bK n A := by
 obtain ⟨X, hX⟩ : ∃ X : Nat -> Mx, ∀ k i, X k i = if i < k then R i else A i := ⟨fun k i => if i < k then R i else A i, fun _ _ => rfl⟩;have key : ∀ k, k <= n -> lH k dn * bK n (X k) = lH k up * bK n A := by
  intro k;induction k with
  | zero =>
   intro _;have : X 0 = A := by funext i; rw [hX, if_neg (Nat.not_lt_zero i)]
   rw [this]; rfl
  | succ k ih =>
   intro hk;have h1 : X (k + 1) = cD (X k) k (R k) := by
    funext i j;unfold cD;rw [hX, hX];by_cases e : i = k
    · subst e; rw [if_pos (by omega), if_pos rfl]
    · rw [if_neg e];by_cases e2 : i < k
      · rw [if_pos (by omega), if_pos e2]
      · rw [if_neg (by omega), if_neg e2]
   have h2 : dn k * bK n (X (k + 1)) = up k * bK n (X k) := by
    rw [h1, <- jf n (X k) k (dn k) (R k) hk];have e : (fun j => dn k * R k j) = fun j => (up k * A k j) + sm k fun t => (if t < k then c k t else 0) * X k t j := by
     funext j;rw [h k hk];congr 1;exact aS fun t ht => by rw [if_pos ht, hX, if_pos ht]
    rw [e, jZ n (X k) k hk (fun t => if t < k then c k t else 0) (by rw [if_neg (Nat.lt_irrefl k)]) k (by omega) (fun j => up k * A k j), jf n (X k) k (up k) (A k) hk];congr 1;have : cD (X k) k (A k) = X k := by
     have := fQ (X k) k;rw [hX k k, if_neg (Nat.lt_irrefl k)] at this; exact this
    rw [this]
   rw [lH, lH, Int.mul_assoc, h2, Int.mul_left_comm, ih (by omega), <- Int.mul_assoc, Int.mul_comm (up k)]
 have := key n (Nat.le_refl n);have e : bK n (X n) = bK n R := bY n fun i hi j _ => by rw [hX, if_pos hi]
 rw [e] at this; exact this
section
variable {k k' s w : Nat} {T H : Mx} {l : Nat -> Nat}
end
theorem sK {B : Nat} : ∀ (n : Nat) (M : Mx), (∀ i j, (M i j).natAbs <= B) -> (bK n M).natAbs <= (n * B) ^ n
 | 0, _, _ => Nat.le_refl _
 | n + 1, M, h => by
  unfold bK;have h1 : (sm (n + 1) fun i => gn i * M i 0 * bK n (minor M i)).natAbs <= (n + 1) * (B * (n * B) ^ n) := oK fun i _ => by
   rw [Int.natAbs_mul, Int.natAbs_mul, show (gn i).natAbs = 1 by unfold gn; split <;> rfl, Nat.one_mul];exact Nat.mul_le_mul (h i 0) (sK n (minor M i) fun a b => h _ _)
  refine Nat.le_trans h1 ?_;rw [Nat.pow_succ, Nat.mul_comm ((( n + 1) * B) ^ n), Nat.mul_assoc (n + 1) B];exact Nat.mul_le_mul_left _ (Nat.mul_le_mul_left _ (Nat.pow_le_pow_left (Nat.mul_le_mul_right _ (by omega)) n))
theorem mo {a b : Nat} (h : a % 2 = b % 2) : gn a = gn b := by unfold gn; rw [h]
theorem pM (a b : Nat) : gn a * gn b = gn (a + b) := by
 unfold gn;rcases Nat.mod_two_eq_zero_or_one a with h | h <;> rcases Nat.mod_two_eq_zero_or_one b with h' | h' <;> rw [h, h'] <;> simp <;> omega
theorem sQ {n p : Nat} (hp : p < n + 1) (g : Nat -> Int) : sm n (fun a => g (ew p a)) = sm (n + 1) fun q => if q = p then 0 else g q := by
 obtain ⟨m, rfl⟩ : ∃ m, n = p + m := ⟨n - p, by omega⟩;rw [j6 p m, Nat.add_assoc, j6 p (m + 1), Nat.add_comm m 1, j6 1 m];have e1 : sm p (fun a => g (ew p a)) = sm p fun q => if q = p then 0 else g q := aS fun a ha => by
  rw [if_neg (by omega)]; unfold ew; rw [if_pos ha]
 have e2 : sm m (fun k => g (ew p (p + k))) = sm m fun k => if p + (1 + k) = p then 0 else g (p + (1 + k)) := aS fun a ha => by
  rw [if_neg (by omega)]; unfold ew; rw [if_neg (by omega)]; congr 1; omega
 have e3 : (sm 1 fun k => if p + k = p then 0 else g (p + k)) = 0 := by simp [sm]
 rw [e1, e2, e3, Int.zero_add]
def tc (p q b : Nat) : Nat := if b < min p q then b else if b + 1 < max p q then b + 1 else b + 2
theorem rv (p q b : Nat) : tc p q b = tc q p b := by unfold tc; rw [Nat.min_comm, Nat.max_comm]
theorem pA (p a b : Nat) : ew p (ew a b) = tc p (ew p a) b := by
 unfold tc ew;by_cases h1 : a < p
 · simp only [h1, if_true];by_cases h2 : b < a
   · rw [if_pos h2, if_pos (by omega), if_pos (by omega)]
   · rw [if_neg h2];by_cases h3 : b + 1 < p
     · rw [if_pos h3, if_neg (by omega), if_pos (by omega)]
     · rw [if_neg h3, if_neg (by omega), if_neg (by omega)]
 · simp only [h1, if_false];by_cases h2 : b < a
   · rw [if_pos h2];by_cases h3 : b < p
     · rw [if_pos h3, if_pos (by omega)]
     · rw [if_neg h3, if_neg (by omega), if_pos (by omega)]
   · rw [if_neg h2, if_neg (by omega), if_neg (by omega), if_neg (by omega)]
def pY (n : Nat) (M : Mx) (p q : Nat) : Int := gn (p + q + n + if q < p then 0 else 1) * M p 0 * M q (n + 1) * bK n fun a b => M (tc p q a) (b + 1)
theorem nA : ∀ (n : Nat) (M : Mx), bK (n + 1) M = sm (n + 1) fun i => gn (i + n) * M i n * bK n fun a b => M (ew i a) b
 | 0, M => rfl
 | n + 1, M => by
  have h1 : bK (n + 2) M = sm (n + 2) fun p => sm (n + 2) fun q => if q = p then 0 else pY n M p q := by
   rw [bK];refine aS fun p hp => ?_;rw [nA n (minor M p), <- gM, <- sQ hp];refine aS fun a ha => ?_;have e : (fun a' b => minor M p (ew a a') b) = fun a' b => M (tc p (ew p a) a') (b + 1) := by
    funext a' b;show M (ew p (ew a a')) (b + 1) = _;rw [pA]
   rw [e];unfold pY;generalize bK n (fun a' b => M (tc p (ew p a) a') (b + 1)) = D;have e2 : gn (p + ew p a + n + if ew p a < p then 0 else 1) = gn p * gn (a + n) := by
    rw [pM]; refine mo ?_; unfold ew; (repeat' split) <;> omega
   rw [e2];show gn p * M p 0 * (gn (a + n) * M (ew p a) (n + 1) * D) = _
   ac_rfl
  have h2 : (sm (n + 2) fun i => gn (i + (n + 1)) * M i (n + 1) * bK (n + 1) fun a b => M (ew i a) b) = sm (n + 2) fun q => sm (n + 2) fun p => if p = q then 0 else pY n M p q := by
   refine aS fun q hq => ?_;rw [bK, <- gM, <- sQ hq];refine aS fun a ha => ?_;have e : minor (fun a b => M (ew q a) b) a = fun a' b => M (tc (ew q a) q a') (b + 1) := by
    funext a' b;show M (ew q (ew a a')) (b + 1) = _;rw [pA, rv]
   rw [e];unfold pY;generalize bK n (fun a' b => M (tc (ew q a) q a') (b + 1)) = D;have e2 : gn (ew q a + q + n + if q < ew q a then 0 else 1) = gn (q + (n + 1)) * gn a := by
    rw [pM]; refine mo ?_; unfold ew; (repeat' split) <;> omega
   rw [e2]
   ac_rfl
  rw [h1, h2, tp];refine aS fun q _ => aS fun p _ => ?_;by_cases h : q = p
  · rw [if_pos h, if_pos h.symm]
  · rw [if_neg h, if_neg (fun e => h e.symm)]
theorem qv : ∀ (n t : Nat) (M : Mx), t < n -> (∀ a, a < n + 1 -> M a t = M a n) -> bK (n + 1) M = 0
 | n + 1, 0, M, _, h => by
  have h1 : bK (n + 2) M = sm (n + 2) fun p => sm (n + 2) fun q => if q = p then 0 else pY n M p q := by
   rw [bK];refine aS fun p hp => ?_;rw [nA n (minor M p), <- gM, <- sQ hp];refine aS fun a ha => ?_;have e : (fun a' b => minor M p (ew a a') b) = fun a' b => M (tc p (ew p a) a') (b + 1) := by
    funext a' b;show M (ew p (ew a a')) (b + 1) = _;rw [pA]
   rw [e];unfold pY;generalize bK n (fun a' b => M (tc p (ew p a) a') (b + 1)) = D;have e2 : gn (p + ew p a + n + if ew p a < p then 0 else 1) = gn p * gn (a + n) := by
    rw [pM]; refine mo ?_; unfold ew; (repeat' split) <;> omega
   rw [e2];show gn p * M p 0 * (gn (a + n) * M (ew p a) (n + 1) * D) = _
   ac_rfl
  have h2 : (sm (n + 2) fun p => sm (n + 2) fun q => if q = p then 0 else pY n M p q) = - sm (n + 2) fun p => sm (n + 2) fun q => if q = p then 0 else pY n M p q := by
   conv => lhs; rw [tp]
   have e : ∀ f : Nat -> Int, - sm (n + 2) f = sm (n + 2) fun i => (-1) * f i := fun f => by rw [gM]; omega
   rw [e];refine aS fun p hp => ?_;rw [<- gM];refine aS fun q hq => ?_;by_cases hpq : p = q
   · rw [if_pos hpq, if_pos hpq.symm]; rfl
   · rw [if_neg hpq, if_neg (fun e => hpq e.symm)];unfold pY;have eD : (fun a b => M (tc q p a) (b + 1)) = fun a b => M (tc p q a) (b + 1) := by funext a b; rw [rv]
     rw [eD];generalize bK n (fun a b => M (tc p q a) (b + 1)) = D;have es : gn (q + p + n + if p < q then 0 else 1) = - gn (p + q + n + if q < p then 0 else 1) := by
      rw [<- qI]; refine mo ?_; (repeat' split) <;> omega
     rw [es, <- h p (by omega), h q (by omega)];rw [Int.neg_mul, Int.neg_mul, Int.neg_mul, Int.neg_one_mul, Int.mul_assoc (gn _) (M q _), Int.mul_comm (M q _), <- Int.mul_assoc (gn _)]
  rw [h1]; omega
 | n + 1, t + 1, M, ht, h => by
  rw [bK];refine c9 fun p hp => ?_;rw [qv n t (minor M p) (by omega) fun a ha => h _ (by unfold ew; split <;> omega), Int.mul_zero]
theorem lj : ∀ (k m : Nat) (M : Mx), (∀ a, k <= a -> a < k + m -> ∀ b < k, M a b = 0) -> bK (k + m) M = bK k M * bK m fun a b => M (k + a) (k + b)
 | 0, m, M, _ => by
  rw [Nat.zero_add];show bK m M = 1 * _;rw [Int.one_mul];exact bY m fun a _ b _ => by rw [Nat.zero_add, Nat.zero_add]
 | k + 1, m, M, h => by
  rw [show k + 1 + m = k + m + 1 by omega, bK, show k + m + 1 = k + 1 + m by omega, j6 (k + 1) m];have e0 : (sm m fun i => gn (k + 1 + i) * M (k + 1 + i) 0 * bK (k + m) (minor M (k + 1 + i))) = 0 := c9 fun i hi => by
   rw [h (k + 1 + i) (by omega) (by omega) 0 (by omega), Int.mul_zero, Int.zero_mul]
  rw [e0, Int.add_zero, bK, <- pG];refine aS fun i hi => ?_;have e : (bK m fun a b => minor M i (k + a) (k + b)) = bK m fun a b => M (k + 1 + a) (k + 1 + b) := bY m fun a _ b _ => by
   show M (ew i (k + a)) (k + b + 1) = _;unfold ew;rw [if_neg (by omega), show k + a + 1 = k + 1 + a by omega, show k + b + 1 = k + 1 + b by omega]
  rw [lj k m (minor M i) fun a h1 h2 b hb => h _ (by unfold ew; split <;> omega) (by unfold ew; split <;> omega) _ (by omega), e]
  ac_rfl
theorem det2 (M : Mx) : bK 2 M = M 0 0 * M 1 1 - M 1 0 * M 0 1 := by
 simp [bK, sm, gn, minor, ew, Int.neg_mul];omega
def mn (k : Nat) (A : Mx) (nu cs : Nat -> Nat) (i j : Nat) : Int := bK (k + 1) fun a b => A (if a < k then nu a else i) (if b < k then cs b else j)
def dn (k : Nat) (A : Mx) (nu cs : Nat -> Nat) : Int := bK k fun a b => A (nu a) (cs b)
section
variable {A : Mx} {nu cs : Nat -> Nat} {k : Nat}
theorem kZ (k : Nat) (A : Mx) (nu cs : Nat -> Nat) (i : Nat) : ∃ y : Nat -> Int, ∀ j, mn k A nu cs i j = dn k A nu cs * A i j + sm k fun t => y t * A (nu t) j := by
 refine ⟨fun t => gn (t + k) * bK k fun a b => A (if ew t a < k then nu (ew t a) else i) (cs b), fun j => ?_⟩;unfold mn;rw [nA, sm, Int.add_comm];congr 1
 · have e : (bK k fun a b => A (if ew k a < k then nu (ew k a) else i) (if b < k then cs b else j)) = dn k A nu cs := bY k fun a ha b hb => by
    have : ew k a = a := by unfold ew; rw [if_pos ha]
    rw [this, if_pos ha, if_pos hb]
   rw [e, if_neg (Nat.lt_irrefl k), if_neg (Nat.lt_irrefl k), show gn (k + k) = 1 by unfold gn; rw [if_pos (by omega)], Int.one_mul, Int.mul_comm]
 · refine aS fun t ht => ?_;rw [if_pos ht, if_neg (Nat.lt_irrefl k)];have e : (bK k fun a b => A (if ew t a < k then nu (ew t a) else i) (if b < k then cs b else j)) = bK k fun a b => A (if ew t a < k then nu (ew t a) else i) (cs b) := bY k fun a _ b hb => by rw [if_pos hb]
   rw [e, Int.mul_right_comm]
theorem oS {t : Nat} (ht : t < k) (i : Nat) : mn k A nu cs i (cs t) = 0 := by
 unfold mn;exact qv k t _ ht fun a _ => by rw [if_pos ht, if_neg (Nat.lt_irrefl k)]
theorem tT : dn (k + 1) A nu cs = mn k A nu cs (nu k) (cs k) := bY (k + 1) fun a ha b hb => by
 have e1 : (if a < k then nu a else nu k) = nu a := by split; rfl; rw [show a = k by omega]
 have e2 : (if b < k then cs b else cs k) = cs b := by split; rfl; rw [show b = k by omega]
 rw [e1, e2]
theorem gh {nu' cs' : Nat -> Nat} (h1 : ∀ t < k, nu' t = nu t) (h2 : ∀ t < k, cs' t = cs t) (i j : Nat) : mn k A nu' cs' i j = mn k A nu cs i j := bY (k + 1) fun a _ b _ => by
 have e1 : (if a < k then nu' a else i) = if a < k then nu a else i := by split; exact h1 a ‹_›; rfl
 have e2 : (if b < k then cs' b else j) = if b < k then cs b else j := by split; exact h2 b ‹_›; rfl
 rw [e1, e2]
theorem qm {nu' cs' : Nat -> Nat} (h1 : ∀ t < k, nu' t = nu t) (h2 : ∀ t < k, cs' t = cs t) : dn k A nu' cs' = dn k A nu cs := bY k fun a ha b hb => by rw [h1 a ha, h2 b hb]
theorem mX (n : Nat) (M : Mx) {r : Nat} (hr : r < n) (d : Int) (y : Nat -> Int) {m : Nat} (hm : m <= r) : bK n (cD M r fun b => d * M r b + sm m fun t => y t * M t b) = d * bK n M := by
 have e : (fun b => d * M r b + sm m fun t => y t * M t b) = fun b => d * M r b + sm m fun t => (if t < m then y t else 0) * M t b := by
  funext b; congr 1; exact aS fun t ht => by rw [if_pos ht]
 rw [e, jZ n M r hr (fun t => if t < m then y t else 0) (if_neg (by omega)) m (by omega), jf n M r d _ hr, fQ]
theorem AU (h0 : dn k A nu cs ≠ 0) (i j : Nat) : dn k A nu cs * mn (k + 1) A nu cs i j = mn k A nu cs (nu k) (cs k) * mn k A nu cs i j - mn k A nu cs i (cs k) * mn k A nu cs (nu k) j := by
 obtain ⟨col, hcol⟩ : ∃ col : Nat -> Nat, ∀ b, col b = if b < k + 1 then cs b else j := ⟨fun b => if b < k + 1 then cs b else j, fun _ => rfl⟩;obtain ⟨M, hM⟩ : ∃ M : Mx, ∀ a b, M a b = A (if a < k + 1 then nu a else i) (col b) := ⟨fun a b => A (if a < k + 1 then nu a else i) (col b), fun _ _ => rfl⟩;have hN : mn (k + 1) A nu cs i j = bK (k + 2) M := bY (k + 2) fun a _ b _ => by rw [hM, hcol]
 obtain ⟨y, hy⟩ := kZ k A nu cs i;obtain ⟨z, hz⟩ := kZ k A nu cs (nu k);have hMt : ∀ t < k, ∀ b, M t b = A (nu t) (col b) := fun t ht b => by rw [hM, if_pos (by omega)]
 have e1 : (fun b => mn k A nu cs i (col b)) = fun b => dn k A nu cs * M (k + 1) b + sm k fun t => y t * M t b := by
  funext b;rw [hy, hM (k + 1), if_neg (by omega)];congr 1;exact aS fun t ht => by rw [hMt t ht]
 have d1 : bK (k + 2) (cD M (k + 1) fun b => mn k A nu cs i (col b)) = dn k A nu cs * bK (k + 2) M := by
  rw [e1]; exact mX (k + 2) M (by omega) _ y (by omega)
 obtain ⟨M1, hM1⟩ : ∃ M1, cD M (k + 1) (fun b => mn k A nu cs i (col b)) = M1 := ⟨_, rfl⟩;rw [hM1] at d1;have hM1t : ∀ t < k + 1, ∀ b, M1 t b = M t b := fun t ht b => by rw [<- hM1, aT _ (by omega)]
 have e2 : (fun b => mn k A nu cs (nu k) (col b)) = fun b => dn k A nu cs * M1 k b + sm k fun t => z t * M1 t b := by
  funext b;rw [hz, hM1t k (by omega), hM k, if_pos (by omega)];congr 1;exact aS fun t ht => by rw [hM1t t (by omega), hMt t ht]
 have d2 : bK (k + 2) (cD M1 k fun b => mn k A nu cs (nu k) (col b)) = dn k A nu cs * bK (k + 2) M1 := by
  rw [e2]; exact mX (k + 2) M1 (by omega) _ z (Nat.le_refl k)
 obtain ⟨M2, hM2⟩ : ∃ M2, cD M1 k (fun b => mn k A nu cs (nu k) (col b)) = M2 := ⟨_, rfl⟩;rw [hM2, d1] at d2;have r0 : ∀ b, M2 k b = mn k A nu cs (nu k) (col b) := fun b => by rw [<- hM2, bP]
 have r1 : ∀ b, M2 (k + 1) b = mn k A nu cs i (col b) := fun b => by rw [<- hM2, aT _ (by omega), <- hM1, bP]
 have hb := lj k 2 M2 fun a h1 h2 b hb => by
  have hc : col b = cs b := by rw [hcol, if_pos (by omega)]
  rcases (by omega : a = k ∨ a = k + 1) with rfl | rfl
  · rw [r0, hc]; exact oS hb _
  · rw [r1, hc]; exact oS hb _
 have hd : bK k M2 = dn k A nu cs := bY k fun a ha b hb => by
  rw [<- hM2, aT _ (by omega), hM1t a (by omega), hM, if_pos (by omega), hcol, if_pos (by omega)]
 have c0 : col k = cs k := by rw [hcol, if_pos (by omega)]
 have c1 : col (k + 1) = j := by rw [hcol, if_neg (by omega)]
 rw [hb, hd, det2] at d2;simp only [Nat.add_zero] at d2;rw [r0, r0, r1, r1, c0, c1] at d2;rw [hN];exact (Int.eq_of_mul_eq_mul_left h0 d2).symm
structure jG (n m : Nat) (A : Mx) (c k : Nat) (nu cs : Nat -> Nat) (R : Mx) (d : Int) : Prop where
 kn : k <= n
 cm : c <= m
 lt : ∀ i < n, nu i < n
 inj : ∀ i < n, ∀ j < n, nu i = nu j -> i = j
 inc : ∀ a b, a < b -> b < k -> cs a < cs b
 csl : ∀ t < k, cs t < c
 dE : d = dn k A nu cs
 d0 : d ≠ 0
 row : ∀ i, k <= i -> i < n -> ∀ j < m, R i j = mn k A nu cs (nu i) j
 z : ∀ i, k <= i -> i < n -> ∀ j < c, R i j = 0
 lz : ∀ t < k, ∀ j < cs t, mn t A nu cs (nu t) j = 0
 l0 : ∀ t < k, mn t A nu cs (nu t) (cs t) ≠ 0
end
section
variable {n m : Nat} {A : Mx} {c k : Nat} {nu cs : Nat -> Nat} {R : Mx} {d : Int}
theorem jG.start {n m : Nat} {A R : Mx} (cs : Nat -> Nat) (hR : ∀ i < n, ∀ j < m, R i j = A i j) : jG n m A 0 0 (fun i => i) cs R 1 :=
 ⟨Nat.zero_le _, Nat.zero_le _, fun _ h => h, fun _ _ _ _ e => e, fun _ _ _ h => by omega, fun _ h => by omega, rfl, by decide, fun i _ hi j hj => by rw [hR i hi j hj]; simp [mn, bK, sm, gn], fun _ _ _ _ h => by omega, fun _ h => by omega, fun _ h => by omega⟩
theorem jG.skip (h : jG n m A c k nu cs R d) (hc : c < m) (h0 : ∀ i, k <= i -> i < n -> R i c = 0) : jG n m A (c + 1) k nu cs R d :=
 ⟨h.kn, hc, h.lt, h.inj, h.inc, fun t ht => by have := h.csl t ht; omega, h.dE, h.d0, h.row, fun i h1 h2 j hj => by
  rcases (by omega : j < c ∨ j = c) with q | rfl
  · exact h.z i h1 h2 j q
  · exact h0 i h1 h2, h.lz, h.l0⟩
def jC (k p i : Nat) : Nat := if i = k then p else if i = p then k else i
theorem gI {n k p i : Nat} (hk : k < n) (hp : p < n) (hi : i < n) : jC k p i < n := by unfold jC; (repeat' split) <;> omega
theorem we {k p i : Nat} (hp : k <= p) (hi : k <= i) : k <= jC k p i := by unfold jC; (repeat' split) <;> omega
theorem xU {k p i : Nat} (hp : k <= p) (hi : i < k) : jC k p i = i := by unfold jC; rw [if_neg (by omega), if_neg (by omega)]
theorem tM {k p i j : Nat} (h : jC k p i = jC k p j) : i = j := by unfold jC at h; (repeat' split at h) <;> omega
theorem jG.swap {p : Nat} {R' : Mx} (h : jG n m A c k nu cs R d) (hp : k <= p) (hpn : p < n) (hR : ∀ i, k <= i -> i < n -> ∀ j < m, R' i j = R (jC k p i) j) : jG n m A c k (fun i => nu (jC k p i)) cs R' d := by
 have hk : k < n := by omega
 have hl : ∀ t < k, nu (jC k p t) = nu t := fun t ht => by rw [xU hp ht]
 refine ⟨h.kn, h.cm, fun i hi => h.lt _ (gI hk hpn hi), fun i hi j hj e => tM (h.inj _ (gI hk hpn hi) _ (gI hk hpn hj) e), h.inc, h.csl, ?_, h.d0, fun i h1 h2 j hj => ?_, fun i h1 h2 j hj => ?_, fun t ht j hj => ?_, fun t ht => ?_⟩
 · rw [qm (cs' := cs) hl (fun _ _ => rfl)]; exact h.dE
 · rw [hR i h1 h2 j hj, h.row _ (we hp h1) (gI hk hpn h2) j hj, gh (nu := nu) (cs := cs) hl (fun _ _ => rfl)]
 · have := h.cm;rw [hR i h1 h2 j (by omega)]; exact h.z _ (we hp h1) (gI hk hpn h2) j hj
 · rw [gh (nu := nu) (cs := cs) (fun s hs => hl s (by omega)) (fun _ _ => rfl), hl t ht]; exact h.lz t ht j hj
 · rw [gh (nu := nu) (cs := cs) (fun s hs => hl s (by omega)) (fun _ _ => rfl), hl t ht]; exact h.l0 t ht
def lJ (cs : Nat -> Nat) (k c : Nat) : Nat -> Nat := fun t => if t = k then c else cs t
theorem ea {t : Nat} (ht : t < k) : lJ cs k c t = cs t := by unfold lJ; rw [if_neg (by omega)]
theorem jU : lJ cs k c k = c := by unfold lJ; rw [if_pos rfl]
theorem jG.exact (h : jG n m A c k nu cs R d) (hc : c < m) {i j : Nat} (hi : k < i) (hin : i < n) (hj : j < m) : R k c * R i j - R i c * R k j = d * mn (k + 1) A nu (lJ cs k c) (nu i) j := by
 have hcg : ∀ i j, mn k A nu (lJ cs k c) i j = mn k A nu cs i j := fun i j => gh (fun _ _ => rfl) (fun t ht => ea ht) i j;have hdg : dn k A nu (lJ cs k c) = d := by rw [h.dE]; exact qm (fun _ _ => rfl) (fun t ht => ea ht)
 have := AU (A := A) (nu := nu) (cs := lJ cs k c) (k := k) (by rw [hdg]; exact h.d0) (nu i) j;rw [hdg, jU, hcg, hcg, hcg, hcg] at this;rw [this, h.row k (Nat.le_refl _) (by omega) c hc, h.row i (by omega) hin j hj, h.row i (by omega) hin c hc, h.row k (Nat.le_refl _) (by omega) j hj]
theorem jG.take {R' : Mx} (h : jG n m A c k nu cs R d) (hc : c < m) (hk : k < n) (hp : R k c ≠ 0) (hR : ∀ i, k < i -> i < n -> ∀ j < m, R' i j = if c < j then mn (k + 1) A nu (lJ cs k c) (nu i) j else 0) : jG n m A (c + 1) (k + 1) nu (lJ cs k c) R' (R k c) := by
 have hcg : ∀ i j, mn k A nu (lJ cs k c) i j = mn k A nu cs i j := fun i j => gh (fun _ _ => rfl) (fun t ht => ea ht) i j;have hz : ∀ i, k < i -> i < n -> ∀ j, j <= c -> mn (k + 1) A nu (lJ cs k c) (nu i) j = 0 := fun i h1 h2 j hj => by
  have e := h.exact hc h1 h2 (j := j) (by omega);rcases (by omega : j < c ∨ j = c) with q | rfl
  · rw [h.z i (by omega) h2 j q, h.z k (Nat.le_refl _) hk j q, Int.mul_zero, Int.mul_zero, Int.sub_zero] at e;exact (Int.mul_eq_zero.1 e.symm).resolve_left h.d0
  · rw [Int.mul_comm, Int.sub_self] at e;exact (Int.mul_eq_zero.1 e.symm).resolve_left h.d0
 refine ⟨hk, hc, h.lt, h.inj, fun a b hab hb => ?_, fun t ht => ?_, ?_, hp, fun i h1 h2 j hj => ?_, fun i h1 h2 j hj => ?_, fun t ht j hj => ?_, fun t ht => ?_⟩
 · rcases (by omega : b < k ∨ b = k) with q | rfl
   · rw [ea (by omega), ea q]; exact h.inc a b hab q
   · rw [ea hab, jU]; exact h.csl a hab
 · rcases (by omega : t < k ∨ t = k) with q | rfl
   · rw [ea q]; have := h.csl t q; omega
   · rw [jU]; omega
 · rw [tT, jU, hcg]; exact h.row k (Nat.le_refl _) hk c hc
 · rw [hR i (by omega) h2 j hj];split
   · rfl
   · exact (hz i (by omega) h2 j (by omega)).symm
 · rw [hR i (by omega) h2 j (by omega), if_neg (by omega)]
 · rcases (by omega : t < k ∨ t = k) with q | rfl
   · rw [ea q] at hj;rw [gh (nu := nu) (cs := cs) (fun _ _ => rfl) (fun s hs => ea (by omega))]; exact h.lz t q j hj
   · rw [jU] at hj;rw [hcg, <- h.row t (Nat.le_refl _) hk j (by omega)]; exact h.z t (Nat.le_refl _) hk j hj
 · rcases (by omega : t < k ∨ t = k) with q | rfl
   · rw [ea q, gh (nu := nu) (cs := cs) (fun _ _ => rfl) (fun s hs => ea (by omega))]; exact h.l0 t q
   · rw [jU, hcg, <- h.row t (Nat.le_refl _) hk c hc]; exact hp
theorem mn_bd {B : Nat} (hA : ∀ i j, (A i j).natAbs <= B) (k i j : Nat) : (mn k A nu cs i j).natAbs <= ((k + 1) * B) ^ (k + 1) := sK (k + 1) _ fun _ _ => hA _ _
theorem jG.bK {s : Int} (h : jG n n A n n nu cs R d) : d = Go.Proofs.YtjjlmfmoihooiaaGreat.bK n fun a b => A (nu a) b := by
 have hc : ∀ t < n, cs t = t := by
  intro t ht;have h1 : ∀ s, s < n -> s <= cs s := by
   intro s;induction s with
   | zero => intro _; exact Nat.zero_le _
   | succ s ih => intro hs; have := ih (by omega); have := h.inc s (s + 1) (by omega) hs; omega
  have h2 : ∀ e s, s + e + 1 = n -> cs s <= s := by
   intro e;induction e with
   | zero => intro s hs; have := h.csl s (by omega); omega
   | succ e ih => intro s hs; have := ih (s + 1) (by omega); have := h.inc s (s + 1) (by omega) (by omega); omega
  have := h1 t ht;have := h2 (n - t - 1) t (by omega);omega
 rw [h.dE];exact bY n fun a _ b hb => by rw [hc b hb]
theorem jG.det0 (h : jG n n A k k nu cs R d) (hk : k < n) (h0 : ∀ i, k <= i -> i < n -> R i k = 0) : (Go.Proofs.YtjjlmfmoihooiaaGreat.bK n fun a b => A (nu a) b) = 0 := by
 have hc : ∀ t < k, cs t = t := by
  intro t ht;have h1 : ∀ s, s < k -> s <= cs s := by
   intro s;induction s with
   | zero => intro _; exact Nat.zero_le _
   | succ s ih => intro hs; have := ih (by omega); have := h.inc s (s + 1) (by omega) hs; omega
  have h2 : ∀ e s, s + e + 1 = k -> cs s <= s := by
   intro e;induction e with
   | zero => intro s hs; have := h.csl s (by omega); omega
   | succ e ih => intro s hs; have := ih (s + 1) (by omega); have := h.inc s (s + 1) (by omega) (by omega); omega
  have := h1 t ht;have := h2 (k - t - 1) t (by omega);omega
 have hch : ∀ i, ∃ y : Nat -> Int, ∀ j, mn k A nu cs (nu i) j = dn k A nu cs * A (nu i) j + sm k fun t => y t * A (nu t) j := fun i => kZ k A nu cs (nu i);obtain ⟨y, hy⟩ := Classical.axiomOfChoice hch;obtain ⟨B, hB⟩ : ∃ B : Mx, ∀ i j, B i j = if i < k then A (nu i) j else mn k A nu cs (nu i) j := ⟨fun i j => if i < k then A (nu i) j else mn k A nu cs (nu i) j, fun _ _ => rfl⟩;have hr := x3 n (fun a b => A (nu a) b) B (fun i => if i < k then 1 else d) (fun _ => 1) (fun i t => if i < k then 0 else if t < k then y i t else 0) fun i hi j => by
  by_cases q : i < k
  · simp only [q, if_true];rw [hB, if_pos q, c9 fun t _ => Int.zero_mul _, Int.add_zero]
  · simp only [q, if_false];rw [hB, if_neg q, hy, Int.one_mul, <- h.dE];congr 1;obtain ⟨e, rfl⟩ : ∃ e, i = k + e := ⟨i - k, by omega⟩;rw [j6 k e, c9 (n := e) fun t _ => by rw [if_neg (by omega), Int.zero_mul], Int.add_zero];exact aS fun t ht => by rw [if_pos ht, hB, if_pos ht]
 obtain ⟨e, rfl⟩ : ∃ e, n = k + (e + 1) := ⟨n - k - 1, by omega⟩;have hb := lj k (e + 1) B fun a h1 h2 b hb => by rw [hB, if_neg (by omega), <- h.row a h1 h2 b (by omega)]; exact h.z a h1 h2 b hb
 have hz : (Go.Proofs.YtjjlmfmoihooiaaGreat.bK (e + 1) fun a b => B (k + a) (k + b)) = 0 := by
  rw [Go.Proofs.YtjjlmfmoihooiaaGreat.bK];exact c9 fun a ha => by
   show gn a * B (k + a) (k + 0) * _ = 0;rw [Nat.add_zero, hB, if_neg (by omega), <- h.row (k + a) (by omega) (by omega) k (by omega), h0 (k + a) (by omega) (by omega), Int.mul_zero, Int.zero_mul]
 rw [hb, hz, Int.mul_zero, Int.mul_zero] at hr;refine (Int.mul_eq_zero.1 hr.symm).resolve_left (rC _ fun i hi => ?_);split
 · decide
 · exact h.d0
theorem xW {k p : Nat} (hk : k < n) (hp : p < n) (hkp : k ≠ p) (B : Mx) : (Go.Proofs.YtjjlmfmoihooiaaGreat.bK n fun a b => B (jC k p a) b) = - Go.Proofs.YtjjlmfmoihooiaaGreat.bK n B := by
 have e1 : (fun a b => B (jC k p a) b) = cD (cD B k (B p)) p (B k) := by
  funext a b;unfold jC cD;by_cases h1 : a = k
  · subst h1; rw [if_pos rfl, if_neg hkp, if_pos rfl]
  · rw [if_neg h1];by_cases h2 : a = p
    · rw [if_pos h2, if_pos h2]
    · rw [if_neg h2, if_neg h2, if_neg h1]
 have e2 : cD (cD B k (B k)) p (B p) = B := by rw [fQ, fQ]
 rw [e1, vR n B hk hp hkp, e2]
theorem jG.leads {r c' : Nat} {E : Mx} {l : Nat -> Nat} (h : jG n m A m k nu cs R d) (hA : ∀ i j, m <= j -> A i j = 0) (hE : Ech r c' E l) (hs : ba r E n A) : k = r /\ ∀ t < k, cs t = l t := by
 obtain ⟨T, hT⟩ : ∃ T : Mx, ∀ t j, T t j = mn t A nu cs (nu t) j := ⟨fun t j => mn t A nu cs (nu t) j, fun _ _ => rfl⟩;have hst : oi k T cs := ⟨fun i hi => by rw [hT]; exact h.l0 i hi, fun i hi j hj => by rw [hT]; exact h.lz i hi j hj, fun a ha i hi => by rw [hT]; exact oS hi _⟩;have hkn := h.kn;have hTA : ∀ t < k, Sp n A (T t) := fun t ht => by
  obtain ⟨y, hy⟩ := kZ t A nu cs (nu t);have h1 : Sp n A fun j => dn t A nu cs * A (nu t) j := (Sp.row A (h.lt t (by omega))).smul _;have h2 : Sp n A fun j => sm t fun s => y s * A (nu s) j := Sp.sm (F := fun s => A (nu s)) (x := y) fun s hs => Sp.row A (h.lt s (by omega));exact (h1.add h2).congr fun j => by rw [hT, hy]
 have hdt : ∀ t < k + 1, dn t A nu cs ≠ 0 := fun t ht => by
  rcases (by omega : t < k ∨ t = k) with q | rfl
  · cases t with
    | zero => simp [dn, Go.Proofs.YtjjlmfmoihooiaaGreat.bK]
    | succ t => rw [tT]; exact h.l0 t (by omega)
  · rw [<- h.dE]; exact h.d0
 have hlow : ∀ s, s < k -> ∃ N : Int, N ≠ 0 /\ Sp k T fun j => N * A (nu s) j := by
  intro s;induction s using Nat.strongRecOn with
  | _ s ih =>
   intro hs';obtain ⟨y, hy⟩ := kZ s A nu cs (nu s);obtain ⟨N, hN, hsp⟩ := qA (R := T) (A := fun t => A (nu t)) (n := s) (k := k) (fun i hi => ih i hi (by omega)) (v := fun j => sm s fun t => y t * A (nu t) j) ⟨y, fun _ => rfl⟩;refine ⟨N * dn s A nu cs, Int.mul_ne_zero hN (hdt s (by omega)), ((((Sp.row T hs').smul N).sub hsp)).congr fun j => ?_⟩;rw [hT, hy, Int.mul_add, Int.mul_assoc]; omega
 have hall : ∀ i < n, ∃ N : Int, N ≠ 0 /\ Sp k T fun j => N * A i j := fun i hi => by
  obtain ⟨s, hsn, rfl⟩ := onto n nu h.lt h.inj i hi;by_cases q : s < k
  · exact hlow s q
  · obtain ⟨y, hy⟩ := kZ k A nu cs (nu s);obtain ⟨N, hN, hsp⟩ := qA (R := T) (A := fun t => A (nu t)) (n := k) (k := k) hlow (v := fun j => sm k fun t => y t * A (nu t) j) ⟨y, fun _ => rfl⟩;refine ⟨N * dn k A nu cs, Int.mul_ne_zero hN (hdt k (by omega)), (hsp.smul (-1)).congr fun j => ?_⟩;have h0 : mn k A nu cs (nu s) j = 0 := by
     by_cases hj : j < m
     · rw [<- h.row s (by omega) hsn j hj]; exact h.z s (by omega) hsn j hj
     · rw [hy, hA _ _ (by omega), Int.mul_zero, Int.zero_add]; exact c9 fun t _ => by rw [hA _ _ (by omega), Int.mul_zero]
    have h1 := hy j;rw [h0] at h1;rw [Int.mul_assoc];generalize dn k A nu cs * A (nu s) j = u at *;generalize sm k (fun t => y t * A (nu t) j) = v at *;obtain rfl : u = -v := by omega
    rw [Int.mul_neg]; omega
 have hkr := ry hst hE hs hall fun i hi => ⟨1, by decide, (hTA i hi).congr fun j => Int.one_mul _⟩;refine ⟨hkr, ?_⟩;have hq : ∀ t, ∃ q, t < k -> q < r /\ l q = cs t := fun t => by
  by_cases ht : t < k
  · obtain ⟨q, h1, h2, _⟩ := hE.lead ((hTA t ht).trans hs.2) (q := cs t) (hst.at_ t ht) (hst.zero t ht);exact ⟨q, fun _ => ⟨h1, h2⟩⟩
  · exact ⟨0, fun h => absurd h ht⟩
 obtain ⟨q, hq⟩ := Classical.axiomOfChoice hq;have hmono : ∀ s t, s < t -> t < k -> q s < q t := fun s t hst' ht => by
  refine Nat.lt_of_not_le fun hle => ?_;have h1 := h.inc s t hst' ht;rw [<- (hq s (by omega)).2, <- (hq t ht).2] at h1;rcases Nat.lt_or_eq_of_le hle with h2 | h2
  · have := hE.inc (q t) (q s) h2 (hq s (by omega)).1; omega
  · rw [h2] at h1; omega
 have up : ∀ s, s < k -> s <= q s := by
  intro s;induction s with
  | zero => intro _; exact Nat.zero_le _
  | succ s ih => intro hs'; have := ih (by omega); have := hmono s (s + 1) (by omega) hs'; omega
 have dw : ∀ e s, s + e + 1 = k -> q s <= s := by
  intro e;induction e with
  | zero => intro s hs'; have := (hq s (by omega)).1; omega
  | succ e ih => intro s hs'; have := ih (s + 1) (by omega); have := hmono s (s + 1) (by omega) (by omega); omega
 intro t ht;have h1 := up t ht;have h2 := dw (k - t - 1) t (by omega);have h3 : q t = t := by omega
 rw [<- (hq t ht).2, h3]
end
theorem r9 {mw k : Nat} (hk : k <= 64) : (k * W ^ mw) ^ k < W ^ (64 * (mw + 1)) := by
 have h1 : k * W ^ mw < W ^ (mw + 1) := by
  rw [Nat.pow_succ, Nat.mul_comm (W ^ mw)];exact Nat.mul_lt_mul_of_pos_right (Nat.lt_of_le_of_lt hk (by unfold W; omega)) (Nat.pow_pos (by unfold W; omega))
 rcases Nat.eq_zero_or_pos k with rfl | h0
 · exact Nat.one_lt_pow (by omega) (by unfold W; omega)
 · refine Nat.lt_of_lt_of_le (Nat.pow_lt_pow_left h1 (by omega)) ?_;rw [<- Nat.pow_mul];exact Nat.pow_le_pow_right (by unfold W; omega) (by rw [Nat.mul_comm]; exact Nat.mul_le_mul_right _ hk)
end Go.Proofs.YtjjlmfmoihooiaaGreat
namespace Go.Proofs.YtjjlmfmoihooiaaGreat
open Go.RowKit
structure jm where
 ro : Option Addr
 rc : Nat
 no : Option Addr
 nc : Nat
 gs : List Nat
 E : List (List Int)
 nu : List Nat
 tn : Bool
 lp : P4
 ls : Int
 tk : Nat
def xB (z : jm) : List Value := [.slice z.ro z.E.length z.rc, .slice z.no z.E.length z.nc, .bool z.tn, .bool z.lp.1, .slice z.lp.2.1 z.lp.2.2.1 z.lp.2.2.2, .int .i64 (z.tk : Int)]
def fz (gs : List Nat) (n : Nat) : Prop := ∀ a b, a < n -> b < n -> gs.getD a 0 = gs.getD b 0 -> a = b
theorem nX {gs : List Nat} {n g : Nat} (hl : gs.length = n) (h : fz gs n) (hg : ∀ t, t < n -> gs.getD t 0 ≠ g) : fz (gs ++ [g]) (n + 1) := fun a b ha hb e => by
 rw [ic, ic, hl] at e;by_cases h1 : a < n <;> by_cases h2 : b < n
 · rw [if_pos h1, if_pos h2] at e; exact h a b h1 h2 e
 · rw [if_pos h1, if_neg h2, if_pos (by omega)] at e; exact absurd e (hg a h1)
 · rw [if_neg h1, if_pos (by omega), if_pos h2] at e; exact absurd e.symm (hg b h2)
 · omega
abbrev Ak (gF m : Nat) (z : jm) : List En := [.row gF 87 (xB z), .lg 22 1 z.ro z.E.length z.rc (hG m z.gs), .lg 3 1 z.no z.E.length z.nc (iL z.nu), .iR z.E.length z.gs z.E, .num (av z.lp) z.ls]
def fA (gF m : Nat) (z : jm) (w : World) : Prop := (aa w gF 87 (xB z) /\ nE 22 1 z.ro z.E.length z.rc (hG m z.gs) w /\ nE 3 1 z.no z.E.length z.nc (iL z.nu) w /\ y9 z.E.length z.gs z.E w /\ aH w (av z.lp) z.ls) /\ z.gs.length = z.E.length /\ fz z.gs z.E.length
def fq (gF : Nat) (z : jm) (g : Nat) : Prop := g = gF ∨ (∃ o, z.ro = some ⟨g, o, none⟩) ∨ (∃ o, z.no = some ⟨g, o, none⟩) ∨ ∃ t, t < z.E.length /\ t ≠ z.E.length /\ g = z.gs.getD t 0
theorem gd {te : TypeId} {sz : Nat} {ao : Option Addr} {k cap : Nat} {cs : List Value} {w : World} (h : nE te sz ao k cap cs w) {b : Nat} (hb : ∃ o, ao = some ⟨b, o, none⟩) : ∃ tl, aI tl /\ aa w b te (cs ++ tl) := by
 obtain ⟨o, hb⟩ := hb;obtain ⟨_, _, ⟨e, _⟩ | ⟨b', tl, e, hn, hr, _⟩⟩ := h
 · rw [hb] at e; cases e
 · rw [hb] at e; cases e; exact ⟨tl, hn, hr⟩
theorem fA.rows {gF m : Nat} {z : jm} {w : World} (h : fA gF m z w) {g : Nat} (hg : fq gF z g) : ∃ t cs, aa w g t cs /\ aI cs /\ t ≠ 60 := by
 obtain ⟨⟨h1, h2, h3, h4, h5⟩, _⟩ := h;rcases hg with rfl | hg | hg | ⟨t, ht, hx, rfl⟩
 · exact ⟨_, _, h1, aI.slice (aI.slice (aI.bool (aI.bool (aI.slice (aI.i64 aI.nil))))), by decide⟩
 · obtain ⟨tl, hn, hr⟩ := gd h2 hg;exact ⟨_, _, hr, (gG m z.gs).append hn, by decide⟩
 · obtain ⟨tl, hn, hr⟩ := gd h3 hg;exact ⟨_, _, hr, (iF z.nu).append hn, by decide⟩
 · obtain ⟨ps, tl, hn, hr, _⟩ := h4 t ht hx;exact ⟨_, _, hr, aI.rn hn, by decide⟩
abbrev En.qu (gF m : Nat) (z : jm) : En := .fact true true (fq gF z) (fA gF m z) (fun h g hg => by obtain ⟨t, cs, hr, _⟩ := h.rows hg; exact hr.lt)
 (fun {w w' T} ⟨⟨h1, h2, h3, h4, h5⟩, h6, h7⟩ hc hT hs => by
  refine ⟨⟨hc.row h1 (hs _ (.inl rfl)), ?_, ?_, fun t ht hx => ?_, hc.num (hT rfl).bI h5⟩, h6, h7⟩
  · exact ⟨h2.1, h2.2.1, h2.2.2.imp id fun ⟨b, tl, e, hn, hr, hl⟩ => ⟨b, tl, e, hn, hc.row hr (hs _ (.inr (.inl ⟨0, e⟩))), hl⟩⟩
  · exact ⟨h3.1, h3.2.1, h3.2.2.imp id fun ⟨b, tl, e, hn, hr, hl⟩ => ⟨b, tl, e, hn, hc.row hr (hs _ (.inr (.inr (.inl ⟨0, e⟩)))), hl⟩⟩
  · obtain ⟨ps, tl, hn, hr, h1', h2'⟩ := h4 t ht hx;exact ⟨ps, tl, hn, hc.row hr (hs _ (.inr (.inr (.inr ⟨t, ht, hx, rfl⟩)))), h1', fun i a => hc.num (hT rfl).bI (h2' i a)⟩)
theorem Fr.fldO {S0 : Nat -> Prop} {w0 w : World} {es : List En} {gF m : Nat} {z : jm} (h : Fr S0 w0 w (.qu gF m z :: es)) : Fr S0 w0 w (Ak gF m z ++ es) /\ z.gs.length = z.E.length /\ fz z.gs z.E.length := by
 obtain ⟨⟨h1, h2, h3, h4, h5⟩, h6, h7⟩ := (h.m0 : fA gF m z w);have q12 : ∀ b, (∃ o, z.ro = some ⟨b, o, none⟩) -> b ≠ gF := fun b hb e => by
  obtain ⟨tl, _, hr⟩ := gd h2 hb; subst e; exact absurd rfl (hr.ne h1 (by decide))
 have q13 : ∀ b, (∃ o, z.no = some ⟨b, o, none⟩) -> b ≠ gF := fun b hb e => by
  obtain ⟨tl, _, hr⟩ := gd h3 hb; subst e; exact absurd rfl (hr.ne h1 (by decide))
 have q14 : ∀ b, (∃ t, t < z.E.length /\ t ≠ z.E.length /\ b = z.gs.getD t 0) -> b ≠ gF := fun b ⟨t, ht, hx, e'⟩ e => by
  obtain ⟨ps, tl, _, hr, _⟩ := h4 t ht hx; rw [<- e', e] at hr; exact absurd rfl (hr.ne h1 (by decide))
 have q23 : ∀ b, (∃ o, z.ro = some ⟨b, o, none⟩) -> ¬ ∃ o, z.no = some ⟨b, o, none⟩ := fun b hb hb' => by
  obtain ⟨tl, _, hr⟩ := gd h2 hb; obtain ⟨tl', _, hr'⟩ := gd h3 hb'; exact absurd rfl (hr.ne hr' (by decide))
 have q24 : ∀ b, (∃ o, z.ro = some ⟨b, o, none⟩) -> ¬ ∃ t, t < z.E.length /\ t ≠ z.E.length /\ b = z.gs.getD t 0 := fun b hb ⟨t, ht, hx, e'⟩ => by
  obtain ⟨tl, _, hr⟩ := gd h2 hb; obtain ⟨ps, tl', _, hr', _⟩ := h4 t ht hx; rw [<- e'] at hr'; exact absurd rfl (hr.ne hr' (by decide))
 have q34 : ∀ b, (∃ o, z.no = some ⟨b, o, none⟩) -> ¬ ∃ t, t < z.E.length /\ t ≠ z.E.length /\ b = z.gs.getD t 0 := fun b hb ⟨t, ht, hx, e'⟩ => by
  obtain ⟨tl, _, hr⟩ := gd h3 hb; obtain ⟨ps, tl', _, hr', _⟩ := h4 t ht hx; rw [<- e'] at hr'; exact absurd rfl (hr.ne hr' (by decide))
 refine ⟨h.o6 rfl (fun x hx => ?_) ?_, h6, h7⟩
 · simp only [Ak, List.mem_cons, List.mem_nil_iff, or_false] at hx;rcases hx with rfl | rfl | rfl | rfl | rfl
   · exact ⟨h1, fun b e => .inl e⟩
   · exact ⟨h2, fun b e => .inr (.inl e)⟩
   · exact ⟨h3, fun b e => .inr (.inr (.inl e))⟩
   · exact ⟨h4, fun b e => .inr (.inr (.inr e))⟩
   · exact ⟨h5, fun b e => e.elim⟩
 · refine .cons (fun x hx => ?_) (.cons (fun x hx => ?_) (.cons (fun x hx => ?_) (.cons (fun x hx => ?_) (.cons (fun x hx => (List.not_mem_nil hx).elim) .nil))))
   · simp only [List.mem_cons, List.mem_nil_iff, or_false] at hx;rcases hx with rfl | rfl | rfl | rfl
     · exact ⟨fun _ b hb hb' => q12 b hb' hb, fun _ b hb' hb => q12 b hb' hb⟩
     · exact ⟨fun _ b hb hb' => q13 b hb' hb, fun _ b hb' hb => q13 b hb' hb⟩
     · exact ⟨fun _ b hb hb' => q14 b hb' hb, fun _ b hb' hb => q14 b hb' hb⟩
     · exact ⟨fun _ _ _ h => h, fun q => nomatch q⟩
   · simp only [List.mem_cons, List.mem_nil_iff, or_false] at hx;rcases hx with rfl | rfl | rfl
     · exact ⟨fun _ b hb hb' => q23 b hb hb', fun _ b hb' hb => q23 b hb hb'⟩
     · exact ⟨fun _ b hb hb' => q24 b hb hb', fun _ b hb' hb => q24 b hb hb'⟩
     · exact ⟨fun _ _ _ h => h, fun q => nomatch q⟩
   · simp only [List.mem_cons, List.mem_nil_iff, or_false] at hx;rcases hx with rfl | rfl
     · exact ⟨fun _ b hb hb' => q34 b hb hb', fun _ b hb' hb => q34 b hb hb'⟩
     · exact ⟨fun _ _ _ h => h, fun q => nomatch q⟩
   · simp only [List.mem_cons, List.mem_nil_iff, or_false] at hx;rcases hx with rfl;exact ⟨fun _ _ _ h => h, fun q => nomatch q⟩
def bZ (k c : Nat) (xs : List Int) : List (List Int) := (List.range k).map (rowOf xs c)
theorem dS (k c : Nat) (xs : List Int) : (bZ k c xs).length = k := by simp [bZ]
theorem rM (k c : Nat) (xs : List Int) : bZ (k + 1) c xs = bZ k c xs ++ [rowOf xs c k] := by simp [bZ, List.range_succ]
theorem factI {l N : Nat} {P : Program} {n : Nat} {S0 : Nat -> Prop} {w0 : World} {c : Code} {Q : Exit -> Act -> World -> Prop} {ls : List (Nat × Value)} {es : List En} {A : Prop} (hA : ∀ w, Fr S0 w0 w es -> A) (k : A -> CI l N P n S0 w0 c Q ls es) : CI l N P n S0 w0 c Q ls es := fun a w ha hw => k (hA w hw) a w ha hw
structure OfX where
 k : Nat
 ro : Option Addr
 rc : Nat
 no : Option Addr
 nc : Nat
 gs : List Nat
structure OfI (k : Nat) (x : OfX) : Prop where
 hk : x.k = k
 hl : x.gs.length = k
 hi : fz x.gs k
theorem zG (r c nm L cap : Nat) (ao : Option Addr) (xs : List Int) (w : World) (hr : r <= 64) (hc : c <= 64) (hA : aL w L ao xs) (hL : L <= 17592186044415) (hs : xs.length = r * c) (hnm : xs.length = nm) (hb : ∀ x ∈ xs, ag x.natAbs <= 17592186044415) :
 Calls Tryz.prog 59 #[.agg #[.int .i64 (r : Int), .int .i64 (c : Int), .slice ao nm cap]] w fun e w' => ∃ q : Nat × jm, e = .returned (.pointer (some ⟨q.1, 0, none⟩)) /\ Nw w w' [.qu q.1 c q.2] /\ q.2.E = bZ r c xs /\ q.2.ls = 1 /\ q.2.tn = false /\ q.2.tk = 0 /\ q.2.nu.length = r := by
 have cL := fun w' (h : aL w' L ao xs) => qF r c nm ao cap xs w' hr hc (fun hl => by
  obtain ⟨b, o, e, hlt, hc⟩ := h hl;exact ⟨b, o, e, hlt, fun i hi => by obtain ⟨p, h0, h1, hn⟩ := hc i hi; exact ⟨p, h0, h1, hn.mono hL⟩⟩) hs hnm
 have HC := hi_ cL;have HS := hi_ (And.intro hs (And.intro hnm hb));clear cL hs hnm hb;refine zD (S0 := fun _ => False) Tryz.func59 ((Fr.nil _ w).l hA (by simp)) ?_;refine ah ?_;refine rW [] ?_;refine aW fun g1 => ?_;refine dW ?_;refine eW ?_;refine ah ?_;refine rW [] ?_;refine cN (fun w' H => ko 1 w' (by omega) (by omega)) fun p6 => ?_;refine dW ?_;refine aW fun g8 => ?_;refine aW fun g3 => ?_;refine sG ?_;refine eW ?_;refine ah ?_;refine rW [] ?_;refine dW ?_;refine cG (α := (Nat × Nat) × List P4 × List Value) (mk := fun q => .func (.func 89) #[] #[.pointer (some ⟨q.1.1, 0, none⟩)]) (ens := fun q => [.row q.1.1 24 [.int .i64 (r : Int), .int .i64 (c : Int), .slice (some ⟨q.1.2, 0, none⟩) nm nm], .row q.1.2 37 (rn q.2.1 q.2.2), .ns q.2.1 xs, .pr (aI q.2.2)]) (fun w' H => HC.out w' (H.all (.ls L ao xs) (by simp))) fun q => ?_;refine eW ?_;refine ah ?_;refine sU (A := aI q.2.2) (by simp) fun hq => ?_;refine yv (te := 22) (sz := 1) ?_;refine yv (te := 3) (sz := 1) ?_;refine zO ?_;refine tt (X := OfX) (gb := q.1.1) (b := q.1.2) (r := r) (c := c) (m := nm) (ps := q.2.1) (tl := q.2.2) (xs := xs) OfI
  (fun x => [.row g8 87 [.slice x.ro x.k x.rc, .slice x.no x.k x.nc, .bool false, .bool p6.1, .slice p6.2.1 p6.2.2.1 p6.2.2.2, .int .i64 0], .lg 22 1 x.ro x.k x.rc (hG c x.gs), .lg 3 1 x.no x.k x.nc (iL (List.range x.k)), .iR x.k x.gs (bZ x.k c xs), .row g3 84 [.pointer (some ⟨g8, 0, none⟩)], .own w.heap.size (av p6) 1])
  (fun D x => [.row g8 87 [.slice x.ro x.k x.rc, .slice x.no x.k x.nc, .bool false, .bool p6.1, .slice p6.2.1 p6.2.2.1 p6.2.2.2, .int .i64 0], .lg 22 1 x.ro x.k x.rc (hG c x.gs), .lg 3 1 x.no x.k x.nc (iL (List.range x.k)), .iR x.k x.gs (bZ x.k c xs), .row g3 84 [.pointer (some ⟨g8, 0, none⟩)], .own w.heap.size (av p6) 1, .uB w.heap.size D])
  ⟨0, none, 0, none, 0, []⟩ (fun k g => [(4, .int .i64 (k : Int)), (5, .slice (some ⟨g, 0, none⟩) c c), (3, .pointer (some ⟨g3, 0, none⟩))]) hr hc HS.out.1 HS.out.2.1 HS.out.2.2 hq ⟨rfl, rfl, fun a b ha => absurd ha (Nat.not_lt_zero _)⟩ (fun l k g W => ?_) (fun l k x g qs tk S' W hx hk htk => ?_) (fun D x hx => ?_)
  (fun x => .cons .row .row (.cons .lg (.lg (gG _ _)) (.cons .lg (.lg (iF _)) (.cons .iR .iR (.cons .row .row (.cons .own (.no rfl) .nil))))))
 · refine xL ?_;refine rI [] ?_;refine dW ?_;refine eW ?_;refine xL ?_;refine rI [] ?_;refine dW ?_;refine eW ?_;refine xL ?_;exact asgE
 · obtain ⟨k0, ro, rc, no, nc, gs⟩ := x;obtain ⟨hk0, hgl, hgi⟩ := hx;obtain rfl : k0 = k := hk0
   replace hgl : gs.length = k0 := hgl
   replace hgi : fz gs k0 := hgi
   have hk64 : k0 <= 64 := by omega
   have HG := hi_ (And.intro hgl hgi);clear hgl hgi;refine xL ?_;refine factI (A := ∀ t, t < k0 -> gs.getD t 0 ≠ g) (fun w' h => by
    have h2 : Fr S' W w' (.row g 37 (rn qs tk) :: .ns qs (rowOf xs c k0) :: .iR k0 gs (bZ k0 c xs) :: []) := h.pick (by repeat (first | exact Pk.n | refine Pk.c (by repeat (first | exact Rm.z | apply Rm.s)) ?_));have h3 := (h2.oW (x' := k0 + 1) (by rw [dS]; exact HG.out.1) (by rw [dS]; exact Nat.le_refl _) (by rw [dS]; omega) htk).2;rw [dS] at h3; exact h3) fun hne => ?_
   have HN := hi_ hne;clear hne;refine rI [[3]] ?_;(iterate 6 refine dH ?_);refine bW (m := 1) fun g19 => ?_;refine yT (k := k0) (cap := rc) (g := g19) (c := 1) (ao := ro) (cs := hG c gs) (v := .slice (some ⟨g, 0, none⟩) c c) Tryz.underlying70 xd rfl (pW (.slice none 0 0) rfl (fun n h => nomatch h)) (by omega) (by omega) rfl ⟨gG c gs, by decide⟩ (by simp) fun u => ?_;refine dH ?_;refine dH ?_;refine sW ?_;refine eW ?_;refine xL ?_;refine rI [[5]] ?_;(iterate 6 refine dH ?_);refine bW (m := 1) fun g29 => ?_;refine yT (k := k0) (cap := nc) (g := g29) (c := 1) (ao := no) (cs := iL (List.range k0)) (v := .int .i64 (k0 : Int)) Tryz.underlying34 sS rfl (pW (.int .i64 0) rfl (fun n h => nomatch h)) (by omega) (by omega) rfl ⟨iF _, by decide⟩ (by simp) fun v => ?_;refine dH ?_;refine dH ?_;refine sW ?_;refine eW ?_;refine xL ?_;exact rdE (⟨k0 + 1, u.1, u.2, v.1, v.2, gs ++ [g]⟩ : OfX) ⟨rfl, by show (gs ++ [g]).length = _; rw [List.length_append, HG.out.1]; rfl, nX HG.out.1 HG.out.2 HN.out⟩ (he := by
    intro w' h;rw [tX, tB, show List.range k0 ++ [k0] = List.range (k0 + 1) from List.range_succ.symm] at h;have h2 := h.pick (es' := .row g 37 (rn qs tk) :: .ns qs (rowOf xs c k0) :: .iR k0 gs (bZ k0 c xs) :: [.row g8 87 [.slice u.1 (k0 + 1) u.2, .slice v.1 (k0 + 1) v.2, .bool false, .bool p6.1, .slice p6.2.1 p6.2.2.1 p6.2.2.2, .int .i64 0], .lg 22 1 u.1 (k0 + 1) u.2 (hG c (gs ++ [g])), .lg 3 1 v.1 (k0 + 1) v.2 (iL (List.range (k0 + 1))), .row g3 84 [.pointer (some ⟨g8, 0, none⟩)], .own w.heap.size (av p6) 1]) (by repeat (first | exact Pk.n | refine Pk.c (by repeat (first | exact Rm.z | apply Rm.s)) ?_));have h3 := (h2.oW (x' := k0 + 1) (by rw [dS]; exact HG.out.1) (by rw [dS]; exact Nat.le_refl _) (by rw [dS]; omega) htk).1;rw [<- rM] at h3;exact h3.pick (by repeat (first | exact Pk.n | refine Pk.c (by repeat (first | exact Rm.z | apply Rm.s)) ?_)))
 obtain ⟨k0, ro, rc, no, nc, gs⟩ := x;obtain ⟨hk0, hgl, hgi⟩ := hx;obtain rfl : k0 = r := hk0;have HG : Hid (gs.length = k0 /\ fz gs k0) := hi_ ⟨hgl, hgi⟩;clear hgl hgi;refine ah ?_;refine rW [] ?_;refine dW ?_;refine dW ?_;refine eW ?_;refine ah ?_;refine fin1M (D := D) (es' := [.row g8 87 [.slice ro k0 rc, .slice no k0 nc, .bool false, .bool p6.1, .slice p6.2.1 p6.2.2.1 p6.2.2.2, .int .i64 0], .lg 22 1 ro k0 rc (hG c gs), .lg 3 1 no k0 nc (iL (List.range k0)), .iR k0 gs (bZ k0 c xs), .own w.heap.size (av p6) 1]) (fun w' H => ?_) (.cons .row .row (.cons .lg (.lg (gG _ _)) (.cons .lg (.lg (iF _)) (.cons .iR .iR (.cons .own (.no rfl) .nil))))) (by simp);have hE : (bZ k0 c xs).length = k0 := dS ..;have hF : fA g8 c ⟨ro, rc, no, nc, gs, bZ k0 c xs, List.range k0, false, p6, 1, 0⟩ w' := by
  refine ⟨⟨?_, ?_, ?_, ?_, aj.num H.m4⟩, HG.out.1.trans hE.symm, by show fz gs (bZ k0 c xs).length; rw [hE]; exact HG.out.2⟩
  · show aa w' g8 _ [.slice ro (bZ k0 c xs).length rc, .slice no (bZ k0 c xs).length nc, _, _, _, _];rw [hE]; exact H.m0
  · show nE _ 1 ro (bZ k0 c xs).length rc (hG c gs) w';rw [hE]; exact H.m1
  · show nE _ 1 no (bZ k0 c xs).length nc (iL (List.range k0)) w';rw [hE]; exact H.m2
  · show y9 (bZ k0 c xs).length gs _ w';rw [hE]; exact H.m3
 have hS : ∀ b, fq g8 ⟨ro, rc, no, nc, gs, bZ k0 c xs, List.range k0, false, p6, 1, 0⟩ b -> w.heap.size <= b := by
  rintro b (e | e | e | ⟨t, ht, _, e⟩)
  · exact (H.own _ (List.mem_cons_self ..) rfl b e).elim (fun h => h.elim) id
  · exact (H.own _ (List.mem_cons_of_mem _ (List.mem_cons_self ..)) rfl b e).elim (fun h => h.elim) id
  · exact (H.own _ (List.mem_cons_of_mem _ (List.mem_cons_of_mem _ (List.mem_cons_self ..))) rfl b e).elim (fun h => h.elim) id
  · exact (H.own _ (List.mem_cons_of_mem _ (List.mem_cons_of_mem _ (List.mem_cons_of_mem _ (List.mem_cons_self ..)))) rfl b ⟨t, ht, by rw [show t = t from rfl]; have := hE; have h : t < (bZ k0 c xs).length := ht; omega, e⟩).elim (fun h => h.elim) id
 exact ⟨_, ee, (g8, ⟨ro, rc, no, nc, gs, bZ k0 c xs, List.range k0, false, p6, 1, 0⟩), rfl, ⟨H.below, fun e he => by rcases List.mem_singleton.1 he with rfl; exact ⟨hF, hS⟩, List.pairwise_singleton ..⟩, rfl, rfl, rfl, rfl, by simp⟩
end Go.Proofs.YtjjlmfmoihooiaaGreat
