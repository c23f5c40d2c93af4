/- Part 5 of 7 of the proof that the law HnfInserts returns true for every input of bulk at most 1048576 and leaves its arguments as they were: here the contracts of the functions that it calls, and plain lemmas. -/
import Derived.RangeFuncNested
import Derived.RangeFuncBound
import Derived.RangeFuncCalls
import Derived.RangeFuncLeaves
import Derived.Shelf.Abstract
import Derived.Shelf.RegionOpen
import Derived.WalkKit
import Derived.OwnWalkIn
import Derived.TacticsInMore
import Derived.LoopNIn
import Derived.LoopIn
import Derived.Maps.AppendAt
import Derived.Test.YtknkkceioockjaaGreatPiD
set_option linter.all false
namespace Go.Proofs.YtknkkceioockjaaGreat
def HX : Nat := 65536
theorem HX_pos : 0 < HX := by unfold HX; omega
theorem HX_pow4 : HX ^ 4 = W := rfl
def hval : List Nat -> Nat
 | [] => 0
 | x :: r => x + HX * hval r
def HOk (l : List Nat) : Prop := ∀ x ∈ l, x < HX
theorem HOk.tail {x : Nat} {r : List Nat} (h : HOk (x :: r)) : HOk r := fun y hy => h y (List.mem_cons_of_mem _ hy)
theorem HOk.head {x : Nat} {r : List Nat} (h : HOk (x :: r)) : x < HX := h x (List.mem_cons_self ..)
theorem HOk.append {a b : List Nat} (ha : HOk a) (hb : HOk b) : HOk (a ++ b) := fun x hx => (List.mem_append.1 hx).elim (ha x) (hb x)
theorem HOk.take {l : List Nat} (h : HOk l) (k : Nat) : HOk (l.take k) := fun x hx => h x (List.mem_of_mem_take hx)
theorem HOk.drop {l : List Nat} (h : HOk l) (k : Nat) : HOk (l.drop k) := fun x hx => h x (List.mem_of_mem_drop hx)
theorem HOk.set {l : List Nat} (h : HOk l) (k v : Nat) (hv : v < HX) : HOk (l.set k v) := fun x hx => (List.mem_or_eq_of_mem_set hx).elim (h x) (fun e => e ▸ hv)
theorem HOk.replicate (n : Nat) : HOk (List.replicate n 0) := fun x hx => by rw [List.eq_of_mem_replicate hx]; exact HX_pos
theorem HOk.gw_ {l : List Nat} (h : HOk l) (k : Nat) : gw l k < HX := by
 unfold gw;rw [List.getD_eq_getElem?_getD];cases hk : l[k]? with
 | none => simpa using HX_pos
 | some v => exact h v (List.mem_of_getElem? hk)
theorem hval_append (a b : List Nat) : hval (a ++ b) = hval a + HX ^ a.length * hval b := by
 induction a with
 | nil => simp [hval]
 | cons x r ih => simp only [List.cons_append, hval, ih, List.length_cons, Nat.pow_succ, Nat.mul_add]; rw [Nat.mul_comm (HX ^ r.length) HX, Nat.mul_assoc]; omega
theorem hval_replicate (n : Nat) : hval (List.replicate n 0) = 0 := by
 induction n with
 | zero => simp [hval]
 | succ n ih => simp [List.replicate_succ, hval, ih]
theorem hval_lt {l : List Nat} (h : HOk l) : hval l < HX ^ l.length := by
 induction l with
 | nil => simp [hval]
 | cons x r ih =>
  have h1 := h.head;have h2 := ih h.tail;simp only [hval, List.length_cons, Nat.pow_succ];have : HX * (hval r + 1) <= HX * HX ^ r.length := Nat.mul_le_mul_left _ h2;rw [Nat.mul_comm (HX ^ r.length) HX];rw [Nat.mul_add] at this;omega
theorem hval_take_succ (l : List Nat) (k : Nat) : hval (l.take (k + 1)) = hval (l.take k) + HX ^ k * gw l k := by
 unfold gw;by_cases hk : k < l.length
 · rw [List.take_succ_eq_append_getElem hk, hval_append, List.length_take, Nat.min_eq_left (by omega)];simp [hval, hk]
 · rw [List.take_of_length_le (by omega), List.take_of_length_le (by omega)];simp [List.getElem?_eq_none (show l.length <= k by omega)]
theorem hval_zeros {l : List Nat} (h : ∀ j, gw l j = 0) : hval l = 0 := by
 induction l with
 | nil => rfl
 | cons x r ih =>
  have h0 := h 0;have := ih (fun j => by have := h (j + 1); unfold gw at *; simpa using this);unfold gw at h0;simp at h0;simp [hval, h0, this]
theorem hval_take_of_zeros {l : List Nat} {k : Nat} (h : ∀ j, k <= j -> gw l j = 0) : hval (l.take k) = hval l := by
 by_cases hk : k <= l.length
 · conv => rhs; rw [<- List.take_append_drop k l, hval_append]
   rw [hval_zeros (l := l.drop k) (fun j => by have := h (k + j) (by omega); unfold gw at *; simpa using this)]; omega
 · rw [List.take_of_length_le (by omega)]
theorem hval_take_tlen (l : List Nat) : hval (l.take (tlen l)) = hval l := hval_take_of_zeros (fun j hj => zero_of_tlen l j hj)
structure Hex (n : Nat) (ds : List Nat) : Prop where
 ok : HOk ds
 trim : tlen ds = ds.length
 val : hval ds = n
theorem tlen_take_tlen (l : List Nat) : tlen (l.take (tlen l)) = (l.take (tlen l)).length := by
 have hl := tlen_le l;rw [List.length_take, Nat.min_eq_left hl];rcases Nat.eq_zero_or_pos (tlen l) with h0 | h0
 · rw [h0]; rfl
 · have h1 := tlen_top l (by omega);have h2 : tlen l - 1 < tlen (l.take (tlen l)) := lt_tlen _ _ (by
    rw [List.getD_eq_getElem?_getD, List.getElem?_take_of_lt (by omega), <- List.getD_eq_getElem?_getD]; exact h1)
   have h3 := tlen_le (l.take (tlen l));rw [List.length_take, Nat.min_eq_left hl] at h3;omega
theorem Hex.of {l : List Nat} (h : HOk l) : Hex (hval l) (l.take (tlen l)) := ⟨h.take _, tlen_take_tlen l, hval_take_tlen l⟩
theorem Hex.top {n : Nat} {ds : List Nat} (h : Hex n ds) (hl : 0 < ds.length) : HX ^ (ds.length - 1) <= n := by
 have h1 := tlen_top ds (by have := h.trim; omega);have h2 := hval_take_succ ds (ds.length - 1);have e : ds.length - 1 + 1 = ds.length := by omega
 rw [e, List.take_length, h.val] at h2;rw [h.trim] at h1;have h3 : 1 <= gw ds (ds.length - 1) := by unfold gw; omega
 have := Nat.mul_le_mul_left (HX ^ (ds.length - 1)) h3;omega
theorem Hex.lt {n : Nat} {ds : List Nat} (h : Hex n ds) : n < HX ^ ds.length := by rw [<- h.val]; exact hval_lt h.ok
theorem Hex.shorter {n m : Nat} {xs ys : List Nat} (h : Hex n xs) (k : Hex m ys) (hl : xs.length < ys.length) : n < m := by
 have h1 := h.lt;have h2 := k.top (by omega);have h3 : HX ^ xs.length <= HX ^ (ys.length - 1) := Nat.pow_le_pow_right HX_pos (by omega);omega
theorem hval_lt_of {xs ys : List Nat} (hx : HOk xs) (hl : xs.length = ys.length) : ∀ (k : Nat), k < xs.length -> (∀ j, k < j -> gw xs j = gw ys j) -> gw xs k < gw ys k -> hval xs < hval ys := by
 intro k hk hj hlt;have up : ∀ m, k + 1 <= m -> hval (xs.take m) < hval (ys.take m) := by
  intro m hm;induction m with
  | zero => omega
  | succ m ih =>
   by_cases e : m = k
   · subst e;rw [hval_take_succ, hval_take_succ];have h1 := hval_lt (hx.take m);rw [List.length_take, Nat.min_eq_left (by omega)] at h1;have h2 : HX ^ m * (gw xs m + 1) <= HX ^ m * gw ys m := Nat.mul_le_mul_left _ hlt;rw [Nat.mul_add] at h2;omega
   · rw [hval_take_succ, hval_take_succ, hj m (by omega)];have := ih (by omega);omega
 have := up xs.length hk;rw [List.take_length, hl, List.take_length] at this;exact this
theorem hval_eq_of {xs ys : List Nat} (hl : xs.length = ys.length) (hj : ∀ j, gw xs j = gw ys j) : hval xs = hval ys := by
 have : xs = ys := List.ext_getElem hl fun j h1 h2 => by
  have := hj j;unfold gw at this;rw [List.getD_eq_getElem?_getD, List.getD_eq_getElem?_getD, List.getElem?_eq_getElem h1, List.getElem?_eq_getElem h2] at this;simpa using this
 rw [this]
def sp4 (w : Nat) : List Nat := [w % HX, w / HX % HX, w / HX / HX % HX, w / HX / HX / HX % HX]
theorem sp4_ok (w : Nat) : HOk (sp4 w) := fun x hx => by
 simp only [sp4, List.mem_cons, List.not_mem_nil, or_false] at hx;rcases hx with rfl | rfl | rfl | rfl <;> exact Nat.mod_lt _ HX_pos
theorem sp4_val {w : Nat} (h : w < W) : hval (sp4 w) = w := by
 simp only [sp4, hval, Nat.mul_zero, Nat.add_zero];unfold W at h; unfold HX; omega
theorem sp4_length (w : Nat) : (sp4 w).length = 4 := rfl
def spl (ws : List Nat) : List Nat := ws.flatMap sp4
theorem spl_cons (w : Nat) (ws : List Nat) : spl (w :: ws) = sp4 w ++ spl ws := by simp [spl]
theorem spl_ok (ws : List Nat) : HOk (spl ws) := by
 induction ws with
 | nil => intro x hx; simp [spl] at hx
 | cons w ws ih => rw [spl_cons]; exact (sp4_ok w).append ih
theorem spl_length (ws : List Nat) : (spl ws).length = 4 * ws.length := by
 induction ws with
 | nil => rfl
 | cons w ws ih => rw [spl_cons, List.length_append, ih, sp4_length, List.length_cons]; omega
theorem spl_val {ws : List Nat} (h : Ok ws) : hval (spl ws) = nval ws := by
 induction ws with
 | nil => rfl
 | cons w ws ih =>
  rw [spl_cons, hval_append, sp4_length, HX_pow4, sp4_val h.head, ih h.tail]; rfl
def ch4 (ds : List Nat) (q : Nat) : Nat := hval ((ds.drop (4 * q)).take 4)
theorem ch4_lt {ds : List Nat} (h : HOk ds) (q : Nat) : ch4 ds q < W := by
 unfold ch4;refine Nat.lt_of_lt_of_le (hval_lt ((h.drop _).take _)) ?_;rw [<- HX_pow4];exact Nat.pow_le_pow_right HX_pos (by simp; omega)
theorem nval_ch4 : ∀ (n : Nat) (ds : List Nat), ds.length <= 4 * n -> nval ((List.range n).map (ch4 ds)) = hval ds
 | 0, ds, h => by
  have : ds = [] := List.length_eq_zero_iff.1 (by omega);subst this; rfl
 | n + 1, ds, h => by
  have ih := nval_ch4 n (ds.drop 4) (by simp; omega);rw [List.range_succ_eq_map, List.map_cons, List.map_map];have e : (List.range n).map (ch4 ds ∘ Nat.succ) = (List.range n).map (ch4 (ds.drop 4)) := by
   refine List.map_congr_left (fun q _ => ?_);simp only [Function.comp, ch4, List.drop_drop];congr 3; omega
  rw [e, nval, ih];unfold ch4;simp only [Nat.mul_zero, List.drop_zero]
  conv => rhs; rw [<- List.take_append_drop 4 ds, hval_append]
  by_cases h4 : 4 <= ds.length
  · rw [List.length_take, Nat.min_eq_left h4, HX_pow4]
  · rw [List.drop_of_length_le (by omega)]; simp [hval]
theorem ch4_ok {ds : List Nat} (h : HOk ds) (n : Nat) : Ok ((List.range n).map (ch4 ds)) := fun x hx => by
 obtain ⟨q, _, rfl⟩ := List.mem_map.1 hx;exact ch4_lt h q
theorem ch4_dig {ds : List Nat} {n m : Nat} (h : Hex m ds) (h1 : ds.length <= 4 * n) (h2 : 4 * n < ds.length + 4) : (List.range n).map (ch4 ds) = dig m := by
 have hok := ch4_ok h.ok n;have hv := nval_ch4 n ds h1;rw [h.val] at hv;have hd := dig_nval hok;rw [hv] at hd;rw [hd];have hl : tlen ((List.range n).map (ch4 ds)) = n := by
  have := tlen_le ((List.range n).map (ch4 ds));rw [List.length_map, List.length_range] at this;rcases Nat.eq_zero_or_pos n with h0 | h0
  · omega
  · have : n - 1 < tlen ((List.range n).map (ch4 ds)) := lt_tlen _ _ (by
     rw [List.getD_eq_getElem?_getD];simp only [List.getElem?_map, List.getElem?_range (show n - 1 < n by omega), Option.map_some, Option.getD_some];unfold ch4;intro e;have h3 : 0 < (ds.drop (4 * (n - 1))).length := by simp; omega
     have h4 : (ds.drop (4 * (n - 1))).length <= 4 := by simp; omega
     rw [List.take_of_length_le h4] at e;have h5 := h.top (by omega);have h6 : hval ds = hval (ds.take (4 * (n - 1))) := by
      conv => lhs; rw [<- List.take_append_drop (4 * (n - 1)) ds, hval_append, e]
      omega
     have h7 := hval_lt (h.ok.take (4 * (n - 1)));rw [<- h6, h.val, List.length_take, Nat.min_eq_left (by omega)] at h7;have h8 : HX ^ (4 * (n - 1)) <= HX ^ (ds.length - 1) := Nat.pow_le_pow_right HX_pos (by omega);omega)
    omega
 rw [List.take_of_length_le (by rw [List.length_map, List.length_range, hl]; exact Nat.le_refl _)]
end Go.Proofs.YtknkkceioockjaaGreat
namespace Go.Proofs.YtknkkceioockjaaGreat
open Go.RowKit
theorem results_mat_tmp {fn : Func} {p q : Tmp} (h : fn.results = #[.cell p 24, .tmp q]) (tmps : Array Value) (w : World) (g : Nat) (a b c : Value) (hp : tmps.getD p undef = .pointer (some ⟨g, 0, none⟩)) (hr : RowAt w g 24 [a, b, c]) :
 (results fn tmps).run Tryz.prog w = .ok (.tuple #[.agg #[a, b, c], tmps.getD q undef]) w := by
 have hp' : tmps[p]?.getD undef = .pointer (some ⟨g, 0, none⟩) := by simpa using hp
 simp [results, h, hp', asAddr, run_loadVar_row w g 24 24 #[a, b, c] (0, 0) _ hr Tryz.underlying24 rfl (by kernel_rfl)]
theorem RowAt.set3 {w : World} {b : Nat} {t : TypeId} {x y z : Value} (h : RowAt w b t [x, y, z]) (u v s : Value) : RowAt (((w.setCell ⟨b, 0, none⟩ u).setCell ⟨b, 1, none⟩ v).setCell ⟨b, 2, none⟩ s) b t [u, v, s] := by
 have := ((h.set 0 u).set 1 v).set 2 s;exact this
theorem NoW.i64 {x : Int} {cs : List Value} (h : NoW cs) : NoW (.int .i64 x :: cs) := fun c hc n => by
 rcases List.mem_cons.1 hc with rfl | hc
 · simp
 · exact h c hc n
theorem NoW.mat (a b : Int) (ao : Option Addr) (l k : Nat) : NoW [.int .i64 a, .int .i64 b, .slice ao l k] := NoW.i64 (NoW.i64 (NoW.slice NoW.nil))
theorem RowN.setMat {w : World} {b : Nat} {xs : List Int} (h : RowN w b xs) {g : Nat} {x y : Int} {ao : Option Addr} {l k : Nat} (hr : RowAt w g 24 [.int .i64 x, .int .i64 y, .slice ao l k]) (u v : Int) (ao' : Option Addr) (l' k' : Nat) : RowN (((w.setCell ⟨g, 0, none⟩ (.int .i64 u)).setCell ⟨g, 1, none⟩ (.int .i64 v)).setCell ⟨g, 2, none⟩ (.slice ao' l' k')) b xs := by
 have h1 := h.setFar hr (by decide) (NoW.mat x y ao l k) 0 (.int .i64 u);have r1 : RowAt _ g 24 [.int .i64 u, .int .i64 y, .slice ao l k] := hr.set 0 (.int .i64 u);have h2 := h1.setFar r1 (by decide) (NoW.mat u y ao l k) 1 (.int .i64 v);have r2 : RowAt _ g 24 [.int .i64 u, .int .i64 v, .slice ao l k] := r1.set 1 (.int .i64 v);exact h2.setFar r2 (by decide) (NoW.mat u v ao l k) 2 (.slice ao' l' k')
set_option maxRecDepth 100000 in
set_option maxHeartbeats 4000000 in
theorem MLeast_c (r c : Int) (ao : Option Addr) (len cap : Nat) (xs : List Int) (w : World) (hr : -9223372036854775808 <= r /\ r <= 9223372036854775807) (hc : -9223372036854775808 <= c /\ c <= 9223372036854775807) (h : LsAt w 17592186044415 ao xs) (hl : len = xs.length) (hs : soundM r c len = true) (hlen : xs.length <= 8796093022208) :
 Calls Tryz.prog 137 #[.agg #[.int .i64 r, .int .i64 c, .slice ao len cap]] w fun e w' => (∃ b, e = .returned (.tuple #[.agg #[.int .i64 r, .int .i64 c, .slice (some ⟨b, 0, none⟩) xs.length xs.length], .int .i64 0]) /\ w.heap.size <= b /\ RowN w' b xs) /\ Below w.heap.size w w' := by
 subst hl;have HL := Lib.hid h; clear h;have HS := Lib.hid (chkM_ok hs); clear hs;go_enter Tryz.func137, Tryz.ntmps137;go_wp2_with fail
 obtain ⟨r1, r2, hb⟩ := two_new w #[.int .i64 r, .int .i64 c, .slice ao xs.length cap] #[.int .i64 0, .int .i64 0, .slice none 0 0] 24 24;generalize (w.alloc (.cells #[.int .i64 r, .int .i64 c, .slice ao xs.length cap] 24)).alloc (.cells #[.int .i64 0, .int .i64 0, .slice none 0 0] 24) = w2 at *;refine (Check_c r c ao xs.length cap _ hr hc).mono ?_;rintro e w3 ⟨rfl, hb3⟩;rw [HS.out];have R1 := r1.below hb3 r1.lt;have R2 := Lib.hid (r2.below hb3 r2.lt);have L3 := Lib.hid ((HL.out.below hb).below hb3);have B3 := Lib.hid (hb.trans (hb3.mono hb.size));have hs2 : w.heap.size + 1 < w3.heap.size := R2.out.lt;have e0 : w3.cell? ⟨w.heap.size, 0, none⟩ = some (.int .i64 r) := R1.cell 0;have e1 : w3.cell? ⟨w.heap.size, 1, none⟩ = some (.int .i64 c) := R1.cell 1;have e2 : w3.cell? ⟨w.heap.size, 2, none⟩ = some (.slice ao xs.length cap) := R1.cell 2;have hne : ¬ w.heap.size + 1 = w.heap.size := by omega
 have hlt : w.heap.size < w3.heap.size := by omega
 clear r1 r2 hb hb3 R1;go_wp2
 go_region_held3 (fun w' => w'.cell? ⟨w.heap.size, 0, none⟩ = some (.int .i64 r) /\ w'.cell? ⟨w.heap.size, 1, none⟩ = some (.int .i64 c) /\ w'.cell? ⟨w.heap.size, 2, none⟩ = some (.slice ao xs.length cap))
  (first
   | exact ⟨e0, e1, e2⟩
   | exact ⟨k0, k1, k2⟩
   | exact ⟨m0, m1, m2⟩)
  (first
   | (go_at_call 139; (refine (EachLeast_c ao cap xs _ (LsAt.below (w := w3) L3.out (Below.refl _ _).drew) hlen).mono ?_); rintro e w4 ⟨⟨b, rfl, hbl, hRb⟩, hb4⟩; have k0 := (hb4.cell (p := ⟨w.heap.size, 0, none⟩) hlt).trans e0; have k1 := (hb4.cell (p := ⟨w.heap.size, 1, none⟩) hlt).trans e1; have k2 := (hb4.cell (p := ⟨w.heap.size, 2, none⟩) hlt).trans e2; have hR4 := RowAt.below (w := w3.drew) R2.out hb4 R2.out.lt; have z0 := hR4.cell 0; have z1 := hR4.cell 1; have z2 := hR4.cell 2; have y0 := hR4.free 0; have y1 := hR4.free 1; have y2 := hR4.free 2; have m0 := ((World.cell?_setCell_far _ ⟨w.heap.size + 1, 2, none⟩ ⟨w.heap.size, 0, none⟩ (.slice (some ⟨b, 0, none⟩) xs.length xs.length) hne).trans ((World.cell?_setCell_far _ ⟨w.heap.size + 1, 1, none⟩ ⟨w.heap.size, 0, none⟩ (.int .i64 c) hne).trans ((World.cell?_setCell_far w4 ⟨w.heap.size + 1, 0, none⟩ ⟨w.heap.size, 0, none⟩ (.int .i64 r) hne).trans k0))); have m1 := ((World.cell?_setCell_far _ ⟨w.heap.size + 1, 2, none⟩ ⟨w.heap.size, 1, none⟩ (.slice (some ⟨b, 0, none⟩) xs.length xs.length) hne).trans ((World.cell?_setCell_far _ ⟨w.heap.size + 1, 1, none⟩ ⟨w.heap.size, 1, none⟩ (.int .i64 c) hne).trans ((World.cell?_setCell_far w4 ⟨w.heap.size + 1, 0, none⟩ ⟨w.heap.size, 1, none⟩ (.int .i64 r) hne).trans k1))); have m2 := ((World.cell?_setCell_far _ ⟨w.heap.size + 1, 2, none⟩ ⟨w.heap.size, 2, none⟩ (.slice (some ⟨b, 0, none⟩) xs.length xs.length) hne).trans ((World.cell?_setCell_far _ ⟨w.heap.size + 1, 1, none⟩ ⟨w.heap.size, 2, none⟩ (.int .i64 c) hne).trans ((World.cell?_setCell_far w4 ⟨w.heap.size + 1, 0, none⟩ ⟨w.heap.size, 2, none⟩ (.int .i64 r) hne).trans k2)))))
 go_wp2;have hs4 := hb4.size;have hbl : w3.heap.size <= b := hbl;have hbw : Below w.heap.size w w4 := B3.out.drew.trans (hb4.mono B3.out.size);refine bodyPost_ret (results_mat_tmp (p := 2) (q := 3) (by kernel_rfl) _ _ (w.heap.size + 1) _ _ _ rfl (hR4.set3 (.int .i64 r) (.int .i64 c) (.slice (some ⟨b, 0, none⟩) xs.length xs.length))) rfl ?_;exact ⟨⟨b, rfl, by omega, hRb.setMat hR4 r c _ _ _⟩, ((hbw.setCell (p := ⟨w.heap.size + 1, 0, none⟩) (Nat.le_succ _) _).setCell (p := ⟨w.heap.size + 1, 1, none⟩) (Nat.le_succ _) _).setCell (p := ⟨w.heap.size + 1, 2, none⟩) (Nat.le_succ _) _⟩
set_option maxRecDepth 100000 in
set_option maxHeartbeats 4000000 in
theorem MLines_c (r c : Int) (ao : Option Addr) (len cap : Nat) (xs : List Int) (w : World) (hr : -9223372036854775808 <= r /\ r <= 9223372036854775807) (hc : -9223372036854775808 <= c /\ c <= 9223372036854775807) (h : LsAt w 17592186044415 ao xs) (hl : len = xs.length) (hs : soundM r c len = true) (hlen : xs.length <= 8796093022208) :
 Calls Tryz.prog 89 #[.agg #[.int .i64 r, .int .i64 c, .slice ao len cap]] w fun e w' => (∃ g b, e = .returned (.func (.func 138) #[] #[.pointer (some ⟨g, 0, none⟩)]) /\ w.heap.size <= g /\ w.heap.size <= b /\ RowAt w' g 24 [.int .i64 r, .int .i64 c, .slice (some ⟨b, 0, none⟩) xs.length xs.length] /\ RowN w' b xs) /\ Below w.heap.size w w' := by
 subst hl;have HL := Lib.hid h; clear h;have hb0 : Below w.heap.size w (w.alloc (.cells #[.int .i64 r, .int .i64 c, .slice ao xs.length cap] 24)) := (Below.refl _ _).alloc (Nat.le_refl _) _;have HB0 := Lib.hid hb0; clear hb0;go_enter Tryz.func89, Tryz.ntmps89;go_wp2_with fail
 generalize w.alloc (.cells #[.int .i64 r, .int .i64 c, .slice ao xs.length cap] 24) = w1 at *;refine (MLeast_c r c ao xs.length cap xs _ hr hc (HL.out.below HB0.out) rfl hs hlen).mono ?_;rintro e w2 ⟨⟨b, rfl, hb, hR⟩, hb2⟩;have hbw : Below w.heap.size w w2 := HB0.out.trans (hb2.mono HB0.out.size);have hs1 := HB0.out.size;have HBW := Lib.hid hbw; clear hbw;have HR := Lib.hid hR; clear hR;have hs2 := hb2.size;clear hb2;go_wp2;go_ret;have hb3 : Below w2.heap.size w2 (w2.alloc (.cells #[.int .i64 r, .int .i64 c, .slice (some ⟨b, 0, none⟩) xs.length xs.length] 24)) := (Below.refl _ _).alloc (Nat.le_refl _) _;have hr3 := RowAt.new w2 #[.int .i64 r, .int .i64 c, .slice (some ⟨b, 0, none⟩) xs.length xs.length] 24;have hsz := HBW.out.size;exact ⟨⟨w2.heap.size, b, rfl, by omega, by omega, hr3, HR.out.below hb3⟩, HBW.out.trans (hb3.mono (by omega))⟩
structure KeepS (B : Nat) (S : Nat -> Prop) (w w' : World) : Prop where
 os : w'.os = w.os
 tape : w'.tape = w.tape
 output : w'.output = w.output
 size : w.heap.size <= w'.heap.size
 block : ∀ k, k < B -> ¬ S k -> w'.heap[k]? = w.heap[k]?
theorem KeepS.trans {B : Nat} {S : Nat -> Prop} {a b c : World} (h : KeepS B S a b) (k : KeepS B S b c) : KeepS B S a c :=
 ⟨k.os.trans h.os, k.tape.trans h.tape, k.output.trans h.output, Nat.le_trans h.size k.size, fun i hi hs => (k.block i hi hs).trans (h.block i hi hs)⟩
theorem KeepS.putObj {B : Nat} {S : Nat -> Prop} (w : World) {l : Nat} (o : Obj) (hl : B <= l) : KeepS B S w (w.putObj l o) :=
 ⟨rfl, rfl, rfl, by simp, fun k hk _ => World.putObj_heap_other (by omega)⟩
theorem KeepS.of_below {B : Nat} {S : Nat -> Prop} {w w' : World} (h : Below B w w') : KeepS B S w w' := ⟨h.os, h.tape, h.output, h.size, fun k hk _ => h.block k hk⟩
def handPost {α : Type} (B : Nat) (S : Nat -> Prop) (I : List α -> World -> Prop) (xs : List α) (W : World) : Exit -> Act -> World -> Prop
 | .normal, _, W' => KeepsOthers W W' /\ KeepS B S W W' /\ I xs W'
 | _, _, _ => False
theorem range_hand {α : Type} {P : Program} {n : Nat} {g : Operand} {ps : Array Tmp} {assign body : Code} {Q : Exit -> Act -> World -> Prop} {a : Act} {w : World}
 {gf : Nat} {lb : Array Value} (hg : a.eval g = .func (.func gf) #[] lb) (eg : ∀ args w, (callFunc gf args).run P w = .ok (.enter gf args) w)
 {encs : α -> Array Value} (hps : ∀ x, (encs x).size = ps.size) (S : Nat -> Prop) (N : Nat) (Sx : List α -> Prop)
 (E : List α -> α -> World -> Prop) (I : List α -> World -> Prop)
 (hE : ∀ s x W l o o', E s x W -> w.heap.size <= l -> W.heap[l]? = some o -> o.isCells = false -> E s x (W.putObj l o'))
 (hIl : ∀ s W l o o', I s W -> w.heap.size <= l -> W.heap[l]? = some o -> o.isCells = false -> I s (W.putObj l o'))
 (hIb : ∀ s A B, I s A -> Below A.heap.size A B -> I s B) (h0 : I [] w) (a₁ : α -> Act)
 (hseq : ∀ (l : Nat) (J : List α -> World -> Prop) (W : World), Below w.heap.size w W -> (∀ s A B, J s A -> Below A.heap.size A B -> J s B) ->
  (∀ pre x W1, J pre W1 -> E pre x W1 -> pre.length < N -> YieldAt Fence.wide (n - 1 - 1) P l (encs x) W1 fun e W' => e = .returned (.bool true) /\ J (pre ++ [x]) W' /\ KeepS w.heap.size S W1 W') ->
  J [] W -> CallsIn Fence.wide (n - 1) P gf (#[.func (.yield l) #[] #[]] ++ lb) W fun e W' => (∃ v, e = .returned v) /\ ∃ xs, Sx xs /\ J xs W')
 (hassign : ∀ (l : Nat) (x : α) (W : World) (K : Act -> World -> Prop), K (a₁ x) W ->
  assign.wpIn (Fence.wide.inRound l) (n - 1 - 1) P (Exit.then K (fun _ _ _ => False)) { tmps := (ps.zip (encs x)).foldl (fun t (p, v) => t.setIfInBounds p v) a.tmps, defers := [] } W)
 (hbody : ∀ (l : Nat) (pre : List α) (x : α) (W : World), I pre W -> E pre x W -> pre.length < N -> body.wpIn (Fence.wide.inRound l) (n - 1 - 1) P (handPost w.heap.size S I (pre ++ [x]) W) (a₁ x) W)
 (hdone : ∀ (D : Nat) (xs : List α) (W : World), w.heap.size <= D -> Sx xs -> I xs W -> W.heap[D]? = some (.deferred (some [])) -> Q .normal { a with defers := { target := .collected D, args := #[] } :: a.defers } W) :
 (Code.rangeFunc g ps assign body).wpIn Fence.wide n P Q a w := by
 refine wpIn_rangeFunc ?_;intro fn hfn;obtain ⟨R, hR⟩ : ∃ R : LoopState -> Option Code -> Loop, R = fun st pe => { state := st, pending := pe, fn, tmps := a.tmps, params := ps, assign, body, defers := w.heap.size } := ⟨_, rfl⟩;have hz0 : (w.alloc (.deferred (some []))).heap.size = w.heap.size + 1 := by simp
 have hbA : Below w.heap.size w (w.alloc (.deferred (some []))) := (Below.refl _ _).alloc (Nat.le_refl _) _;have hbB : Below (w.heap.size + 1) (w.alloc (.deferred (some []))) ((w.alloc (.deferred (some []))).alloc (.loop (R .ready none))) := (Below.refl _ _).alloc (by simp) _;have hl0 : ((w.alloc (.deferred (some []))).alloc (.loop (R .ready none))).heap[w.heap.size + 1]? = some (.loop (R .ready none)) := by
  have := World.alloc_heap_new (w.alloc (.deferred (some []))) (.loop (R .ready none)); rwa [World.size_alloc] at this
 have hd0 : ((w.alloc (.deferred (some []))).alloc (.loop (R .ready none))).heap[w.heap.size]? = some (.deferred (some [])) :=
  (hbB.block _ (by omega)).trans (World.alloc_heap_new w _)
 have hen := run_enterLoop_outer (P := P) (w := w) fn a.tmps ps assign body;have hI1 : I [] ((w.alloc (.deferred (some []))).alloc (.loop (R .ready none))) := hIb _ _ _ (hIb _ _ _ h0 hbA) (by rw [hz0]; exact hbB);have hbw : Below w.heap.size w ((w.alloc (.deferred (some []))).alloc (.loop (R .ready none))) := hbA.trans (hbB.mono (by omega));rw [show ({ state := .ready, pending := none, fn, tmps := a.tmps, params := ps, assign, body, defers := w.heap.size } : Loop) = R .ready none by rw [hR]] at hen;generalize (w.alloc (.deferred (some []))).alloc (.loop (R .ready none)) = W0 at *;refine ⟨w.heap.size + 1, [{ target := .collected w.heap.size, args := #[] }], W0, { target := .fn (.func gf) lb, args := #[.func (.yield (w.heap.size + 1)) #[] #[]] }, W0, gf,
  #[.func (.yield (w.heap.size + 1)) #[] #[]] ++ lb, W0, hen, ?_, fun _ _ => trivial, by simp [invoke, go_sem, eg], fun h => absurd h (by decide), ?_⟩
 · simp only [resolve, hg];simp [go_sem]
 have hlp : ∀ st pe, (Obj.loop (R st pe)).isCells = false := fun _ _ => rfl;refine (hseq (w.heap.size + 1) (fun pre W => I pre W /\ W.heap[w.heap.size + 1]? = some (.loop (R .ready none)) /\ W.heap[w.heap.size]? = some (.deferred (some []))) W0 hbw ?_ ?_ ⟨hI1, hl0, hd0⟩).mono ?_
 · rintro s A B ⟨h1, h2, h3⟩ hb;exact ⟨hIb _ _ _ h1 hb, (hb.block _ (Array.getElem?_eq_some_iff.1 h2).1).trans h2, (hb.block _ (Array.getElem?_eq_some_iff.1 h3).1).trans h3⟩
 · rintro pre x W ⟨hi, hl, hd⟩ hx hlen;have hlt : w.heap.size + 1 < W.heap.size := (Array.getElem?_eq_some_iff.1 hl).1;have hy := run_yield (P := P) (args := encs x) hl (by rw [hR]; exact hps x);have hbg := run_beginRound (P := P) hl (by rw [hR]);have hle : w.heap.size <= w.heap.size + 1 := by omega
   rw [hR] at hy hbg;refine ⟨fn, _, assign, body, hy, roundIn_of_wpIn hfn (hassign _ x W _ ⟨_, hbg, ?_⟩)⟩;have hl2 : (W.putObj (w.heap.size + 1) (.loop (R .busy none))).heap[w.heap.size + 1]? = some (.loop (R .busy none)) := World.putObj_heap_same hlt;have hd2 : (W.putObj (w.heap.size + 1) (.loop (R .busy none))).heap[w.heap.size]? = some (.deferred (some [])) := (World.putObj_heap_other (by omega)).trans hd;have hk2 : KeepS w.heap.size S W (W.putObj (w.heap.size + 1) (.loop (R .busy none))) := KeepS.putObj W _ hle;have hi2 := hIl pre W (w.heap.size + 1) _ (.loop (R .busy none)) hi hle hl rfl;have hx2 := hE pre x W (w.heap.size + 1) _ (.loop (R .busy none)) hx hle hl rfl;rw [show ({ state := .busy, pending := none, fn, tmps := a.tmps, params := ps, assign, body, defers := w.heap.size } : Loop) = R .busy none by rw [hR]];generalize W.putObj (w.heap.size + 1) (.loop (R .busy none)) = W2 at *;refine wpIn_mono (hbody (w.heap.size + 1) pre x W2 hi2 hx2 hlen) ?_;intro e a3 W3 hp;cases e with
   | normal =>
    obtain ⟨hk3, hkp3, hi3⟩ := hp;have hl3 := hk3.same _ _ hl2 rfl;have hd3 := hk3.same _ _ hd2 rfl;have hend := run_endRound (P := P) none hl3;rw [hR] at hend;refine ⟨_, _, hend, rfl, ⟨hIl _ _ _ _ _ hi3 hle hl3 rfl, ?_, ?_⟩, ?_⟩
    · rw [World.putObj_heap_same (Array.getElem?_eq_some_iff.1 hl3).1, hR]; rfl
    · exact (World.putObj_heap_other (by omega)).trans hd3
    · exact hk2.trans (hkp3.trans (KeepS.putObj _ _ hle))
   | ret => exact hp.elim
   | exit id => exact hp.elim
   | goto t => exact hp.elim
   | panic ch => exact hp.elim
   | outgrown => exact hp.elim
 · rintro e W2 ⟨⟨v, rfl⟩, xs, hS, hi, hl, hd⟩;have hle : w.heap.size <= w.heap.size + 1 := by omega
   have hend := run_endLoop (P := P) hl (by rw [hR]; simp);rw [hR] at hend;exact ⟨none, _, hend, hdone _ xs _ (Nat.le_refl _) hS (hIl _ _ _ _ _ hi hle hl rfl) ((World.putObj_heap_other (by omega)).trans hd)⟩
attribute [local go_sem] Oper.semAt_some
abbrev NR := Nat × Hd
def NR.enc (x : NR) : Array Value := #[.int .i64 (x.1 : Int), .slice (some ⟨x.2.blk, 0, none⟩) x.2.xs.length x.2.cap]
def rowOf (xs : List Int) (c k : Nat) : List Int := (xs.drop (k * c)).take c
theorem rowOf_length {xs : List Int} {r c k : Nat} (hl : xs.length = r * c) (hk : k < r) : (rowOf xs c k).length = c := by
 have h1 : (k + 1) * c <= r * c := Nat.mul_le_mul_right _ (by omega);have h2 : (k + 1) * c = k * c + c := Nat.succ_mul k c;simp [rowOf, hl]; omega
def HandE (B : Nat) (pre : List NR) (x : NR) (W : World) : Prop := RowN W x.2.blk x.2.xs /\ B <= x.2.blk /\ ∀ y ∈ pre, y.2.blk ≠ x.2.blk
def HandS (r c : Nat) (xs : List Int) (zs : List NR) : Prop := zs.length = r /\ ∀ k (h : k < zs.length), zs[k] = (k, ⟨(zs[k]).2.blk, c, rowOf xs c k⟩)
theorem LsAt.piece {w : World} {b : Nat} {xs : List Int} (h : RowN w b xs) (L : Nat) (hL : ∀ x ∈ xs, wlen x.natAbs <= L) (k c : Nat) : LsAt w L (some ⟨b, k * c * 2, none⟩) (rowOf xs c k) := by
 intro hp;refine ⟨b, k * c * 2, rfl, h.lt, fun i hi => ?_⟩;have h0 : i < c := by simp [rowOf] at hi; omega
 have h1 : k * c + i < xs.length := by simp [rowOf] at hi; omega
 obtain ⟨p, h2, h3, h4⟩ := h.get h1;have e : (k * c + i) * 2 = k * c * 2 + i * 2 := by omega
 rw [e] at h2 h3;refine ⟨p, h2, h3, ?_⟩;have e2 : (rowOf xs c k)[i] = xs[k * c + i] := by simp [rowOf]
 rw [e2];exact h4.int (hL _ (List.getElem_mem _))
set_option maxRecDepth 100000 in
set_option maxHeartbeats 4000000 in
theorem Lines1_hand (n g b r c : Nat) (xs : List Int) (w : World) (S : Nat -> Prop) (hS : Wordless S w) (hg : RowAt w g 24 [.int .i64 (r : Int), .int .i64 (c : Int), .slice (some ⟨b, 0, none⟩) xs.length xs.length]) (hgS : ¬ S g) (hb : RowN w b xs) (hbS : ¬ S b) (hl : xs.length = r * c) (hr : r <= 100000) (hc : c <= 100000)
 (hL : ∀ x ∈ xs, wlen x.natAbs <= 17592186044415)
 (l : Nat) (J : List NR -> World -> Prop) (W : World) (hW : Below w.heap.size w W) (hJ : ∀ s A B, J s A -> Below A.heap.size A B -> J s B)
 (hY : ∀ pre x W1, J pre W1 -> HandE w.heap.size pre x W1 -> pre.length < r -> YieldAt Fence.wide (n - 1) Tryz.prog l (NR.enc x) W1 fun e W' => e = .returned (.bool true) /\ J (pre ++ [x]) W' /\ KeepS w.heap.size S W1 W')
 (h0 : J [] W) (hn : 1 <= n) :
 CallsIn Fence.wide n Tryz.prog 138 (#[.func (.yield l) #[] #[]] ++ #[.pointer (some ⟨g, 0, none⟩)]) W fun e W' => (∃ v, e = .returned v) /\ ∃ zs, HandS r c xs zs /\ J zs W' := by
 have HG := Lib.hid hg; clear hg;have HB := Lib.hid hb; clear hb;have HL := Lib.hid hl; clear hl;have HW := Lib.hid hW; clear hW;have HY := Lib.hid hY; clear hY;have HWL := Lib.hid hS; clear hS;have g0 := (HG.out.below HW.out HG.out.lt).cell 0;refine callsIn_of_wp Tryz.func138 rfl trivial ?_ rfl;simp only [Tryz.ntmps138, List.size_toArray, List.length_cons, List.length_nil, Nat.reduceAdd, Nat.reduceSub, Array.replicate_succ, Array.replicate_zero, List.push_toArray, List.append_toArray, List.nil_append, List.cons_append];simp only [List.getElem?_cons_zero] at g0
 gi_wp2
 clear g0
 gi_loopw [6] (fun i wr => ∃ (k : Nat) (zs : List NR), k <= r /\ i = .int .i64 (k : Int) /\ Hid (zs.length = k /\ (∀ j (h : j < zs.length), zs[j] = (j, ⟨(zs[j]).2.blk, c, rowOf xs c j⟩)) /\ (∀ y ∈ zs, y.2.blk < wr.heap.size) /\ J zs wr /\ Chg S w wr))
  (fun i _ => r - (intOf i).toNat)
 case atStart => exact ⟨0, [], Nat.zero_le _, rfl, Lib.hid ⟨rfl, fun j h => absurd h (by simp), fun y h => absurd h (by simp), h0, Chg.of_below HW.out⟩⟩
 case round =>
  obtain ⟨k, zs, hk, rfl, HI⟩ := hrel;by_cases hlt : k < r
  · have hlt' : (k : Int) < (r : Int) := by omega
    have g0 := (HI.out.2.2.2.2.row HG.out hgS).cell 0;have g1 := (HI.out.2.2.2.2.row HG.out hgS).cell 1;have g2 := (HI.out.2.2.2.2.row HG.out hgS).cell 2;simp only [List.getElem?_cons_zero, List.getElem?_cons_succ] at g0 g1 g2;obtain ⟨q, hq⟩ : ∃ q, k * c = q := ⟨_, rfl⟩;have hq2 : (k + 1) * c = q + c := by rw [Nat.succ_mul, hq]
    have hq3 : q + c <= xs.length := by rw [<- hq2, HL.out]; exact Nat.mul_le_mul_right _ hlt
    have hxl : xs.length <= 10000000000 := by rw [HL.out]; exact Nat.mul_le_mul hr hc
    have hw1 : wrap64 ((k : Int) * (c : Int)) = (q : Int) := by
     rw [<- Int.natCast_mul, hq]; unfold wrap64; omega
    have hw2 : wrap64 (((k : Int) + 1) * (c : Int)) = (q : Int) + (c : Int) := by
     have : ((k : Int) + 1) * (c : Int) = ((q + c : Nat) : Int) := by rw [<- hq2]; push_cast; rfl
     rw [this]; push_cast; unfold wrap64; omega
    have hpc : LsAt wr 17592186044415 (some ⟨b, q * 2, none⟩) (rowOf xs c k) := by
     rw [<- hq]; exact LsAt.piece (HI.out.2.2.2.2.rowN HWL.out HB.out hbS) _ hL k c
    have hrl : (rowOf xs c k).length = c := rowOf_length HL.out hlt;have HP := Lib.hid hpc; clear hpc;have HQ := Lib.hid hq; clear hq;have HQ2 := Lib.hid hq2; clear hq2;have hle1 : (q : Int) + (c : Int) <= (xs.length : Int) := by omega
    have hle2 : (q : Int) <= (q : Int) + (c : Int) := by omega
    have hcap : xs.length - q ≠ 0 ∨ c = 0 := by omega
    gi_wp2_with fail
    · refine ⟨trivial, ?_⟩;have hE := EachLeast_c (some ⟨b, 0, none⟩) 0 (rowOf xs c k) wr (fun h => by rw [hrl] at h; omega) (by rw [hrl]; omega);rw [hrl] at hE;refine (callsIn_wide.2 hE).mono ?_;rintro e w3 ⟨⟨bn, rfl, hbn, hrow⟩, hb3⟩;have hs3 := hb3.size;have hJ3 : J zs w3 := hJ _ _ _ HI.out.2.2.2.1 hb3;have hlt3 : bn < w3.heap.size := hrow.lt;obtain ⟨fn, tmps, assign, body, hy, hR⟩ := HY.out zs (k, ⟨bn, c, rowOf xs c k⟩) w3 hJ3 ⟨hrow, by have := HI.out.2.2.2.2.size; show w.heap.size <= bn; omega, fun y hy => by have := HI.out.2.2.1 y hy; show y.2.blk ≠ bn; omega⟩ (by rw [HI.out.1]; exact hlt);simp only [NR.enc] at hy;rw [hrl] at hy;have HI3 : Hid (Chg S w w3) := Lib.hid (HI.out.2.2.2.2.below hb3);have HZ := Lib.hid (And.intro HI.out.1 (And.intro HI.out.2.1 HI.out.2.2.1));have HB3 := Lib.hid hb3;clear hb3 HI HP hrow hJ3 g0 g1 g2
      gi_wp2
      refine hR.mono ?_;rintro e W' ⟨rfl, hJ', hk'⟩;have HJ' := Lib.hid hJ';have HK' := Lib.hid hk';clear hJ' hk' hy hR
      gi_wp2
      go_roundw
      case rel =>
       refine ⟨k + 1, zs ++ [(k, ⟨bn, c, rowOf xs c k⟩)], by omega, by go_num, Lib.hid ⟨by simp [HZ.out.1], fun j hj => ?_, fun y hy => ?_, HJ'.out, ?_⟩⟩
       · by_cases hjk : j < zs.length
         · rw [List.getElem_append_left hjk];exact HZ.out.2.1 j hjk
         · have hjl : j = zs.length := by simp at hj; omega
           subst hjl;simp [HZ.out.1]
       · have hsz := HK'.out.size;rcases List.mem_append.1 hy with hy | hy
         · have := HZ.out.2.2 y hy; have := HB3.out.size; omega
         · simp only [List.mem_singleton] at hy; subst hy; show bn < _; omega
       · exact ⟨HK'.out.os.trans HI3.out.os, HK'.out.tape.trans HI3.out.tape, HK'.out.output.trans HI3.out.output, Nat.le_trans HI3.out.size HK'.out.size, fun i hi hs => (HK'.out.block i hi hs).trans (HI3.out.block i hi hs)⟩
      case measure => simp [intOf]; omega
    · refine ⟨trivial, ?_⟩;have hE := EachLeast_c (some ⟨b, q * 2, none⟩) (xs.length - q) (rowOf xs c k) wr HP.out (by rw [hrl]; omega);rw [hrl] at hE;refine (callsIn_wide.2 hE).mono ?_;rintro e w3 ⟨⟨bn, rfl, hbn, hrow⟩, hb3⟩;have hs3 := hb3.size;have hJ3 : J zs w3 := hJ _ _ _ HI.out.2.2.2.1 hb3;have hlt3 : bn < w3.heap.size := hrow.lt;obtain ⟨fn, tmps, assign, body, hy, hR⟩ := HY.out zs (k, ⟨bn, c, rowOf xs c k⟩) w3 hJ3 ⟨hrow, by have := HI.out.2.2.2.2.size; show w.heap.size <= bn; omega, fun y hy => by have := HI.out.2.2.1 y hy; show y.2.blk ≠ bn; omega⟩ (by rw [HI.out.1]; exact hlt);simp only [NR.enc] at hy;rw [hrl] at hy;have HI3 : Hid (Chg S w w3) := Lib.hid (HI.out.2.2.2.2.below hb3);have HZ := Lib.hid (And.intro HI.out.1 (And.intro HI.out.2.1 HI.out.2.2.1));have HB3 := Lib.hid hb3;clear hb3 HI HP hrow hJ3 g0 g1 g2
      gi_wp2
      refine hR.mono ?_;rintro e W' ⟨rfl, hJ', hk'⟩;have HJ' := Lib.hid hJ';have HK' := Lib.hid hk';clear hJ' hk' hy hR
      gi_wp2
      go_roundw
      case rel =>
       refine ⟨k + 1, zs ++ [(k, ⟨bn, c, rowOf xs c k⟩)], by omega, by go_num, Lib.hid ⟨by simp [HZ.out.1], fun j hj => ?_, fun y hy => ?_, HJ'.out, ?_⟩⟩
       · by_cases hjk : j < zs.length
         · rw [List.getElem_append_left hjk];exact HZ.out.2.1 j hjk
         · have hjl : j = zs.length := by simp at hj; omega
           subst hjl;simp [HZ.out.1]
       · have hsz := HK'.out.size;rcases List.mem_append.1 hy with hy | hy
         · have := HZ.out.2.2 y hy; have := HB3.out.size; omega
         · simp only [List.mem_singleton] at hy; subst hy; show bn < _; omega
       · exact ⟨HK'.out.os.trans HI3.out.os, HK'.out.tape.trans HI3.out.tape, HK'.out.output.trans HI3.out.output, Nat.le_trans HI3.out.size HK'.out.size, fun i hi hs => (HK'.out.block i hi hs).trans (HI3.out.block i hi hs)⟩
      case measure => simp [intOf]; omega
  · obtain rfl : k = r := by omega
    gi_wp2
    go_end0
    exact ⟨⟨_, rfl⟩, zs, ⟨HI.out.1, HI.out.2.1⟩, HI.out.2.2.2.1⟩
attribute [local go_sem] Oper.semAt_some
theorem cell_putObj {w : World} {l : Nat} {o o' : Obj} (hl : w.heap[l]? = some o) (hn : o.isCells = false) {p : Addr} {v : Value} (h : w.cell? p = some v) : (w.putObj l o').cell? p = some v := by
 by_cases e : p.block = l
 · exfalso;unfold World.cell? at h;rw [e, hl] at h;cases o <;> simp_all [Obj.isCells]
 · exact (World.cell?_of_block (World.putObj_heap_other e)).trans h
theorem row_putObj {w : World} {l : Nat} {o o' : Obj} (hl : w.heap[l]? = some o) (hn : o.isCells = false) {b : Nat} {t : TypeId} {cs : List Value} (h : RowAt w b t cs) : RowAt (w.putObj l o') b t cs := by
 by_cases e : b = l
 · exfalso;unfold RowAt at h;rw [e, hl] at h;injection h with h
   subst h;simp [Obj.isCells] at hn
 · unfold RowAt at *;rw [World.putObj_heap_other e]; exact h
theorem size_putObj (w : World) (l : Nat) (o : Obj) : (w.putObj l o).heap.size = w.heap.size := by simp
theorem wat_putObj {w : World} {l : Nat} {o o' : Obj} (hl : w.heap[l]? = some o) (hn : o.isCells = false) {ao : Option Addr} {ws : List Nat} (h : WAt w ao ws) : WAt (w.putObj l o') ao ws := by
 refine ⟨h.1, fun hp => ?_⟩;obtain ⟨b, q, e, hb, hc⟩ := h.2 hp;exact ⟨b, q, e, by rw [size_putObj]; exact hb, fun i hi => cell_putObj hl hn (hc i hi)⟩
theorem int_putObj {w : World} {l : Nat} {o o' : Obj} (hl : w.heap[l]? = some o) (hn : o.isCells = false) {L : Nat} {v : Value} {x : Int} (h : IntAt w L v x) : IntAt (w.putObj l o') L v x := by
 obtain ⟨n, ao, len, cap, ws, e, hW, r⟩ := h;exact ⟨n, ao, len, cap, ws, e, wat_putObj hl hn hW, r⟩
theorem rowN_putObj {w : World} {l : Nat} {o o' : Obj} (hl : w.heap[l]? = some o) (hn : o.isCells = false) {b : Nat} {xs : List Int} (h : RowN w b xs) : RowN (w.putObj l o') b xs := by
 obtain ⟨ps, hr, hl', hN⟩ := h;exact ⟨ps, row_putObj hl hn hr, hl', fun i h1 h2 => ⟨int_putObj hl hn (hN i h1 h2).1, (hN i h1 h2).2⟩⟩
theorem info_row : (Tryz.prog.info? 22).map (fun i => (i.zero, i.size, i.bytes)) = some (some (.slice none 0 0), 1, 24) := by kernel_rfl
def hdrsTo (r : Nat) (zs : List NR) : List Value := zs.map (fun z => z.2.hdr) ++ List.replicate (r - zs.length) (.slice none 0 0)
structure LinesI (w : World) (B g o r : Nat) (zs : List NR) (W : World) : Prop where
 box : RowAt W g 82 [.slice (some ⟨o, 0, none⟩) zs.length r]
 row : RowAt W o 22 (hdrsTo r zs)
 nums : ∀ z ∈ zs, RowN W z.2.blk z.2.xs /\ B <= z.2.blk
 nd : (zs.map (fun z => z.2.blk)).Nodup
 chg : Chg (fun k => k = g ∨ k = o) w W
theorem wpListIn_app {F : Fence} {n : Nat} {P : Program} {w : World} {ops : Array Oper} {rest : List Oper} {o : Oper} {a : Act} {Q : Exit -> Act -> World -> Prop}
 (hg : o.guard = none) (s x : Operand) (t : TypeId) (hop : o.op = Op.call { callee := Callee.builtin Builtin.append, args := #[s, x], argTypes := #[t, t] })
 (e : TypeId) (z : Value) (size bytes : Nat) (h1 : P.underlying t = some (.slice e)) (h2 : (P.info? e).map (fun i => (i.zero, i.size, i.bytes)) = some (some z, size, bytes))
 (b off sLen sCap : Nat) (ad : Addr) (m c : Nat) (news : List Value) (hs : a.eval s = .slice (some ⟨b, off, none⟩) sLen sCap) (hx : a.eval x = .slice (some ad) m c)
 (hl : news.length = m * size) (hnews : ∀ j u, news[j]? = some u -> w.cell? (ad.add j) = some u) (h1c : ∀ u ∈ news, u.oneCell' = true) (hroom : sLen + m <= sCap)
 (hc : ∀ j, j < news.length -> (w.cell? ⟨b, off + sLen * size + j, none⟩).isSome = true) (hf : ∀ j, j < news.length -> w.frozen? ⟨b, off + sLen * size + j, none⟩ = false)
 (hK : wpListIn F n P ops Q rest (a.put o.dst (.slice (some ⟨b, off, none⟩) (sLen + m) sCap)) (w.setCells b (off + sLen * size) news)) :
 wpListIn F n P ops Q (o :: rest) a w := by
 refine wpListIn_plain hg fun K hK' => ?_;obtain ⟨i, hi, hz, hsz, hb⟩ := info_parts h2;subst hsz;have hrun := run_append_room_cells (P := P) (w := w) t o.type e i h1 hi b off sLen sCap ad m c news hl hnews h1c hroom hc hf;unfold Oper.wpIn;refine ⟨?_, ?_⟩
 · simp [Oper.about, hop, resolve, Target.leads, Sem.run_pure]
 · rw [Oper.semAt_plain F _ _ (by rw [hop]; intro c hc'; cases hc')];simp [execOp, hop, resolve, invoke, builtin, hs, hx, hrun, Result.andThen];exact hK' _ _ hK
theorem wpList_app {P : Program} {w : World} {ops : Array Oper} {rest : List Oper} {o : Oper} {a : Act} {Q : Exit -> Act -> World -> Prop}
 (hg : o.guard = none) (s x : Operand) (t : TypeId) (hop : o.op = Op.call { callee := Callee.builtin Builtin.append, args := #[s, x], argTypes := #[t, t] })
 (e : TypeId) (z : Value) (size bytes : Nat) (h1 : P.underlying t = some (.slice e)) (h2 : (P.info? e).map (fun i => (i.zero, i.size, i.bytes)) = some (some z, size, bytes))
 (b off sLen sCap : Nat) (ad : Addr) (m c : Nat) (news : List Value) (hs : a.eval s = .slice (some ⟨b, off, none⟩) sLen sCap) (hx : a.eval x = .slice (some ad) m c)
 (hl : news.length = m * size) (hnews : ∀ j u, news[j]? = some u -> w.cell? (ad.add j) = some u) (h1c : ∀ u ∈ news, u.oneCell' = true) (hroom : sLen + m <= sCap)
 (hc : ∀ j, j < news.length -> (w.cell? ⟨b, off + sLen * size + j, none⟩).isSome = true) (hf : ∀ j, j < news.length -> w.frozen? ⟨b, off + sLen * size + j, none⟩ = false)
 (hK : wpList P ops Q rest (a.put o.dst (.slice (some ⟨b, off, none⟩) (sLen + m) sCap)) (w.setCells b (off + sLen * size) news)) :
 wpList P ops Q (o :: rest) a w := by
 refine wpList_plain hg fun K hK' => ?_;obtain ⟨i, hi, hz, hsz, hb⟩ := info_parts h2;subst hsz;have hrun := run_append_room_cells (P := P) (w := w) t o.type e i h1 hi b off sLen sCap ad m c news hl hnews h1c hroom hc hf;simp [Oper.wp, Oper.about, hop, resolve, Target.leads, Sem.run_pure, execOp, invoke, builtin, hs, hx, hrun, Result.andThen];exact hK' _ _ hK
theorem made_hdrs (n : Nat) : (madeCells (Value.slice none 0 0).cells (n * 1)).toList = List.replicate n (.slice none 0 0) := by
 rw [madeCells_one _ rfl]
theorem mk_rows {w : World} {ops : Array Oper} {rest : List Oper} {o : Oper} {a : Act} {Q : Exit -> Act -> World -> Prop}
 (hg : o.guard = none) (l c : Operand) (hop : o.op = Op.makeSlice 82 l c)
 {kl kc : IntKind} {L C : Int} (n m : Nat) (hl : a.eval l = .int kl L) (hc : a.eval c = .int kc C) (hL : L = (n : Int)) (hC : C = (m : Int)) (hnm : n <= m) (b2 : m <= 1000000)
 (hK : ∀ b w', Made w w' b 22 (List.replicate m (.slice none 0 0)) -> wpList Tryz.prog ops Q rest (a.put o.dst (.slice (some ⟨b, 0, none⟩) n m)) w') :
 wpList Tryz.prog ops Q (o :: rest) a w :=
 wpList_make_row hg l c 82 hop 22 (.slice none 0 0) 1 24 Tryz.underlying82 info_row n m hl hc hL hC hnm (by omega) (by unfold maxLen; omega)
  (fun b w' h => hK b w' (by rw [made_hdrs] at h; exact h))
set_option maxRecDepth 100000 in
set_option maxHeartbeats 4000000 in
theorem lines_e (r c : Nat) (ao : Option Addr) (len cap : Nat) (xs : List Int) (w : World) (hr : r <= 64) (hc : c <= 64) (h : LsAt w 17592186044415 ao xs) (hL : ∀ x ∈ xs, wlen x.natAbs <= 17592186044415) (hl : len = xs.length) (hs : xs.length = r * c) :
 CallsIn Fence.wide 6 Tryz.prog 43 #[.agg #[.int .i64 (r : Int), .int .i64 (c : Int), .slice ao len cap]] w fun e w' => (∃ o R, e = .returned (.slice (some ⟨o, 0, none⟩) R.length r) /\ MatN w' o R /\ R.length = r /\ (∀ k (h : k < R.length), R[k].xs = rowOf xs c k) /\ w.heap.size <= o /\ (∀ x ∈ R, w.heap.size <= x.blk) /\ RowAt w' o 22 (R.map Hd.hdr)) /\ Below w.heap.size w w' := by
 subst hl;have HX := Lib.hid h; clear h;have HS := Lib.hid hs; clear hs;refine callsIn_of_wp_marks Tryz.func43 rfl trivial ?_ rfl;simp only [Tryz.ntmps43, List.size_toArray, List.length_cons, List.length_nil, Nat.reduceAdd, Nat.reduceSub, Array.replicate_succ, Array.replicate_zero, List.push_toArray, List.append_toArray, List.nil_append, List.cons_append];refine wpIn_wide.2 ?_;have hb0 : Below w.heap.size w (w.alloc (.cells #[.int .i64 (r : Int), .int .i64 (c : Int), .slice ao xs.length cap] 24)) := (Below.refl _ _).alloc (Nat.le_refl _) _;have hr0 := RowAt.new w #[.int .i64 (r : Int), .int .i64 (c : Int), .slice ao xs.length cap] 24;have HB0 := Lib.hid hb0; clear hb0;have HR0 := Lib.hid hr0; clear hr0;go_wp2_with (at_make; refine mk_rows rfl _ _ rfl 0 r rfl rfl rfl rfl (Nat.zero_le _) (by omega) ?_; intro o w1 hm1; have hr1 := (HR0.out.below hm1.below HR0.out.lt).alloc (.cells #[.slice (some ⟨o, 0, none⟩) 0 r] 82); have c0 := hr1.cell 0; have c1 := hr1.cell 1; have c2 := hr1.cell 2; have hm := Lib.hid hm1; clear hm1 hr1; simp only [List.getElem?_cons_zero, List.getElem?_cons_succ] at c0 c1 c2)
 have hr2 := hm.out.row.alloc (.cells #[.slice (some ⟨o, 0, none⟩) 0 r] 82);have hr3 := RowAt.new w1 #[.slice (some ⟨o, 0, none⟩) 0 r] 82;have hb2 : Below w.heap.size w (w1.alloc (.cells #[.slice (some ⟨o, 0, none⟩) 0 r] 82)) := (HB0.out.trans (hm.out.below.mono HB0.out.size)).alloc (by have := HB0.out.size; have := hm.out.below.size; omega) _;have hg1 : w.heap.size < w1.heap.size := Nat.lt_of_lt_of_le HR0.out.lt hm.out.below.size;have ho1 : w.heap.size < o /\ o < w1.heap.size := by
  have h1 := hm.out.at_;have h2 := HR0.out.lt;have h3 := hm.out.size;omega
 generalize hw2 : w1.alloc (.cells #[.slice (some ⟨o, 0, none⟩) 0 r] 82) = w2 at *;have hs2 : w2.heap.size = w1.heap.size + 1 := by rw [<- hw2]; simp
 have HR2 := Lib.hid hr2; clear hr2;have HR3 := Lib.hid hr3; clear hr3;have HB2 := Lib.hid hb2; clear hb2;clear hm hw2 HB0 HR0 c0 c1 c2;have hsnd : soundM (r : Int) (c : Int) xs.length = true := by
  unfold soundM sideOk;rw [HS.out];simp; omega
 refine (MLines_c (r : Int) (c : Int) ao xs.length cap xs w2 (by omega) (by omega) (HX.out.below HB2.out) rfl hsnd (by rw [HS.out]; have := Nat.mul_le_mul hr hc; omega)).mono ?_;rintro e w3 ⟨⟨g, b, rfl, hg, hb, hRg, hRb⟩, hb3⟩;have hs3 := hb3.size;have HG := Lib.hid hRg; clear hRg;have HRB := Lib.hid hRb; clear hRb;have HR2' := Lib.hid (HR2.out.below hb3 HR2.out.lt);have HR3' := Lib.hid (HR3.out.below hb3 HR3.out.lt);have HB3 : Hid (Below w.heap.size w w3) := Lib.hid (HB2.out.trans (hb3.mono HB2.out.size));clear hb3 HR2 HR3 HB2;go_wp2_with fail
 refine (wpIn_wide (n := 6)).1 ?_;have hne : w1.heap.size ≠ o := by omega
 have hI0 : LinesI w3 w3.heap.size w1.heap.size o r [] w3 := ⟨HR3'.out, by simpa [hdrsTo] using HR2'.out, fun z hz => by simp at hz, by simp, Chg.refl _ _⟩;have HI0 := Lib.hid hI0; clear hI0;refine range_hand (S := fun k => k = w1.heap.size ∨ k = o) (N := r) (Sx := HandS r c xs) (E := HandE w3.heap.size) (I := LinesI w3 w3.heap.size w1.heap.size o r) (gf := 138) (lb := #[.pointer (some ⟨g, 0, none⟩)]) (encs := NR.enc) rfl (enters_of Tryz.func138 (by kernel_rfl) rfl) (fun _ => rfl) ?hE ?hIl ?hIb HI0.out
  (fun x => { tmps := #[.agg #[.int .i64 (r : Int), .int .i64 (c : Int), .slice ao xs.length cap], .pointer (some ⟨w.heap.size, 0, none⟩), .slice none 0 0, .pointer (some ⟨w1.heap.size, 0, none⟩), undef, .slice (some ⟨x.2.blk, 0, none⟩) x.2.xs.length x.2.cap, .pointer (some ⟨w.heap.size, 0, none⟩), .int .i64 (r : Int), .slice (some ⟨o, 0, none⟩) 0 r, .agg #[.int .i64 (r : Int), .int .i64 (c : Int), .slice ao xs.length cap], .func (.func 138) #[] #[.pointer (some ⟨g, 0, none⟩)], .int .i64 (x.1 : Int), .slice (some ⟨x.2.blk, 0, none⟩) x.2.xs.length x.2.cap, undef, undef, undef, undef, undef], defers := [] })
  ?hseq ?assign ?body ?done
 case hE =>
  intro s x W l o1 o2 h hl ho hn;exact ⟨rowN_putObj ho hn h.1, h.2⟩
 case hIl =>
  intro s W l o1 o2 h hl ho hn;exact ⟨row_putObj ho hn h.box, row_putObj ho hn h.row, fun z hz => ⟨rowN_putObj ho hn (h.nums z hz).1, (h.nums z hz).2⟩, h.nd, ⟨h.chg.os, h.chg.tape, h.chg.output, by have := h.chg.size; simpa using this, fun k hk hs => (World.putObj_heap_other (by omega)).trans (h.chg.block k hk hs)⟩⟩
 case hIb =>
  intro s A B h hb;exact ⟨h.box.below hb h.box.lt, h.row.below hb h.row.lt, fun z hz => ⟨(h.nums z hz).1.below hb, (h.nums z hz).2⟩, h.nd, h.chg.below hb⟩
 case hseq =>
  intro l J W hW hJ hY hJ0;refine (Lines1_hand 5 g b r c xs w3 (fun k => k = w1.heap.size ∨ k = o) ?_ HG.out (by omega) HRB.out (by omega) HS.out (by omega) (by omega) hL l J W hW hJ hY hJ0 (by omega));rintro q (rfl | rfl)
  · exact ⟨_, _, HR3'.out, NoW.slice NoW.nil⟩
  · exact ⟨_, _, HR2'.out, fun v hv n => by simp at hv; simp [hv.2]⟩
 case assign =>
  intro l x W K hK;simp only [NR.enc]
  gi_wp2
  exact hK
 case body =>
  rintro l pre x W hI hE hlen;have hoW := hI.row.lt;have hbW := hI.box.lt;have hlenR : (hdrsTo r pre).length = r := by simp [hdrsTo]; omega
  have hA : ∀ X : Obj, RowAt (W.alloc X) o 22 (hdrsTo r pre) := fun X => hI.row.alloc X;have hAb : ∀ X : Obj, RowAt (W.alloc X) w1.heap.size 82 [.slice (some ⟨o, 0, none⟩) pre.length r] := fun X => hI.box.alloc X;have c0 : W.cell? ⟨w1.heap.size, 0, none⟩ = some (.slice (some ⟨o, 0, none⟩) pre.length r) := hI.box.cell 0;have f0 : W.frozen? ⟨w1.heap.size, 0, none⟩ = false := hI.box.free 0;have HI := Lib.hid hI; clear hI;have HE := Lib.hid hE; clear hE
  gi_wp2_with (gi_at_builtin; refine wpListIn_app rfl _ _ 82 rfl 22 (.slice none 0 0) 1 24 Tryz.underlying82 info_row o 0 pre.length r ⟨W.heap.size, 0, none⟩ 1 1 [x.2.hdr] rfl rfl rfl (cell_one_new _ _ _) (by simp [Value.oneCell', Hd.hdr]) (by omega) (fun j hj => by simp at hj; subst hj; rw [(hA _).cell]; simp [hlenR, hlen]) (fun j hj => by simp at hj; subst hj; exact (hA _).free _) ?_; simp only [Nat.zero_add, Nat.mul_one, World.setCells]; have hrW := (hA (.cells #[x.2.hdr] 22)).set pre.length x.2.hdr; have hrB := (hAb (.cells #[x.2.hdr] 22)).other (p := ⟨o, pre.length, none⟩) hne x.2.hdr; skip)
  have hI := HI.out;have hE := HE.out;have hsw := hI.chg.size;have hrW' := hI.row.set pre.length x.2.hdr;have hrB' := hI.box.other (p := ⟨o, pre.length, none⟩) hne x.2.hdr;have hNo : NoW (hdrsTo r pre) := fun v hv n => by
   simp only [hdrsTo, List.mem_append, List.mem_map, List.mem_replicate] at hv;rcases hv with ⟨z, _, rfl⟩ | ⟨_, rfl⟩ <;> simp [Hd.hdr]
  obtain ⟨Wf, hWf⟩ : ∃ Wf, (W.setCell ⟨o, pre.length, none⟩ x.2.hdr).setCell ⟨w1.heap.size, 0, none⟩ (.slice (some ⟨o, 0, none⟩) (pre.length + 1) r) = Wf := ⟨_, rfl⟩;rw [hWf];have hsf : Wf.heap.size = W.heap.size := by rw [<- hWf]; simp
  have hbl : Below Wf.heap.size Wf (Wf.alloc (.cells #[.slice (some ⟨x.2.blk, 0, none⟩) x.2.xs.length x.2.cap] 22)) := (Below.refl _ _).alloc (Nat.le_refl _) _;have hnum : ∀ y : NR, RowN W y.2.blk y.2.xs -> RowN Wf y.2.blk y.2.xs := by
   intro y hy;rw [<- hWf];exact (hy.setFar hI.row (by decide) hNo pre.length x.2.hdr).setFar hrB' (by decide) (NoW.slice NoW.nil) 0 _
  refine ⟨?_, ?_, ?_⟩
  · rw [<- hWf]; exact ((KeepsOthers.setCell _ _ _).trans (KeepsOthers.setCell _ _ _)).trans (KeepsOthers.alloc _ _)
  · refine KeepS.trans (b := Wf) ?_ (KeepS.of_below (hbl.mono (by omega)));rw [<- hWf];refine ⟨rfl, rfl, rfl, by simp, fun k hk hs => ?_⟩;exact (Below.heap_setCell _ _ _ _ (fun e => hs (.inl e))).trans (Below.heap_setCell _ _ _ _ (fun e => hs (.inr e)))
  · have hbx : RowAt Wf w1.heap.size 82 [.slice (some ⟨o, 0, none⟩) (pre.length + 1) r] := by
     rw [<- hWf]; exact hrB'.set 0 (.slice (some ⟨o, 0, none⟩) (pre.length + 1) r)
    have hrw : RowAt Wf o 22 (hdrsTo r (pre ++ [x])) := by
     have h1 := hrW'.other (p := ⟨w1.heap.size, 0, none⟩) (fun e => hne e.symm) (.slice (some ⟨o, 0, none⟩) (pre.length + 1) r);have e : (hdrsTo r pre).set pre.length x.2.hdr = hdrsTo r (pre ++ [x]) := by
      unfold hdrsTo;obtain ⟨q, hq⟩ : ∃ q, r - pre.length = q + 1 := ⟨r - pre.length - 1, by omega⟩;have hq2 : r - (pre ++ [x]).length = q := by simp; omega
      rw [hq, hq2, List.replicate_succ, List.set_append_right _ _ (by simp)];simp
     rw [<- e, <- hWf]; exact h1
    refine ⟨?_, hrw.below hbl hrw.lt, ?_, ?_, ?_⟩
    · have := hbx.below hbl hbx.lt;simpa using this
    · intro z hz;rcases List.mem_append.1 hz with hz | hz
      · exact ⟨(hnum z (hI.nums z hz).1).below hbl, (hI.nums z hz).2⟩
      · simp only [List.mem_singleton] at hz; subst hz;exact ⟨(hnum z hE.1).below hbl, hE.2.1⟩
    · rw [List.map_append, List.nodup_append];refine ⟨hI.nd, by simp, fun u hu v hv => ?_⟩;simp only [List.map_cons, List.map_nil, List.mem_singleton] at hv;obtain ⟨y, hy, rfl⟩ := List.mem_map.1 hu;subst hv;exact hE.2.2 y hy
    · refine Chg.below ?_ hbl;rw [<- hWf];exact (hI.chg.set (p := ⟨o, pre.length, none⟩) (.inr rfl) _).set (p := ⟨w1.heap.size, 0, none⟩) (.inl rfl) _
 case done =>
  rintro D zs W hD hS hI hK;have hl : zs.length = r := hS.1;have c0 : W.cell? ⟨w1.heap.size, 0, none⟩ = some (.slice (some ⟨o, 0, none⟩) zs.length r) := hI.box.cell 0;have HI := Lib.hid hI; clear hI;simp only [Exit.inBlock];go_wp2;refine ⟨by simp, .inl ⟨_, _, rfl, run_takeDeferred hK, ?_⟩⟩;refine ⟨_, results_tmp rfl _ _ _, ?_⟩;have hI := HI.out;have hS2 := hS.2;have hrow : RowAt W o 22 (zs.map (fun z => z.2.hdr)) := by
   have := hI.row;unfold hdrsTo at this;rw [hl, Nat.sub_self] at this;simpa using this
  refine ⟨⟨o, zs.map (fun z => z.2), ?_, ⟨?_, ?_, ?_⟩, by simp [hl], ?_, by omega, ?_, by rw [List.map_map]; exact row_putObj hK rfl hrow⟩, ?_⟩
  · simp [hl]
  · rw [List.map_map]; exact (row_putObj hK rfl hrow).pre
  · intro h hh;obtain ⟨z, hz, rfl⟩ := List.mem_map.1 hh;exact rowN_putObj hK rfl (hI.nums z hz).1
  · rw [List.map_map]; exact hI.nd
  · intro k hk;have hk' : k < zs.length := by simpa using hk
    have := hS2 k hk';rw [List.getElem_map, this]
  · intro x hx;obtain ⟨z, hz, rfl⟩ := List.mem_map.1 hx;have := (hI.nums z hz).2;have := HB3.out.size;omega
  · refine HB3.out.trans ?_;refine (hI.chg.to_below (B := w.heap.size) ?_ HB3.out.size).trans ⟨rfl, rfl, rfl, by simp, fun k hk => World.putObj_heap_other (by have := HB3.out.size; omega)⟩;rintro k (rfl | rfl) <;> omega
theorem lines_c (r c : Nat) (ao : Option Addr) (len cap : Nat) (xs : List Int) (w : World) (hr : r <= 64) (hc : c <= 64) (h : LsAt w 17592186044415 ao xs) (hL : ∀ x ∈ xs, wlen x.natAbs <= 17592186044415) (hl : len = xs.length) (hs : xs.length = r * c) :
 CallsIn Fence.wide 6 Tryz.prog 43 #[.agg #[.int .i64 (r : Int), .int .i64 (c : Int), .slice ao len cap]] w fun e w' => (∃ o R, e = .returned (.slice (some ⟨o, 0, none⟩) R.length r) /\ MatN w' o R /\ R.length = r /\ (∀ k (h : k < R.length), R[k].xs = rowOf xs c k) /\ w.heap.size <= o /\ (∀ x ∈ R, w.heap.size <= x.blk)) /\ Below w.heap.size w w' :=
 (lines_e r c ao len cap xs w hr hc h hL hl hs).mono (fun e w' ⟨⟨o, R, h1, h2, h3, h4, h5, h6, _⟩, hb⟩ => ⟨⟨o, R, h1, h2, h3, h4, h5, h6⟩, hb⟩)
def DAt (w : World) (ao : Option Addr) (ds : List Nat) : Prop :=
 0 < ds.length -> ∃ b o, ao = some ⟨b, o, none⟩ /\ b < w.heap.size /\ ∀ i, i < ds.length -> w.cell? ⟨b, o + i, none⟩ = some (.int .i64 ((gw ds i : Nat) : Int))
theorem DAt.below {w w' : World} {ao : Option Addr} {ds : List Nat} (h : DAt w ao ds) (hb : Below w.heap.size w w') : DAt w' ao ds := by
 intro hl;obtain ⟨b, o, e, hlt, hc⟩ := h hl;exact ⟨b, o, e, Nat.lt_of_lt_of_le hlt hb.size, fun i hi => (hb.cell (p := ⟨b, o + i, none⟩) hlt).trans (hc i hi)⟩
theorem gw_tk {l : List Nat} {k i : Nat} (h : i < k) : gw (l.take k) i = gw l i := by
 unfold gw; rw [List.getD_eq_getElem?_getD, List.getElem?_take_of_lt h, <- List.getD_eq_getElem?_getD]
theorem DAt.take {w : World} {ao : Option Addr} {ds : List Nat} (h : DAt w ao ds) (k : Nat) : DAt w ao (ds.take k) := by
 intro hl;have h1 : (ds.take k).length <= ds.length := by simp; omega
 have h2 : (ds.take k).length <= k := by simp; omega
 obtain ⟨b, o, e, hlt, hc⟩ := h (by omega);exact ⟨b, o, e, hlt, fun i hi => by rw [gw_tk (by omega)]; exact hc i (by omega)⟩
theorem DAt.row {w : World} {b : Nat} {ds : List Nat} {r : List Value} (h : RowAt w b 3 (ds.map iv ++ r)) : DAt w (some ⟨b, 0, none⟩) ds := by
 intro _;refine ⟨b, 0, rfl, h.lt, fun i hi => ?_⟩;rw [Nat.zero_add, h.cell, List.getElem?_append_left (by simpa using hi)];simp [iv, gw, hi]
set_option maxHeartbeats 1000000 in
theorem RTrim_c (ao : Option Addr) (len cap : Nat) (ds : List Nat) (w : World) (hA : DAt w ao ds) (hl : len = ds.length) (hcap : len <= cap) (hm : cap <= 70368744177664) :
 Calls Tryz.prog 145 #[.slice ao len cap] w fun e w' => e = .returned (.slice ao (tlen ds) cap) /\ w = w' := by
 subst hl;have htl := tlen_le ds;have HA := Lib.hid hA; clear hA;go_enter Tryz.func145, Tryz.ntmps145;go_wp2
 go_loop [3] (fun i => ∃ k : Nat, k <= ds.length /\ tlen ds <= k /\ i = .int .i64 k) (fun i => (intOf i).toNat)
 case atStart => exact ⟨ds.length, by omega, by omega, rfl⟩
 case round =>
  obtain ⟨k, hk, ht, rfl⟩ := hrel;by_cases h0 : 0 < k
  · obtain ⟨b, o, rfl, hb, hc⟩ := HA.out (by omega);have hcell := hc (k - 1) (by omega);by_cases hz : gw ds (k - 1) = 0
    · have hzb : (((gw ds (k - 1) : Nat) : Int) == 0) = true := by rw [hz]; rfl
      have Hz := Lib.hid hz; clear hz hc;go_wp2
      go_round
      case rel => exact ⟨k - 1, by omega, tlen_of_zeros ds (k - 1) (fun j hj => by
       by_cases hj' : j = k - 1
       · rw [hj']; exact Hz.out
       · exact zero_of_tlen ds j (by omega)), by go_num⟩
      case measure => simp [intOf]; omega
    · have hzb : (((gw ds (k - 1) : Nat) : Int) == 0) = false := by rw [beq_eq_false_iff_ne]; omega
      have h1 := lt_tlen ds (k - 1) hz;clear hc hz;have hke : k = tlen ds := by omega
      subst hke;go_wp2;go_ret;exact ⟨rfl, rfl⟩
  · have hke : k = tlen ds := by omega
    subst hke;go_wp2;go_ret;exact ⟨rfl, rfl⟩
theorem run_rem (ρ : Operand -> Value) (o : Oper) (p q : Operand) {w : World} (ho : o.op = .binOp .rem 49 p q 49) (x y : Nat) (hx : x < W) (hy : y ≠ 0) (hp : ρ p = .int .u64 (x : Int)) (hq : ρ q = .int .u64 (y : Int)) :
 (execOp ρ o).run Tryz.prog w = .ok (.value (.int .u64 ((remW x y : Nat) : Int))) w := by
 obtain ⟨dst, op, type, pos, after, guard⟩ := o;simp only at ho; subst ho;simp [go_sem, hp, hq, IntKind.wrap_u64, remW, hy];have h1 := Nat.mod_le x y;unfold W at hx;have e1 := Int.ofNat_tmod x y;have e2 := Int.natCast_emod x y;generalize x % y = z at *;generalize (x : Int).tmod (y : Int) = u at *;generalize (x : Int) % (y : Int) = v at *;omega
theorem op_rem {w : World} {ops : Array Oper} {rest : List Oper} {o : Oper} {a : Act} {Q : Exit -> Act -> World -> Prop} (hg : o.guard = none) (p q : Operand) (ho : o.op = .binOp .rem 49 p q 49) {X Y : Int} (x y : Nat) (hx : x < W) (hy : y ≠ 0)
 (hp : a.eval p = .int .u64 X) (hq : a.eval q = .int .u64 Y) (hX : X = (x : Int)) (hY : Y = (y : Int))
 (h : wpList Tryz.prog ops Q rest (a.put o.dst (.int .u64 ((remW x y : Nat) : Int))) w) : wpList Tryz.prog ops Q (o :: rest) a w := by
 subst hX hY;exact op_of_run hg (run_rem _ _ p q ho x y hx hy hp hq) h
theorem run_toI (ρ : Operand -> Value) (o : Oper) (p : Operand) {w : World} (ho : o.op = .convert 49 3 p) (x : Nat) (hx : x < 9223372036854775808) (hp : ρ p = .int .u64 (x : Int)) :
 (execOp ρ o).run Tryz.prog w = .ok (.value (.int .i64 (x : Int))) w := by
 obtain ⟨dst, op, type, pos, after, guard⟩ := o;simp only at ho; subst ho;simp [go_sem, hp];exact wrap_small (by omega) (by omega)
theorem run_toU (ρ : Operand -> Value) (o : Oper) (p : Operand) {w : World} (ho : o.op = .convert 3 49 p) (x : Nat) (hx : x < W) (hp : ρ p = .int .i64 (x : Int)) :
 (execOp ρ o).run Tryz.prog w = .ok (.value (.int .u64 (x : Int))) w := by
 obtain ⟨dst, op, type, pos, after, guard⟩ := o;simp only at ho; subst ho;simp [go_sem, hp];rw [IntKind.wrap_u64]; unfold W at hx; omega
structure RowI (w : World) (b N : Nat) (D : List Nat) (W' : World) : Prop where
 row : RowAt W' b 3 (D.map iv ++ List.replicate (N - D.length) (iv 0))
 bel : Below w.heap.size w W'
 ge : w.heap.size <= b
theorem RowI.spare {w : World} {b N n : Nat} {D : List Nat} {W' : World} (h : RowI w b N D W') (hn : D.length = n) (hN : n + 1 <= N) (X : Obj) : (∀ j, j < 1 -> ((W'.alloc X).cell? ⟨b, 0 + n * 1 + j, none⟩).isSome = true) /\ (∀ j, j < 1 -> (W'.alloc X).frozen? ⟨b, 0 + n * 1 + j, none⟩ = false) := by
 have hr := h.row.alloc X;refine ⟨fun j hj => ?_, fun j _ => hr.free _⟩;rw [hr.cell];have : 0 + n * 1 + j < (D.map iv ++ List.replicate (N - D.length) (iv 0)).length := by simp; omega
 simp only [List.getElem?_eq_getElem this]; rfl
theorem RowI.app {w : World} {b N n : Nat} {D : List Nat} {W' : World} (h : RowI w b N D W') (hn : D.length = n) (hN : n + 1 <= N) (x : Nat) (W2 : World)
 (e : (W'.alloc (.cells #[.int .i64 (x : Int)] 3)).setCells b n [.int .i64 (x : Int)] = W2) : RowI w b N (D ++ [x]) W2 := by
 subst hn;have hb1 : Below W'.heap.size W' (W'.alloc (.cells #[.int .i64 (x : Int)] 3)) := (Below.refl _ _).alloc (Nat.le_refl _) _;have h2 := (h.row.alloc (.cells #[.int .i64 (x : Int)] 3)).set D.length (.int .i64 (x : Int));have e2 : (W'.alloc (.cells #[.int .i64 (x : Int)] 3)).setCell ⟨b, D.length, none⟩ (.int .i64 (x : Int)) = W2 := by rw [<- e]; rfl
 rw [e2] at h2;refine ⟨?_, ?_, h.ge⟩
 · have e3 : (D.map iv ++ List.replicate (N - D.length) (iv 0)).set D.length (.int .i64 (x : Int)) = (D ++ [x]).map iv ++ List.replicate (N - (D ++ [x]).length) (iv 0) := by
    obtain ⟨q, hq⟩ : ∃ q, N - D.length = q + 1 := ⟨N - D.length - 1, by omega⟩;have hq2 : N - (D ++ [x]).length = q := by simp; omega
    rw [hq, hq2, List.replicate_succ, List.set_append_right _ _ (by simp)];simp [iv]
   rw [<- e3]; exact h2
 · rw [<- e2]; exact (h.bel.trans (hb1.mono h.bel.size)).setCell (p := ⟨b, D.length, none⟩) h.ge _
set_option maxRecDepth 100000 in
set_option maxHeartbeats 4000000 in
theorem RSplit_c (ao : Option Addr) (len cap : Nat) (ws : List Nat) (w : World) (hA : WAt w ao ws) (hl : len = ws.length) (hm : len <= 8796093022208) :
 Calls Tryz.prog 101 #[.slice ao len cap] w fun e w' => (∃ b ds, e = .returned (.slice (some ⟨b, 0, none⟩) ds.length (4 * len)) /\ w.heap.size <= b /\ Hex (nval ws) ds /\ DAt w' (some ⟨b, 0, none⟩) ds /\ ds.length <= 4 * len /\ b < w'.heap.size) /\ Below w.heap.size w w' := by
 subst hl;have HA := Lib.hid hA; clear hA;have hw4 : IntKind.i64.wrap (4 * (ws.length : Int)) = ((4 * ws.length : Nat) : Int) := by rw [wrap_small] <;> omega
 go_enter Tryz.func101, Tryz.ntmps101;go_wp2_with (at_make; refine mk_ints rfl _ _ rfl 0 (4 * ws.length) rfl rfl rfl (by omega) (Nat.zero_le _) (by omega) ?_; intro b w1 hm1)
 have hI : RowI w b (4 * ws.length) [] w1 := ⟨by have := hm1.row; rw [List.map_replicate] at this; simpa using this, hm1.below, by have := hm1.at_; omega⟩;have HI := Lib.hid hI; clear hI hm1;clear hw4;go_loopw [3, 4] (fun d_ i_ wr => ∃ (i : Nat), i <= ws.length /\ i_ = .int .i64 (i : Int) /\ d_ = .slice (some ⟨b, 0, none⟩) (4 * i) (4 * ws.length) /\ Hid (RowI w b (4 * ws.length) (spl (ws.take i)) wr)) (fun _ i_ _ => ws.length - (intOf i_).toNat)
 case atStart => exact ⟨0, Nat.zero_le _, rfl, rfl, Lib.hid (by simpa [spl] using HI.out)⟩
 case round =>
  obtain ⟨i, hi, rfl, rfl, hIr⟩ := hrel;by_cases hin : i < ws.length
  · have hin1 : (i : Int) < (ws.length : Int) := by omega
    obtain ⟨ab, aoff, rfl, hab, hc⟩ := (HA.out.below hIr.out.bel).pos (by omega);have hcell := hc i hin;have hgwW := HA.out.ok.gw i;obtain ⟨x, hx⟩ : ∃ x, gw ws i = x := ⟨_, rfl⟩;rw [hx] at hcell hgwW;have Hx := Lib.hid hx; clear hx hc;go_wp2;go_loopw [3, 5, 6] (fun d_ x_ k_ wq => ∃ (k : Nat), k <= 4 /\ k_ = .int .i64 (k : Int) /\ x_ = .int .u64 ((x / HX ^ k : Nat) : Int) /\ d_ = .slice (some ⟨b, 0, none⟩) (4 * i + k) (4 * ws.length) /\ Hid (RowI w b (4 * ws.length) (spl (ws.take i) ++ (sp4 x).take k) wq)) (fun _ _ k_ _ => 4 - (intOf k_).toNat)
    case atStart => exact ⟨0, by omega, rfl, by simp, rfl, Lib.hid (by simpa using hIr.out)⟩
    case round =>
     obtain ⟨k, hk, rfl, rfl, rfl, hIq⟩ := hrel;by_cases hk4 : k < 4
     · have hk41 : (k : Int) < 4 := by omega
       obtain ⟨y, hy⟩ : ∃ y, x / HX ^ k = y := ⟨_, rfl⟩;have hyW : y < W := by rw [<- hy]; exact Nat.lt_of_le_of_lt (Nat.div_le_self ..) hgwW
       have hlen : (spl (ws.take i) ++ (sp4 x).take k).length = 4 * i + k := by
        rw [List.length_append, spl_length, List.length_take, List.length_take, sp4_length, Nat.min_eq_left (by omega), Nat.min_eq_left (by omega)]
       have hroom : 4 * i + k + 1 <= 4 * ws.length := by omega
       have hnext : spl (ws.take i) ++ (sp4 x).take (k + 1) = (spl (ws.take i) ++ (sp4 x).take k) ++ [y % HX] := by
        have hd : (sp4 x).take (k + 1) = (sp4 x).take k ++ [y % HX] := by
         rw [<- hy];match k, hk4 with
         | 0, _ => simp [sp4]
         | 1, _ => simp [sp4, HX]
         | 2, _ => simp [sp4, HX, Nat.div_div_eq_div_mul]
         | 3, _ => simp [sp4, HX, Nat.div_div_eq_div_mul]
        rw [hd, List.append_assoc]
       have hdiv : x / HX ^ (k + 1) = y / HX := by rw [<- hy, Nat.div_div_eq_div_mul, Nat.pow_succ]
       rw [hy];generalize spl (ws.take i) ++ (sp4 x).take k = D at *;have HN := Lib.hid (And.intro hnext hdiv); clear hnext hdiv hy;have hsp := fun X => hIq.out.spare hlen hroom X;have hr1 : remW y 65536 < 9223372036854775808 := Nat.lt_of_lt_of_le (Nat.mod_lt _ (by omega)) (by omega);go_wp2_with (first
        | (with_reducible show wpList _ _ _ (⟨some 27, _, _, _, _, _⟩ :: _) _ _; refine op_rem rfl _ _ rfl y 65536 hyW (by omega) rfl rfl rfl rfl ?_)
        | (with_reducible show wpList _ _ _ (⟨some 28, _, _, _, _, _⟩ :: _) _ _; refine op_of_run rfl (run_toI _ _ _ rfl (remW y 65536) hr1 rfl) ?_)
        | (with_reducible show wpList _ _ _ (⟨some 32, _, _, _, _, _⟩ :: _) _ _; refine op_quo rfl _ _ rfl y 65536 hyW (by omega) rfl rfl rfl rfl ?_)
        | (at_builtin; refine wpList_app rfl _ _ 33 rfl 3 (.int .i64 0) 1 8 Tryz.underlying33 info_int b 0 (4 * i + k) (4 * ws.length) ⟨wr.heap.size, 0, none⟩ 1 1 [.int .i64 ((remW y 65536 : Nat) : Int)] rfl rfl rfl (cell_one_new _ _ _) (by simp [Value.oneCell']) hroom (hsp _).1 (hsp _).2 ?_; obtain ⟨w7, hw7⟩ : ∃ w7, (wr.alloc (.cells #[.int .i64 ((remW y 65536 : Nat) : Int)] 3)).setCells b (4 * i + k) [.int .i64 ((remW y 65536 : Nat) : Int)] = w7 := ⟨_, rfl⟩; have hI7 := hIq.out.app hlen hroom (remW y 65536) w7 hw7; simp only [Nat.zero_add, Nat.mul_one]; rw [hw7]; have HI7 := Lib.hid hI7; clear hI7 hw7))
       go_roundw
       case rel =>
        refine ⟨k + 1, by omega, by go_num, ?_, by go_num, Lib.hid ?_⟩
        · rw [HN.out.2]; rfl
        · rw [HN.out.1]; exact HI7.out
       case measure => simp [intOf]; omega
     · obtain rfl : k = 4 := by omega
       go_wp2;go_roundw
       case rel =>
        have h9 := hIq.out;refine ⟨i + 1, by omega, by go_num, by go_num, Lib.hid ?_⟩;have e : spl (ws.take (i + 1)) = spl (ws.take i) ++ sp4 x := by
         rw [List.take_succ_eq_append_getElem hin];have : ws[i] = x := by rw [<- Hx.out]; simp [gw, hin]
         simp [spl, this]
        rw [e]; exact h9
       case measure => simp [intOf]; omega
  · obtain rfl : i = ws.length := by omega
    have hIe := hIr.out;rw [List.take_length] at hIe;have hval := spl_val HA.out.ok;have hlen := spl_length ws;have hH := Hex.of (spl_ok ws);rw [hval] at hH;have htl := tlen_le (spl ws);have HH := Lib.hid (And.intro hH (And.intro hlen htl));have hD : DAt wr (some ⟨b, 0, none⟩) (spl ws) := DAt.row hIe.row;have ht := RTrim_c (some ⟨b, 0, none⟩) (4 * ws.length) (4 * ws.length) (spl ws) wr hD hlen.symm (Nat.le_refl _) (by omega);have HT := Lib.hid ht;have HD := Lib.hid hD;clear hH hval hlen htl ht hD hIe;go_wp2_with fail
    refine HT.out.mono ?_;rintro e w9 ⟨rfl, rfl⟩;go_wp2;go_ret;have hl2 : ((spl ws).take (tlen (spl ws))).length = tlen (spl ws) := by rw [List.length_take, Nat.min_eq_left HH.out.2.2]
    refine ⟨⟨b, (spl ws).take (tlen (spl ws)), ?_, hIr.out.ge, HH.out.1, HD.out.take _, by have := HH.out.2; omega, hIr.out.row.lt⟩, hIr.out.bel⟩;rw [hl2]; rfl
theorem hval_drop_take (D : List Nat) (j m : Nat) : hval ((D.drop j).take (m + 1)) = gw D j + HX * hval ((D.drop (j + 1)).take m) := by
 by_cases hj : j < D.length
 · rw [List.drop_eq_getElem_cons hj, List.take_succ_cons, hval];simp [gw, hj]
 · rw [List.drop_of_length_le (by omega), List.drop_of_length_le (by omega)];simp [hval, gw, List.getElem?_eq_none (show D.length <= j by omega)]
theorem hval_part_lt {D : List Nat} (h : HOk D) (j m : Nat) : hval ((D.drop j).take m) < HX ^ m := by
 refine Nat.lt_of_lt_of_le (hval_lt ((h.drop j).take m)) (Nat.pow_le_pow_right HX_pos (by simp; omega))
structure RowW (w : World) (b N : Nat) (D : List Nat) (W' : World) : Prop where
 row : RowAt W' b 49 ((D ++ List.replicate (N - D.length) 0).map wv)
 bel : Below w.heap.size w W'
 ge : w.heap.size <= b
theorem RowW.spare {w : World} {b N n : Nat} {D : List Nat} {W' : World} (h : RowW w b N D W') (hn : D.length = n) (hN : n + 1 <= N) (X : Obj) : (∀ j, j < 1 -> ((W'.alloc X).cell? ⟨b, 0 + n * 1 + j, none⟩).isSome = true) /\ (∀ j, j < 1 -> (W'.alloc X).frozen? ⟨b, 0 + n * 1 + j, none⟩ = false) := by
 have hr := h.row.alloc X;refine ⟨fun j hj => ?_, fun j _ => hr.free _⟩;rw [hr.cell];have : 0 + n * 1 + j < ((D ++ List.replicate (N - D.length) 0).map wv).length := by simp; omega
 simp only [List.getElem?_eq_getElem this]; rfl
theorem RowW.app {w : World} {b N n : Nat} {D : List Nat} {W' : World} (h : RowW w b N D W') (hn : D.length = n) (hN : n + 1 <= N) (x : Nat) (W2 : World)
 (e : (W'.alloc (.cells #[.int .u64 (x : Int)] 49)).setCells b n [.int .u64 (x : Int)] = W2) : RowW w b N (D ++ [x]) W2 := by
 subst hn;have hb1 : Below W'.heap.size W' (W'.alloc (.cells #[.int .u64 (x : Int)] 49)) := (Below.refl _ _).alloc (Nat.le_refl _) _;have h2 := (h.row.alloc (.cells #[.int .u64 (x : Int)] 49)).setWord D.length x;have e2 : (W'.alloc (.cells #[.int .u64 (x : Int)] 49)).setCell ⟨b, D.length, none⟩ (.int .u64 (x : Int)) = W2 := by rw [<- e]; rfl
 rw [e2] at h2;refine ⟨?_, ?_, h.ge⟩
 · have e3 : (D ++ List.replicate (N - D.length) 0).set D.length x = (D ++ [x]) ++ List.replicate (N - (D ++ [x]).length) 0 := by
    obtain ⟨q, hq⟩ : ∃ q, N - D.length = q + 1 := ⟨N - D.length - 1, by omega⟩;have hq2 : N - (D ++ [x]).length = q := by simp; omega
    rw [hq, hq2, List.replicate_succ, List.set_append_right _ _ (by simp)];simp
   rw [<- e3]; exact h2
 · rw [<- e2]; exact (h.bel.trans (hb1.mono h.bel.size)).setCell (p := ⟨b, D.length, none⟩) h.ge _
set_option maxRecDepth 100000 in
set_option maxHeartbeats 4000000 in
theorem RJoin_c (ao : Option Addr) (len cap : Nat) (ds : List Nat) (w : World) (hA : DAt w ao ds) (hok : HOk ds) (hl : len = ds.length) (hcap : len <= cap) (hm : cap <= 35184372088832) :
 Calls Tryz.prog 121 #[.slice ao len cap] w fun e w' => (∃ ao' cap', e = .returned (.slice ao' (wlen (hval ds)) cap') /\ OwnW w' w.heap.size ao' (wlen (hval ds)) cap' (dig (hval ds))) /\ Below w.heap.size w w' := by
 have hH := Hex.of hok;have htl := tlen_le ds;have ht := RTrim_c ao len cap ds w hA hl hcap (by omega);rw [<- hl] at htl;have hl2 : (ds.take (tlen ds)).length = tlen ds := by rw [List.length_take, Nat.min_eq_left (tlen_le ds)]
 have hA2 := hA.take (tlen ds);obtain ⟨D, hD⟩ : ∃ D, ds.take (tlen ds) = D := ⟨_, rfl⟩;obtain ⟨v, hv⟩ : ∃ v, hval ds = v := ⟨_, rfl⟩;obtain ⟨L, hL⟩ : ∃ L, tlen ds = L := ⟨_, rfl⟩;rw [hD] at hH hl2 hA2;rw [hv] at hH ⊢;rw [hL] at ht hl2 htl;have HT := Lib.hid ht; clear ht;have HH := Lib.hid hH; clear hH;have HA2 := Lib.hid hA2; clear hA2;have HL2 := Lib.hid hl2; clear hl2;clear hA hD hv hL hok hl;obtain ⟨N, hN⟩ : ∃ N, L / 4 + 1 = N := ⟨_, rfl⟩;have hNb : N <= 35184372088832 := by omega
 have HN := Lib.hid hN; clear hN;go_enter Tryz.func121, Tryz.ntmps121;go_wp2_with fail
 refine HT.out.mono ?_;rintro e w9 ⟨rfl, rfl⟩;have hdv : IntKind.i64.wrap ((L : Int).tdiv 4) = ((L / 4 : Nat) : Int) := by
  rw [show (L : Int).tdiv 4 = ((L / 4 : Nat) : Int) from (Int.ofNat_tdiv L 4).symm]; exact wrap_small (by omega) (by omega)
 go_wp2_with (at_make; refine mk_words rfl _ _ rfl 0 N rfl rfl rfl (by have := HN.out; omega) (Nat.zero_le _) (by omega) ?_; intro b w1 hm1)
 have hI : RowW w b N [] w1 := ⟨by have := hm1.row; simpa using this, hm1.below, by have := hm1.at_; omega⟩;have HI := Lib.hid hI; clear hI hm1 hdv;go_loopw [3, 4] (fun l_ i_ wr => ∃ (q : Nat), 4 * q < L + 4 /\ i_ = .int .i64 (4 * (q : Int)) /\ l_ = .slice (some ⟨b, 0, none⟩) q N /\ Hid (RowW w b N ((List.range q).map (ch4 D)) wr)) (fun _ i_ _ => L + 4 - (intOf i_).toNat)
 case atStart => exact ⟨0, by omega, by simp, rfl, Lib.hid (by simpa using HI.out)⟩
 case round =>
  obtain ⟨q, hq, rfl, rfl, hIr⟩ := hrel;by_cases hin : 4 * q < L
  · have hin1 : 4 * (q : Int) < (L : Int) := by omega
    have hroom : q + 1 <= N := by have := HN.out; omega
    have hqb : 4 * (q : Int) <= 140737488355328 := by omega
    go_wp2;go_loopw [5, 6] (fun x_ k_ wq => ∃ (j : Nat), j <= 4 /\ k_ = .int .i64 ((j : Int) - 1) /\ x_ = .int .u64 ((hval ((D.drop (4 * q + j)).take (4 - j)) : Nat) : Int) /\ wq = wr) (fun _ k_ _ => (intOf k_ + 1).toNat)
    case atStart => exact ⟨4, Nat.le_refl _, rfl, by simp [hval], rfl⟩
    case round =>
     obtain ⟨j, hj, rfl, rfl, rfl⟩ := hrel;rcases Nat.eq_zero_or_pos j with h0 | h0
     · subst h0;have hx : hval ((D.drop (4 * q + 0)).take (4 - 0)) = ch4 D q := rfl;rw [hx];have hlen : ((List.range q).map (ch4 D)).length = q := by simp
       have hsp := fun X => hIr.out.spare hlen hroom X;have hnext : (List.range (q + 1)).map (ch4 D) = (List.range q).map (ch4 D) ++ [ch4 D q] := by rw [List.range_succ]; simp
       have HNX := Lib.hid hnext; clear hnext hx;generalize ch4 D q = x at *;go_wp2_with (at_builtin; refine wpList_app rfl _ _ 43 rfl 49 (.int .u64 0) 1 8 Tryz.underlying43 info_u64 b 0 q N ⟨wr.heap.size, 0, none⟩ 1 1 [.int .u64 (x : Int)] rfl rfl rfl (cell_one_new _ _ _) (by simp [Value.oneCell']) hroom (hsp _).1 (hsp _).2 ?_; obtain ⟨w7, hw7⟩ : ∃ w7, (wr.alloc (.cells #[.int .u64 (x : Int)] 49)).setCells b q [.int .u64 (x : Int)] = w7 := ⟨_, rfl⟩; have hI7 := hIr.out.app hlen hroom x w7 hw7; simp only [Nat.zero_add, Nat.mul_one]; rw [hw7]; have HI7 := Lib.hid hI7; clear hI7 hw7)
       go_roundw
       case rel =>
        refine ⟨q + 1, by omega, by go_num, by go_num, Lib.hid ?_⟩;rw [HNX.out]; exact HI7.out
       case measure => simp [intOf]; omega
     · obtain ⟨j', rfl⟩ : ∃ j', j = j' + 1 := ⟨j - 1, by omega⟩;have e1 : ((j' + 1 : Nat) : Int) - 1 = (j' : Int) := by omega
       rw [e1]; clear e1;have hpos : (0 : Int) <= (j' : Int) := by omega
       obtain ⟨y, hy⟩ : ∃ y, hval ((D.drop (4 * q + (j' + 1))).take (4 - (j' + 1))) = y := ⟨_, rfl⟩;have hyl : y < HX ^ 3 := by
        rw [<- hy];exact Nat.lt_of_lt_of_le (hval_part_lt HH.out.ok _ _) (Nat.pow_le_pow_right HX_pos (by omega))
       have hnx : hval ((D.drop (4 * q + j')).take (4 - j')) = gw D (4 * q + j') + HX * y := by
        rw [show 4 - j' = 4 - (j' + 1) + 1 by omega, hval_drop_take, <- hy]; rfl
       rw [hy]; clear hy;have hdl := HH.out.ok.gw_ (4 * q + j');have hm1 : mullo y 65536 = HX * y := by
        unfold mullo; rw [Nat.mod_eq_of_lt]
        · exact Nat.mul_comm ..
        · unfold W; unfold HX at hyl; omega
       have hjb : (j' : Int) <= 3 := by omega
       have HNX := Lib.hid (And.intro hnx (And.intro hdl (And.intro hyl hm1))); clear hnx hdl hyl hm1;by_cases hil : 4 * q + j' < L
       · have hil1 : 4 * (q : Int) + (j' : Int) < (L : Int) := by omega
         obtain ⟨ab, aoff, rfl, hab, hc⟩ := (HA2.out.below hIr.out.bel) (by have := HL2.out; omega);have hcell := hc (4 * q + j') (by have := HL2.out; omega);clear hc;obtain ⟨d, hd⟩ : ∃ d, gw D (4 * q + j') = d := ⟨_, rfl⟩;rw [hd] at HNX hcell;clear hd;have hdW : d < W := Nat.lt_trans HNX.out.2.1 (by unfold HX W; omega);go_wp2_with (first
          | (with_reducible show wpList _ _ _ (⟨some 25, _, _, _, _, _⟩ :: _) _ _; refine op_mul rfl _ _ rfl y 65536 rfl rfl rfl rfl ?_)
          | (with_reducible show wpList _ _ _ (⟨some 39, _, _, _, _, _⟩ :: _) _ _; refine op_of_run rfl (run_toU _ _ _ rfl d hdW rfl) ?_)
          | (with_reducible show wpList _ _ _ (⟨some 40, _, _, _, _, _⟩ :: _) _ _; refine op_add rfl _ _ rfl (mullo y 65536) d rfl rfl rfl rfl ?_))
         go_roundw
         case rel =>
          refine ⟨j', by omega, by go_num, ?_, trivial⟩;rw [HNX.out.1, HNX.out.2.2.2];congr 2;unfold addlo;have h1 := HNX.out.2.1;have h2 := HNX.out.2.2.1;rw [Nat.mod_eq_of_lt]
          · omega
          · unfold W; unfold HX at *; omega
         case measure => (simp [intOf] <;> omega)
       · have hil1 : ¬ 4 * (q : Int) + (j' : Int) < (L : Int) := by omega
         have hd0 : gw D (4 * q + j') = 0 := by
          unfold gw; rw [List.getD_eq_getElem?_getD, List.getElem?_eq_none (by have := HL2.out; omega)]; rfl
         have HD0 := Lib.hid hd0; clear hd0;go_wp2_with (first
          | (with_reducible show wpList _ _ _ (⟨some 25, _, _, _, _, _⟩ :: _) _ _; refine op_mul rfl _ _ rfl y 65536 rfl rfl rfl rfl ?_))
         go_roundw
         case rel =>
          refine ⟨j', by omega, by go_num, ?_, trivial⟩;rw [HNX.out.1, HNX.out.2.2.2, HD0.out]; simp
         case measure => (simp [intOf] <;> omega)
  · have hin1 : ¬ 4 * (q : Int) < (L : Int) := by omega
    have hdig := ch4_dig (n := q) HH.out (by have := HL2.out; omega) (by have := HL2.out; omega);have hwl : wlen v = q := by
     have h2 := congrArg List.length hdig;rw [List.length_map, List.length_range] at h2;unfold wlen; exact h2.symm
    have hok2 := ch4_ok HH.out.ok q;have HDW := Lib.hid (And.intro hdig (And.intro hwl hok2)); clear hdig hwl hok2;go_wp2;go_ret;rw [HDW.out.2.1];refine ⟨⟨some ⟨b, 0, none⟩, N, rfl, ?_⟩, hIr.out.bel⟩;have h1 := hIr.out.row.own (n := q) (B := w.heap.size) (cap := N) (HDW.out.2.2.append (Ok.replicate _)) hIr.out.ge (by simp) (by have := HN.out; simp; omega) (by unfold maxLen; omega);rw [List.take_left' (by simp), HDW.out.1] at h1;exact h1
theorem run_remI (ρ : Operand -> Value) (o : Oper) (p q : Operand) {w : World} (ho : o.op = .binOp .rem 3 p q 3) (x y : Nat) (hx : x < 9223372036854775808) (hy : y ≠ 0) (hp : ρ p = .int .i64 (x : Int)) (hq : ρ q = .int .i64 (y : Int)) :
 (execOp ρ o).run Tryz.prog w = .ok (.value (.int .i64 ((x % y : Nat) : Int))) w := by
 obtain ⟨dst, op, type, pos, after, guard⟩ := o;simp only at ho; subst ho;have h1 := Nat.mod_le x y;have e3 : IntKind.i64.wrap ((x : Int).tmod (y : Int)) = ((x % y : Nat) : Int) := by
  rw [<- Int.ofNat_tmod];generalize x % y = z at *;exact wrap_small (by omega) (by omega)
 simp [go_sem, hp, hq, hy, e3];exact (Int.ofNat_tmod x y).symm.trans (Int.natCast_emod x y)
theorem run_quoI (ρ : Operand -> Value) (o : Oper) (p q : Operand) {w : World} (ho : o.op = .binOp .quo 3 p q 3) (x y : Nat) (hx : x < 9223372036854775808) (hy : y ≠ 0) (hp : ρ p = .int .i64 (x : Int)) (hq : ρ q = .int .i64 (y : Int)) :
 (execOp ρ o).run Tryz.prog w = .ok (.value (.int .i64 ((x / y : Nat) : Int))) w := by
 obtain ⟨dst, op, type, pos, after, guard⟩ := o;simp only at ho; subst ho;have h1 := Nat.div_le_self x y;have e3 : IntKind.i64.wrap ((x : Int).tdiv (y : Int)) = ((x / y : Nat) : Int) := by
  rw [<- Int.ofNat_tdiv];generalize x / y = z at *;exact wrap_small (by omega) (by omega)
 simp [go_sem, hp, hq, hy, e3];have e4 := Int.natCast_ediv x y;rw [<- e4];generalize x / y = z at *;exact wrap_small (by omega) (by omega)
theorem op_remI {w : World} {ops : Array Oper} {rest : List Oper} {o : Oper} {a : Act} {Q : Exit -> Act -> World -> Prop} (hg : o.guard = none) (p q : Operand) (ho : o.op = .binOp .rem 3 p q 3) {X Y : Int} (x y : Nat) (hx : x < 9223372036854775808) (hy : y ≠ 0)
 (hp : a.eval p = .int .i64 X) (hq : a.eval q = .int .i64 Y) (hX : X = (x : Int)) (hY : Y = (y : Int))
 (h : wpList Tryz.prog ops Q rest (a.put o.dst (.int .i64 ((x % y : Nat) : Int))) w) : wpList Tryz.prog ops Q (o :: rest) a w := by
 subst hX hY;exact op_of_run hg (run_remI _ _ p q ho x y hx hy hp hq) h
theorem op_quoI {w : World} {ops : Array Oper} {rest : List Oper} {o : Oper} {a : Act} {Q : Exit -> Act -> World -> Prop} (hg : o.guard = none) (p q : Operand) (ho : o.op = .binOp .quo 3 p q 3) {X Y : Int} (x y : Nat) (hx : x < 9223372036854775808) (hy : y ≠ 0)
 (hp : a.eval p = .int .i64 X) (hq : a.eval q = .int .i64 Y) (hX : X = (x : Int)) (hY : Y = (y : Int))
 (h : wpList Tryz.prog ops Q rest (a.put o.dst (.int .i64 ((x / y : Nat) : Int))) w) : wpList Tryz.prog ops Q (o :: rest) a w := by
 subst hX hY;exact op_of_run hg (run_quoI _ _ p q ho x y hx hy hp hq) h
set_option maxHeartbeats 1000000 in
theorem RLeast01_c (ao : Option Addr) (len cap : Nat) (ws : List Nat) (w : World) (hA : WAt w ao ws) (hl : len = ws.length) (hm : len <= 8796093022208) :
 Calls Tryz.prog 100 #[.slice ao len cap] w fun e w' => (∃ ao' cap', e = .returned (.slice ao' (wlen (nval ws)) cap') /\ OwnW w' w.heap.size ao' (wlen (nval ws)) cap' (dig (nval ws))) /\ Below w.heap.size w w' := by
 have HSp := Lib.hid (RSplit_c ao len cap ws w hA hl hm);clear hA hl;go_enter Tryz.func100, Tryz.ntmps100;go_wp2_with fail
 refine HSp.out.mono ?_;rintro e w2 ⟨⟨b, ds, rfl, hb, hH, hD, hdl, _⟩, hb2⟩;have hj := RJoin_c (some ⟨b, 0, none⟩) ds.length (4 * len) ds w2 hD hH.ok rfl hdl (by omega);rw [hH.val] at hj;have HJ := Lib.hid hj; clear hj hH hD;have HB2 := Lib.hid hb2; clear hb2;go_wp2_with fail
 refine HJ.out.mono ?_;rintro e w3 ⟨⟨ao', cap', rfl, hO⟩, hb3⟩;have HO := Lib.hid (hO.mono HB2.out.size);have HB3 := Lib.hid (HB2.out.trans (hb3.mono HB2.out.size));clear hO hb3;go_wp2;go_ret;exact ⟨⟨ao', cap', rfl, HO.out⟩, HB3.out⟩
theorem gw_out {l : List Nat} {i : Nat} (h : l.length <= i) : gw l i = 0 := by
 unfold gw; rw [List.getD_eq_getElem?_getD, List.getElem?_eq_none h]; rfl
set_option maxHeartbeats 1000000 in
theorem RAt_c (ao : Option Addr) (len cap : Nat) (ds : List Nat) (i : Nat) (w : World) (hA : DAt w ao ds) (hl : len = ds.length) (hm : len <= 35184372088832) (hi : i <= 35184372088832) :
 Calls Tryz.prog 120 #[.slice ao len cap, .int .i64 (i : Int)] w fun e w' => e = .returned (.int .i64 ((gw ds i : Nat) : Int)) /\ w' = w := by
 subst hl;have HA := Lib.hid hA; clear hA;go_enter Tryz.func120, Tryz.ntmps120;by_cases h : ds.length <= i
 · rw [gw_out h];have h1 : (ds.length : Int) <= (i : Int) := by omega
   go_wp2;go_ret;exact ⟨rfl, rfl⟩
 · have h1 : ¬ (ds.length : Int) <= (i : Int) := by omega
   have h2 : (i : Int) < (ds.length : Int) := by omega
   obtain ⟨b, o, rfl, hb, hc⟩ := HA.out (by omega);have hcell := hc i (by omega);clear hc;go_wp2;go_ret;exact ⟨rfl, rfl⟩
set_option maxHeartbeats 2000000 in
theorem ROrder_c (aoA aoB : Option Addr) (lA cA lB cB n m : Nat) (xs ys : List Nat) (w : World) (hA : DAt w aoA xs) (hB : DAt w aoB ys) (hx : Hex n xs) (hy : Hex m ys) (hlA : lA = xs.length) (hlB : lB = ys.length) (hmA : lA <= 35184372088832) (hmB : lB <= 35184372088832) :
 Calls Tryz.prog 102 #[.slice aoA lA cA, .slice aoB lB cB] w fun e w' => e = .returned (.int .i64 (ncmp n m)) /\ Below w.heap.size w w' := by
 subst hlA hlB;have HX' := Lib.hid hx; clear hx;have HY' := Lib.hid hy; clear hy;have HA := Lib.hid hA; clear hA;have HB := Lib.hid hB; clear hB;by_cases hs : xs.length = ys.length
 · have hb : (((xs.length : Nat) : Int) != ((ys.length : Nat) : Int)) = false := by rw [hs]; simp
   have Hs := Lib.hid hs; clear hs;go_enter Tryz.func102, Tryz.ntmps102;go_wp2;go_loopw [5] (fun i wr => ∃ k : Nat, k <= xs.length /\ i = .int .i64 ((k : Int) - 1) /\ Hid (∀ j, k <= j -> gw xs j = gw ys j) /\ Below w.heap.size w wr) (fun i _ => (intOf i + 1).toNat)
   case atStart => exact ⟨xs.length, Nat.le_refl _, rfl, Lib.hid (fun j hj => by rw [gw_out hj, gw_out (by have := Hs.out; omega)]), Below.refl _ _⟩
   case round =>
    obtain ⟨k, hk, rfl, hag, hbl⟩ := hrel;by_cases h0 : 0 < k
    · have hk2 : k <= ys.length := by have := Hs.out; omega
      obtain ⟨b1, o1, rfl, hb1, hc1⟩ := (HA.out.below hbl) (by omega);obtain ⟨b2, o2, rfl, hb2, hc2⟩ := (HB.out.below hbl) (by omega);have e1 := hc1 (k - 1) (by omega);have e2 := hc2 (k - 1) (by omega);clear hc1 hc2;have i1 : (k : Int) - 1 < (xs.length : Int) := by omega
      have i2 : (k : Int) - 1 < (ys.length : Int) := by omega
      have i3 : (0 : Int) <= (k : Int) - 1 := by omega
      by_cases hlt : gw xs (k - 1) < gw ys (k - 1)
      · have t1 : decide (((gw xs (k - 1) : Nat) : Int) < ((gw ys (k - 1) : Nat) : Int)) = true := by simp; omega
        go_wp2
        go_quiet (fail)
        go_wp2;go_ret;refine ⟨ret_int (ncmp_lt ?_).symm, below_drewN hbl _⟩;rw [<- HX'.out.val, <- HY'.out.val];exact hval_lt_of HX'.out.ok Hs.out (k - 1) (by omega) (fun j hj => hag.out j (by omega)) hlt
      · have t1 : decide (((gw xs (k - 1) : Nat) : Int) < ((gw ys (k - 1) : Nat) : Int)) = false := by simp; omega
        by_cases hgt : gw ys (k - 1) < gw xs (k - 1)
        · have t2 : decide (((gw ys (k - 1) : Nat) : Int) < ((gw xs (k - 1) : Nat) : Int)) = true := by simp; omega
          go_wp2
          go_quiet (fail)
          go_wp2
          go_quiet (fail)
          go_wp2;go_ret;refine ⟨ret_int (ncmp_gt ?_).symm, below_drewN (below_drewN hbl _) _⟩;rw [<- HX'.out.val, <- HY'.out.val];exact hval_lt_of HY'.out.ok Hs.out.symm (k - 1) (by omega) (fun j hj => (hag.out j (by omega)).symm) hgt
        · have t2 : decide (((gw ys (k - 1) : Nat) : Int) < ((gw xs (k - 1) : Nat) : Int)) = false := by simp; omega
          go_wp2
          go_quiet (fail)
          go_wp2
          go_quiet (fail)
          go_wp2;go_roundw
          case rel => exact ⟨k - 1, by omega, by go_num, Lib.hid (fun j hj => by
           by_cases e : j = k - 1
           · subst e; omega
           · exact hag.out j (by omega)), below_drewN hbl _⟩
          case measure => simp [intOf]; omega
    · go_wp2;go_ret;refine ⟨ret_int (ncmp_eq ?_).symm, hbl⟩;rw [<- HX'.out.val, <- HY'.out.val];exact hval_eq_of Hs.out (fun j => hag.out j (by omega))
 · have hb : (((xs.length : Nat) : Int) != ((ys.length : Nat) : Int)) = true := by rw [bne_iff_ne]; omega
   by_cases hlt : xs.length < ys.length;all_goals
    go_enter Tryz.func102, Tryz.ntmps102;go_wp2;go_ret
   · exact ⟨ret_int (ncmp_lt (HX'.out.shorter HY'.out hlt)).symm, Below.refl _ _⟩
   · exact ⟨ret_int (ncmp_gt (HY'.out.shorter HX'.out (by omega))).symm, Below.refl _ _⟩
set_option maxHeartbeats 1000000 in
theorem RCmp01_c (aoA aoB : Option Addr) (lA cA lB cB : Nat) (xs ys : List Nat) (w : World) (hA : WAt w aoA xs) (hB : WAt w aoB ys) (hlA : lA = xs.length) (hlB : lB = ys.length) (hmA : lA <= 8796093022208) (hmB : lB <= 8796093022208) :
 Calls Tryz.prog 59 #[.slice aoA lA cA, .slice aoB lB cB] w fun e w' => e = .returned (.int .i64 (ncmp (nval xs) (nval ys))) /\ Below w.heap.size w w' := by
 have HS1 := Lib.hid (RSplit_c aoA lA cA xs w hA hlA hmA);have HB := Lib.hid hB; clear hB;have HlB := Lib.hid hlB; clear hlB;clear hA hlA;go_enter Tryz.func59, Tryz.ntmps59;go_wp2_with fail
 refine HS1.out.mono ?_;rintro e w2 ⟨⟨b, ds, rfl, hb, hH, hD, hdl, _⟩, hb2⟩;have HS2 := Lib.hid (RSplit_c aoB lB cB ys w2 (HB.out.below hb2) HlB.out hmB);have HH := Lib.hid hH; clear hH;have HD := Lib.hid hD; clear hD;have HB2 := Lib.hid hb2; clear hb2;go_wp2_with fail
 refine HS2.out.mono ?_;rintro e w3 ⟨⟨b', es, rfl, hb', hH', hD', hel, _⟩, hb3⟩;have HO := Lib.hid (ROrder_c (some ⟨b, 0, none⟩) (some ⟨b', 0, none⟩) ds.length (4 * lA) es.length (4 * lB) _ _ ds es w3 (HD.out.below hb3) hD' HH.out hH' rfl rfl (by omega) (by omega));have HB3 := Lib.hid (HB2.out.trans (hb3.mono HB2.out.size));clear hH' hD' hb3;go_wp2_with fail
 refine HO.out.mono ?_;rintro e w4 ⟨rfl, hb4⟩;have HB4 := Lib.hid (HB3.out.trans (hb4.mono HB3.out.size));clear hb4;go_wp2;go_ret;exact ⟨rfl, HB4.out⟩
theorem hval_set_succ {l : List Nat} {k v : Nat} (hk : k < l.length) : hval ((l.set k v).take (k + 1)) = hval (l.take k) + HX ^ k * v := by
 rw [hval_take_succ, List.take_set_of_le (Nat.le_refl _)];congr 1;unfold gw; simp [hk]
theorem RowAt.dat {w : World} {b : Nat} {ds : List Nat} (h : RowAt w b 3 (ds.map iv)) : DAt w (some ⟨b, 0, none⟩) ds := DAt.row (r := []) (by simpa using h)
theorem RowAt.setI {w : World} {b : Nat} {ds : List Nat} (h : RowAt w b 3 (ds.map iv)) (i v : Nat) : RowAt (w.setCell ⟨b, i, none⟩ (.int .i64 (v : Int))) b 3 ((ds.set i v).map iv) := by
 rw [<- map_iv_set]; exact h.set i _
theorem RowAt.getI {w : World} {b : Nat} {ds : List Nat} (h : RowAt w b 3 (ds.map iv)) {i : Nat} (hi : i < ds.length) : w.cell? ⟨b, i, none⟩ = some (.int .i64 ((gw ds i : Nat) : Int)) :=
 (h.cell i).trans (map_iv_get ds hi)
structure Two (w : World) (b1 b2 n m : Nat) (xs ys : List Nat) : Prop where
 h1 : Hex n xs
 h2 : Hex m ys
 d1 : DAt w (some ⟨b1, 0, none⟩) xs
 d2 : DAt w (some ⟨b2, 0, none⟩) ys
theorem Two.below {w w' : World} {b1 b2 n m : Nat} {xs ys : List Nat} (h : Two w b1 b2 n m xs ys) (hb : Below w.heap.size w w') : Two w' b1 b2 n m xs ys := ⟨h.h1, h.h2, h.d1.below hb, h.d2.below hb⟩
theorem DAt.other {w : World} {b g : Nat} {ds : List Nat} (h : DAt w (some ⟨b, 0, none⟩) ds) (hne : b ≠ g) (i : Nat) (v : Value) : DAt (w.setCell ⟨g, i, none⟩ v) (some ⟨b, 0, none⟩) ds := by
 intro hl;obtain ⟨b', o, e, hlt, hc⟩ := h hl;simp only [Option.some.injEq, Addr.mk.injEq, and_true] at e;obtain ⟨rfl, rfl⟩ := e;exact ⟨b, 0, rfl, by simpa using hlt, fun i hi => (World.cell?_setCell_far _ _ _ _ (fun e => hne e.symm)).trans (hc i hi)⟩
theorem Two.setI {w : World} {b1 b2 n m b : Nat} {xs ys cu : List Nat} (h : Two w b1 b2 n m xs ys) (_ : RowAt w b 3 (cu.map iv)) (hb : b1 < b /\ b2 < b) (i : Nat) (v : Value) : Two (w.setCell ⟨b, i, none⟩ v) b1 b2 n m xs ys :=
 ⟨h.h1, h.h2, h.d1.other (by omega) i v, h.d2.other (by omega) i v⟩
structure SumI (w : World) (b n i c : Nat) (xs ys cu : List Nat) (W' : World) : Prop where
 len : cu.length = n + 1
 ok : HOk cu
 c1 : c <= 1
 val : hval (cu.take i) + HX ^ i * c = hval (xs.take i) + hval (ys.take i)
 row : RowAt W' b 3 (cu.map iv)
 bel : Below w.heap.size w W'
set_option maxRecDepth 100000 in
set_option maxHeartbeats 4000000 in
theorem RAdd01_c (aoA aoB : Option Addr) (lA cA lB cB : Nat) (xs ys : List Nat) (w : World) (hA : WAt w aoA xs) (hB : WAt w aoB ys) (hlA : lA = xs.length) (hlB : lB = ys.length) (hmA : lA <= 1099511627776) (hmB : lB <= 1099511627776) :
 Calls Tryz.prog 73 #[.slice aoA lA cA, .slice aoB lB cB] w fun e w' => (∃ ao' cap', e = .returned (.slice ao' (wlen (nval xs + nval ys)) cap') /\ OwnW w' w.heap.size ao' (wlen (nval xs + nval ys)) cap' (dig (nval xs + nval ys))) /\ Below w.heap.size w w' := by
 have HS1 := Lib.hid (RSplit_c aoA lA cA xs w hA hlA (by omega));have HB := Lib.hid hB; clear hB;have HlB := Lib.hid hlB; clear hlB;clear hA hlA;go_enter Tryz.func73, Tryz.ntmps73;go_wp2_with fail
 refine HS1.out.mono ?_;rintro e w2 ⟨⟨b1, ds, rfl, hb1, hH, hD, hdl, hlt1⟩, hb2⟩;have HS2 := Lib.hid (RSplit_c aoB lB cB ys w2 (HB.out.below hb2) HlB.out (by omega));have HH := Lib.hid hH; clear hH;have HD := Lib.hid hD; clear hD;have HB2 := Lib.hid hb2; clear hb2;go_wp2_with fail
 refine HS2.out.mono ?_;rintro e w3 ⟨⟨b2, es, rfl, hb', hH', hD', hel, hlt2⟩, hb3⟩;have HT : Hid (Two w3 b1 b2 (nval xs) (nval ys) ds es) := Lib.hid ⟨HH.out, hH', HD.out.below hb3, hD'⟩;have HB3 := Lib.hid (HB2.out.trans (hb3.mono HB2.out.size));have hTB : b1 < w3.heap.size /\ b2 < w3.heap.size := ⟨Nat.lt_of_lt_of_le hlt1 hb3.size, hlt2⟩;clear hH' hD' hb3 HH HD HB2 HS1 HS2 hb1 hb' hlt1 hlt2;have HTB := Lib.hid hTB; clear hTB;by_cases hcmp : (ds.length : Int) < (es.length : Int)
 · have hv1 : hval (ds.take es.length) = nval xs := by rw [List.take_of_length_le (by omega), HT.out.h1.val]
   have hv2 : hval (es.take es.length) = nval ys := by rw [List.take_of_length_le (by omega), HT.out.h2.val]
   have HV := Lib.hid (And.intro hv1 hv2); clear hv1 hv2;go_wp2_with (at_make; refine mk_ints rfl _ _ rfl (es.length + 1) (es.length + 1) rfl rfl (by omega) (by omega) (Nat.le_refl _) (by omega) ?_; intro b w4 hm4)
   have hbg : w.heap.size <= b := by have := hm4.at_; have := HB3.out.size; omega
   have hbb : b1 < b /\ b2 < b := by have := hm4.at_; have := HTB.out; omega
   have HI : Hid (SumI w b es.length 0 0 ds es (List.replicate (es.length + 1) 0) w4) := Lib.hid ⟨by simp, HOk.replicate _, by omega, by simp [hval], hm4.row, HB3.out.trans (hm4.below.mono HB3.out.size)⟩;have HT4 := Lib.hid (HT.out.below hm4.below);clear hm4 HT hcmp;go_loopw [9, 10] (fun c_ i_ wr => ∃ (i c : Nat) (cu : List Nat), i <= es.length /\ i_ = .int .i64 (i : Int) /\ c_ = .int .i64 (c : Int) /\ Hid (SumI w b es.length i c ds es cu wr) /\ Hid (Two wr b1 b2 (nval xs) (nval ys) ds es)) (fun _ i_ _ => es.length - (intOf i_).toNat)
   case atStart => exact ⟨0, 0, _, Nat.zero_le _, rfl, rfl, HI, HT4⟩
   case round =>
    obtain ⟨i, c, cu, hi, rfl, rfl, hI, hT⟩ := hrel;by_cases hin : i < es.length
    · have hin1 : (i : Int) < (es.length : Int) := by omega
      have hA1 := Lib.hid (RAt_c (some ⟨b1, 0, none⟩) ds.length (4 * lA) ds i wr hT.out.d1 rfl (by omega) (by omega));have hA2 := Lib.hid (RAt_c (some ⟨b2, 0, none⟩) es.length (4 * lB) es i wr hT.out.d2 rfl (by omega) (by omega));have hx := hT.out.h1.ok.gw_ i;have hy := hT.out.h2.ok.gw_ i;have hv := hval_take_succ ds i;have hv' := hval_take_succ es i;obtain ⟨x, hxe⟩ : ∃ x, gw ds i = x := ⟨_, rfl⟩;obtain ⟨y, hye⟩ : ∃ y, gw es i = y := ⟨_, rfl⟩;rw [hxe] at hx hv hA1;rw [hye] at hy hv' hA2;have hc := hI.out.c1;have hxb : x <= 65535 := by unfold HX at hx; omega
      have hyb : y <= 65535 := by unfold HX at hy; omega
      have HVV := Lib.hid (And.intro hv hv');clear hx hy hv hv' hxe hye;obtain ⟨s, hs⟩ : ∃ s, x + y + c = s := ⟨_, rfl⟩;have hsb : s <= 131071 := by omega
      have hsi : (x : Int) + (y : Int) + (c : Int) = (s : Int) := by omega
      have HSI := Lib.hid hsi; clear hsi;have HSS := Lib.hid hs; clear hs;have g0 := hI.out.row.getI (i := i) (by rw [hI.out.len]; omega);have f0 := hI.out.row.free i;go_wp2_with fail
      refine hA1.out.mono ?_;rintro e w' ⟨rfl, rfl⟩;go_wp2_with fail
      refine hA2.out.mono ?_;rintro e w' ⟨rfl, rfl⟩;go_wp2_with (first
       | (with_reducible show wpList _ _ _ (⟨some 44, _, _, _, _, _⟩ :: _) _ _; refine op_remI rfl _ _ rfl s 65536 (by omega) (by omega) rfl rfl HSI.out rfl ?_)
       | (with_reducible show wpList _ _ _ (⟨some 47, _, _, _, _, _⟩ :: _) _ _; refine op_quoI rfl _ _ rfl s 65536 (by omega) (by omega) rfl rfl HSI.out rfl ?_))
      go_roundw
      case rel =>
       have hI' := hI.out;refine ⟨i + 1, s / 65536, cu.set i (s % 65536), by omega, by go_num, rfl, Lib.hid ⟨by rw [List.length_set]; exact hI'.len, hI'.ok.set _ _ (by unfold HX; omega), by omega, ?_, hI'.row.setI i _, hI'.bel.setCell (p := ⟨b, i, none⟩) hbg _⟩, Lib.hid (hT.out.setI hI'.row hbb i _)⟩;rw [hval_set_succ (by rw [hI'.len]; omega), HVV.out.1, HVV.out.2];have e1 := hI'.val;have e2 : HX ^ (i + 1) * (s / 65536) = HX ^ i * (65536 * (s / 65536)) := by rw [Nat.pow_succ, Nat.mul_assoc]; rfl
       have e3 : HX ^ i * (s % 65536) + HX ^ i * (65536 * (s / 65536)) = HX ^ i * s := by
        rw [<- Nat.mul_add, Nat.mod_add_div]
       have e4 : HX ^ i * s = HX ^ i * x + HX ^ i * y + HX ^ i * c := by rw [<- HSS.out, Nat.mul_add, Nat.mul_add]
       omega
      case measure => simp [intOf]; omega
    · obtain rfl : i = es.length := by omega
      have hI' := hI.out;have g0 := hI'.row.getI (i := es.length) (by rw [hI'.len]; omega);have f0 := hI'.row.free es.length;have hfin : hval (cu.set es.length c) = nval xs + nval ys := by
       have h1 := hval_set_succ (l := cu) (k := es.length) (v := c) (by rw [hI'.len]; omega);rw [List.take_of_length_le (by rw [List.length_set, hI'.len]; exact Nat.le_refl _)] at h1;rw [h1, hI'.val, HV.out.1, HV.out.2]
      have hrow := hI'.row.setI es.length c;have hbl := hI'.bel.setCell (p := ⟨b, es.length, none⟩) hbg (.int .i64 (c : Int));have hj := RJoin_c (some ⟨b, 0, none⟩) (es.length + 1) (es.length + 1) (cu.set es.length c) _ hrow.dat (hI'.ok.set _ _ (by have := hI'.c1; unfold HX; omega)) (by rw [List.length_set, hI'.len]) (Nat.le_refl _) (by omega);rw [hfin] at hj;have HJ := Lib.hid hj;have HBL := Lib.hid hbl;clear hj hbl hrow hfin hI' hi hin;go_wp2_with fail
      refine HJ.out.mono ?_;rintro e w9 ⟨⟨ao', cap', rfl, hO⟩, hb9⟩;have HO := Lib.hid (hO.mono HBL.out.size);have HB9 := Lib.hid (HBL.out.trans (hb9.mono HBL.out.size));clear hO hb9;go_wp2;go_ret;exact ⟨⟨ao', cap', rfl, HO.out⟩, HB9.out⟩
 · have hv1 : hval (ds.take ds.length) = nval xs := by rw [List.take_of_length_le (by omega), HT.out.h1.val]
   have hv2 : hval (es.take ds.length) = nval ys := by rw [List.take_of_length_le (by omega), HT.out.h2.val]
   have HV := Lib.hid (And.intro hv1 hv2); clear hv1 hv2;go_wp2_with (at_make; refine mk_ints rfl _ _ rfl (ds.length + 1) (ds.length + 1) rfl rfl (by omega) (by omega) (Nat.le_refl _) (by omega) ?_; intro b w4 hm4)
   have hbg : w.heap.size <= b := by have := hm4.at_; have := HB3.out.size; omega
   have hbb : b1 < b /\ b2 < b := by have := hm4.at_; have := HTB.out; omega
   have HI : Hid (SumI w b ds.length 0 0 ds es (List.replicate (ds.length + 1) 0) w4) := Lib.hid ⟨by simp, HOk.replicate _, by omega, by simp [hval], hm4.row, HB3.out.trans (hm4.below.mono HB3.out.size)⟩;have HT4 := Lib.hid (HT.out.below hm4.below);clear hm4 HT hcmp;go_loopw [9, 10] (fun c_ i_ wr => ∃ (i c : Nat) (cu : List Nat), i <= ds.length /\ i_ = .int .i64 (i : Int) /\ c_ = .int .i64 (c : Int) /\ Hid (SumI w b ds.length i c ds es cu wr) /\ Hid (Two wr b1 b2 (nval xs) (nval ys) ds es)) (fun _ i_ _ => ds.length - (intOf i_).toNat)
   case atStart => exact ⟨0, 0, _, Nat.zero_le _, rfl, rfl, HI, HT4⟩
   case round =>
    obtain ⟨i, c, cu, hi, rfl, rfl, hI, hT⟩ := hrel;by_cases hin : i < ds.length
    · have hin1 : (i : Int) < (ds.length : Int) := by omega
      have hA1 := Lib.hid (RAt_c (some ⟨b1, 0, none⟩) ds.length (4 * lA) ds i wr hT.out.d1 rfl (by omega) (by omega));have hA2 := Lib.hid (RAt_c (some ⟨b2, 0, none⟩) es.length (4 * lB) es i wr hT.out.d2 rfl (by omega) (by omega));have hx := hT.out.h1.ok.gw_ i;have hy := hT.out.h2.ok.gw_ i;have hv := hval_take_succ ds i;have hv' := hval_take_succ es i;obtain ⟨x, hxe⟩ : ∃ x, gw ds i = x := ⟨_, rfl⟩;obtain ⟨y, hye⟩ : ∃ y, gw es i = y := ⟨_, rfl⟩;rw [hxe] at hx hv hA1;rw [hye] at hy hv' hA2;have hc := hI.out.c1;have hxb : x <= 65535 := by unfold HX at hx; omega
      have hyb : y <= 65535 := by unfold HX at hy; omega
      have HVV := Lib.hid (And.intro hv hv');clear hx hy hv hv' hxe hye;obtain ⟨s, hs⟩ : ∃ s, x + y + c = s := ⟨_, rfl⟩;have hsb : s <= 131071 := by omega
      have hsi : (x : Int) + (y : Int) + (c : Int) = (s : Int) := by omega
      have HSI := Lib.hid hsi; clear hsi;have HSS := Lib.hid hs; clear hs;have g0 := hI.out.row.getI (i := i) (by rw [hI.out.len]; omega);have f0 := hI.out.row.free i;go_wp2_with fail
      refine hA1.out.mono ?_;rintro e w' ⟨rfl, rfl⟩;go_wp2_with fail
      refine hA2.out.mono ?_;rintro e w' ⟨rfl, rfl⟩;go_wp2_with (first
       | (with_reducible show wpList _ _ _ (⟨some 44, _, _, _, _, _⟩ :: _) _ _; refine op_remI rfl _ _ rfl s 65536 (by omega) (by omega) rfl rfl HSI.out rfl ?_)
       | (with_reducible show wpList _ _ _ (⟨some 47, _, _, _, _, _⟩ :: _) _ _; refine op_quoI rfl _ _ rfl s 65536 (by omega) (by omega) rfl rfl HSI.out rfl ?_))
      go_roundw
      case rel =>
       have hI' := hI.out;refine ⟨i + 1, s / 65536, cu.set i (s % 65536), by omega, by go_num, rfl, Lib.hid ⟨by rw [List.length_set]; exact hI'.len, hI'.ok.set _ _ (by unfold HX; omega), by omega, ?_, hI'.row.setI i _, hI'.bel.setCell (p := ⟨b, i, none⟩) hbg _⟩, Lib.hid (hT.out.setI hI'.row hbb i _)⟩;rw [hval_set_succ (by rw [hI'.len]; omega), HVV.out.1, HVV.out.2];have e1 := hI'.val;have e2 : HX ^ (i + 1) * (s / 65536) = HX ^ i * (65536 * (s / 65536)) := by rw [Nat.pow_succ, Nat.mul_assoc]; rfl
       have e3 : HX ^ i * (s % 65536) + HX ^ i * (65536 * (s / 65536)) = HX ^ i * s := by
        rw [<- Nat.mul_add, Nat.mod_add_div]
       have e4 : HX ^ i * s = HX ^ i * x + HX ^ i * y + HX ^ i * c := by rw [<- HSS.out, Nat.mul_add, Nat.mul_add]
       omega
      case measure => simp [intOf]; omega
    · obtain rfl : i = ds.length := by omega
      have hI' := hI.out;have g0 := hI'.row.getI (i := ds.length) (by rw [hI'.len]; omega);have f0 := hI'.row.free ds.length;have hfin : hval (cu.set ds.length c) = nval xs + nval ys := by
       have h1 := hval_set_succ (l := cu) (k := ds.length) (v := c) (by rw [hI'.len]; omega);rw [List.take_of_length_le (by rw [List.length_set, hI'.len]; exact Nat.le_refl _)] at h1;rw [h1, hI'.val, HV.out.1, HV.out.2]
      have hrow := hI'.row.setI ds.length c;have hbl := hI'.bel.setCell (p := ⟨b, ds.length, none⟩) hbg (.int .i64 (c : Int));have hj := RJoin_c (some ⟨b, 0, none⟩) (ds.length + 1) (ds.length + 1) (cu.set ds.length c) _ hrow.dat (hI'.ok.set _ _ (by have := hI'.c1; unfold HX; omega)) (by rw [List.length_set, hI'.len]) (Nat.le_refl _) (by omega);rw [hfin] at hj;have HJ := Lib.hid hj;have HBL := Lib.hid hbl;clear hj hbl hrow hfin hI' hi hin;go_wp2_with fail
      refine HJ.out.mono ?_;rintro e w9 ⟨⟨ao', cap', rfl, hO⟩, hb9⟩;have HO := Lib.hid (hO.mono HBL.out.size);have HB9 := Lib.hid (HBL.out.trans (hb9.mono HBL.out.size));clear hO hb9;go_wp2;go_ret;exact ⟨⟨ao', cap', rfl, HO.out⟩, HB9.out⟩
structure DifI (w : World) (b i c : Nat) (xs ys cu : List Nat) (W' : World) : Prop where
 len : cu.length = xs.length
 ok : HOk cu
 c1 : c <= 1
 val : hval (cu.take i) + hval (ys.take i) = hval (xs.take i) + HX ^ i * c
 row : RowAt W' b 3 (cu.map iv)
 bel : Below w.heap.size w W'
set_option maxRecDepth 100000 in
set_option maxHeartbeats 4000000 in
theorem RSub01_c (aoA aoB : Option Addr) (lA cA lB cB : Nat) (xs ys : List Nat) (w : World) (hA : WAt w aoA xs) (hB : WAt w aoB ys) (hlA : lA = xs.length) (hlB : lB = ys.length) (hmA : lA <= 1099511627776) (hmB : lB <= 1099511627776) (hle : nval ys <= nval xs) :
 Calls Tryz.prog 74 #[.slice aoA lA cA, .slice aoB lB cB] w fun e w' => (∃ ao' cap', e = .returned (.tuple #[.slice ao' (wlen (nval xs - nval ys)) cap', .int .i64 0]) /\ OwnW w' w.heap.size ao' (wlen (nval xs - nval ys)) cap' (dig (nval xs - nval ys))) /\ Below w.heap.size w w' := by
 have HS1 := Lib.hid (RSplit_c aoA lA cA xs w hA hlA (by omega));have HB := Lib.hid hB; clear hB;have HlB := Lib.hid hlB; clear hlB;have HLE := Lib.hid hle; clear hle;clear hA hlA;go_enter Tryz.func74, Tryz.ntmps74;go_wp2_with fail
 refine HS1.out.mono ?_;rintro e w2 ⟨⟨b1, ds, rfl, hb1, hH, hD, hdl, hlt1⟩, hb2⟩;have HS2 := Lib.hid (RSplit_c aoB lB cB ys w2 (HB.out.below hb2) HlB.out (by omega));have HH := Lib.hid hH; clear hH;have HD := Lib.hid hD; clear hD;have HB2 := Lib.hid hb2; clear hb2;go_wp2_with fail
 refine HS2.out.mono ?_;rintro e w3 ⟨⟨b2, es, rfl, hb', hH', hD', hel, hlt2⟩, hb3⟩;have hT : Two w3 b1 b2 (nval xs) (nval ys) ds es := ⟨HH.out, hH', HD.out.below hb3, hD'⟩;have HO := Lib.hid (ROrder_c (some ⟨b1, 0, none⟩) (some ⟨b2, 0, none⟩) ds.length (4 * lA) es.length (4 * lB) _ _ ds es w3 hT.d1 hT.d2 hT.h1 hT.h2 rfl rfl (by omega) (by omega));have HT := Lib.hid hT;have HB3 := Lib.hid (HB2.out.trans (hb3.mono HB2.out.size));have hTB : b1 < w3.heap.size /\ b2 < w3.heap.size := ⟨Nat.lt_of_lt_of_le hlt1 hb3.size, hlt2⟩;have hes : es.length <= ds.length := by
  by_cases h : es.length <= ds.length
  · exact h
  · have := hT.h1.shorter hT.h2 (by omega);have := HLE.out; omega
 have hnc : 0 <= ncmp (nval xs) (nval ys) := by
  unfold ncmp; have := HLE.out;rw [if_neg (by omega)]; split <;> omega
 obtain ⟨cc, hcc⟩ : ∃ cc, ncmp (nval xs) (nval ys) = cc := ⟨_, rfl⟩;rw [hcc] at HO hnc;clear hH' hD' hb3 HH HD HB2 HS1 HS2 hb1 hb' hlt1 hlt2 hT hcc;go_wp2_with fail
 refine HO.out.mono ?_;rintro e w4 ⟨rfl, hb4⟩;have HT4 := Lib.hid (HT.out.below hb4);have HB4 := Lib.hid (HB3.out.trans (hb4.mono HB3.out.size));have hTB4 : b1 < w4.heap.size /\ b2 < w4.heap.size := by have := hb4.size; omega
 clear hb4 HT HB3 hTB HO;have hcc1 : ¬ cc < 0 := by omega
 go_wp2_with (at_make; refine mk_ints rfl _ _ rfl ds.length ds.length rfl rfl rfl rfl (Nat.le_refl _) (by omega) ?_; intro b w5 hm5)
 have hbg : w.heap.size <= b := by have := hm5.at_; have := HB4.out.size; omega
 have hbb : b1 < b /\ b2 < b := by have := hm5.at_; omega
 have HI : Hid (DifI w b 0 0 ds es (List.replicate ds.length 0) w5) := Lib.hid ⟨by simp, HOk.replicate _, by omega, by simp [hval], hm5.row, HB4.out.trans (hm5.below.mono HB4.out.size)⟩;have HT5 := Lib.hid (HT4.out.below hm5.below);clear hm5 HT4 HB4;go_loopw [9, 10] (fun c_ i_ wr => ∃ (i c : Nat) (cu : List Nat), i <= ds.length /\ i_ = .int .i64 (i : Int) /\ c_ = .int .i64 (c : Int) /\ Hid (DifI w b i c ds es cu wr) /\ Hid (Two wr b1 b2 (nval xs) (nval ys) ds es)) (fun _ i_ _ => ds.length - (intOf i_).toNat)
 case atStart => exact ⟨0, 0, _, Nat.zero_le _, rfl, rfl, HI, HT5⟩
 case round =>
  obtain ⟨i, c, cu, hi, rfl, rfl, hI, hT⟩ := hrel;by_cases hin : i < ds.length
  · have hin1 : (i : Int) < (ds.length : Int) := by omega
    have hA2 := fun m => RAt_c (some ⟨b2, 0, none⟩) es.length (4 * lB) es i (wr.drewN m) (DAt.below (w := wr) hT.out.d2 (below_drewN (Below.refl _ _) m)) rfl (by omega) (by omega);obtain ⟨b1', o1', e1', hlt1', hc1'⟩ := hT.out.d1 (by omega);simp only [Option.some.injEq, Addr.mk.injEq, and_true] at e1';obtain ⟨rfl, rfl⟩ := e1';have hcell := hc1' i hin;rw [Nat.zero_add] at hcell;have hx := hT.out.h1.ok.gw_ i;have hy := hT.out.h2.ok.gw_ i;have hv := hval_take_succ ds i;have hv' := hval_take_succ es i;obtain ⟨x, hxe⟩ : ∃ x, gw ds i = x := ⟨_, rfl⟩;obtain ⟨y, hye⟩ : ∃ y, gw es i = y := ⟨_, rfl⟩;rw [hxe] at hx hv hcell;rw [hye] at hy hv';have hA3 : ∀ m, Calls Tryz.prog 120 #[.slice (some ⟨b2, 0, none⟩) es.length (4 * lB), .int .i64 (i : Int)] (wr.drewN m) fun e w' => e = .returned (.int .i64 (y : Int)) /\ ∃ k, w' = (wr.drewN m).drewN k := fun m => by
     have := hA2 m;rw [hye] at this;exact this.mono (fun e w' h => ⟨h.1, 0, h.2⟩)
    have HA3 := Lib.hid hA3; clear hA2 hA3;have hc := hI.out.c1;have hxb : x <= 65535 := by unfold HX at hx; omega
    have hyb : y <= 65535 := by unfold HX at hy; omega
    have HVV := Lib.hid (And.intro hv hv');clear hx hy hv hv' hxe hye hc1';have g0 := hI.out.row.getI (i := i) (by rw [hI.out.len]; exact hin);have f0 := hI.out.row.free i;go_wp2
    go_quiet ((go_at_call 120; refine Calls.quiet_of (HA3.out _)))
    have hT2 := Two.below (w := wr) hT.out (below_drewN (Below.refl _ _) nq);have hI2 : DifI w b i c ds es cu (wr.drewN nq) := ⟨hI.out.len, hI.out.ok, hI.out.c1, hI.out.val, hI.out.row.below (below_drewN (Below.refl _ _) nq) hI.out.row.lt, below_drewN hI.out.bel nq⟩;generalize wr.drewN nq = w6 at *;have HT2 := Lib.hid hT2; clear hT2;have g0 := hI2.row.getI (i := i) (by rw [hI2.len]; exact hin);have f0 := hI2.row.free i;have HI2 := Lib.hid hI2; clear hI2;have fin : ∀ (z c' : Nat), z < HX -> c' <= 1 -> (z : Int) = (x : Int) - (y : Int) - (c : Int) + 65536 * (c' : Int) -> DifI w b (i + 1) c' ds es (cu.set i z) (w6.setCell ⟨b, i, none⟩ (.int .i64 (z : Int))) := by
     intro z c' hz hc' he;have hI' := HI2.out;refine ⟨by rw [List.length_set]; exact hI'.len, hI'.ok.set _ _ hz, hc', ?_, hI'.row.setI i _, hI'.bel.setCell (p := ⟨b, i, none⟩) hbg _⟩;rw [hval_set_succ (by rw [hI'.len]; exact hin), HVV.out.1, HVV.out.2];have e1 := hI'.val;have e2 : z + y + c = x + 65536 * c' := by omega
     have e3 : HX ^ (i + 1) * c' = HX ^ i * (65536 * c') := by rw [Nat.pow_succ, Nat.mul_assoc]; rfl
     have e4 : HX ^ i * z + HX ^ i * y + HX ^ i * c = HX ^ i * x + HX ^ i * (65536 * c') := by
      rw [<- Nat.mul_add, <- Nat.mul_add, <- Nat.mul_add, e2]
     omega
    have HF := Lib.hid fin; clear fin;by_cases hneg : (x : Int) - (y : Int) - (c : Int) < 0
    · have hsum : (x : Int) - (y : Int) - (c : Int) + 65536 = ((x + 65536 - y - c : Nat) : Int) := by omega
      obtain ⟨z, hz⟩ : ∃ z, x + 65536 - y - c = z := ⟨_, rfl⟩;rw [hz] at hsum;have hF := HF.out z 1 (by unfold HX; omega) (Nat.le_refl _) (by omega);have HF2 := Lib.hid hF; clear hF;have hzb : z <= 65535 := by omega
      have HSUM := Lib.hid hsum; clear hsum hz;go_wp2;go_roundw
      case rel =>
       have e5 := HSUM.out;refine ⟨i + 1, 1, cu.set i z, by omega, by go_num, rfl, Lib.hid ?_, Lib.hid (HT2.out.setI HI2.out.row hbb i _)⟩;rw [e5]; exact HF2.out
      case measure => simp [intOf]; omega
    · have hsum : (x : Int) - (y : Int) - (c : Int) = ((x - y - c : Nat) : Int) := by omega
      obtain ⟨z, hz⟩ : ∃ z, x - y - c = z := ⟨_, rfl⟩;rw [hz] at hsum;have hF := HF.out z 0 (by unfold HX; omega) (Nat.zero_le _) (by omega);have HF2 := Lib.hid hF; clear hF;have HSUM := Lib.hid hsum; clear hsum hz;go_wp2;go_roundw
      case rel =>
       have e5 := HSUM.out;refine ⟨i + 1, 0, cu.set i z, by omega, by go_num, rfl, Lib.hid ?_, Lib.hid (HT2.out.setI HI2.out.row hbb i _)⟩;rw [e5]; exact HF2.out
      case measure => simp [intOf]; omega
  · obtain rfl : i = ds.length := by omega
    have hI' := hI.out;have hfin : hval cu = nval xs - nval ys := by
     have h1 := hI'.val;rw [List.take_of_length_le (by rw [hI'.len]; exact Nat.le_refl _), List.take_of_length_le hes, List.take_length, hT.out.h1.val, hT.out.h2.val] at h1;have h2 := hval_lt hI'.ok;rw [hI'.len] at h2;have h3 := hI'.c1;have h4 := HLE.out;have h5 : c = 0 := by
      rcases Nat.eq_zero_or_pos c with h | h
      · exact h
      · obtain rfl : c = 1 := by omega
        omega
     subst h5;omega
    have hj := RJoin_c (some ⟨b, 0, none⟩) ds.length ds.length cu _ hI'.row.dat hI'.ok hI'.len.symm (Nat.le_refl _) (by omega);rw [hfin] at hj;have HJ := Lib.hid hj;have HBL := Lib.hid hI'.bel;clear hj hfin hI' hi hin;go_wp2_with fail
    refine HJ.out.mono ?_;rintro e w9 ⟨⟨ao', cap', rfl, hO⟩, hb9⟩;have HO := Lib.hid (hO.mono HBL.out.size);have HB9 := Lib.hid (HBL.out.trans (hb9.mono HBL.out.size));clear hO hb9;go_wp2;go_ret2;exact ⟨⟨ao', cap', rfl, HO.out⟩, HB9.out⟩
theorem RowI.put {w : World} {b N n : Nat} {D : List Nat} {W' : World} (h : RowI w b N D W') (hn : D.length = n) (hN : n + 1 <= N) (x : Nat) : RowI w b N (D ++ [x]) (W'.setCell ⟨b, n, none⟩ (.int .i64 (x : Int))) := by
 subst hn;refine ⟨?_, h.bel.setCell (p := ⟨b, D.length, none⟩) h.ge _, h.ge⟩;have e3 : (D.map iv ++ List.replicate (N - D.length) (iv 0)).set D.length (.int .i64 (x : Int)) = (D ++ [x]).map iv ++ List.replicate (N - (D ++ [x]).length) (iv 0) := by
  obtain ⟨q, hq⟩ : ∃ q, N - D.length = q + 1 := ⟨N - D.length - 1, by omega⟩;have hq2 : N - (D ++ [x]).length = q := by simp; omega
  rw [hq, hq2, List.replicate_succ, List.set_append_right _ _ (by simp)];simp [iv]
 rw [<- e3]; exact h.row.set D.length (.int .i64 (x : Int))
theorem RowI.at0 {w : World} {b N n : Nat} {D : List Nat} {W' : World} (h : RowI w b N D W') (hn : D.length = n) (hN : n + 1 <= N) : W'.cell? ⟨b, n, none⟩ = some (.int .i64 0) := by
 subst hn;rw [h.row.cell, List.getElem?_append_right (by simp)];have : 0 < N - D.length := by omega
 simp [iv, this]
set_option maxRecDepth 100000 in
set_option maxHeartbeats 4000000 in
theorem RDigits_c (ao : Option Addr) (len cap : Nat) (ws : List Nat) (w : World) (hA : WAt w ao ws) (hl : len = ws.length) (hm : len <= 8796093022208) :
 Calls Tryz.prog 98 #[.slice ao len cap] w fun e w' => (∃ b ds, e = .returned (.slice (some ⟨b, 0, none⟩) ds.length (4 * len)) /\ w.heap.size <= b /\ Hex (nval ws) ds /\ DAt w' (some ⟨b, 0, none⟩) ds /\ ds.length <= 4 * len /\ b < w'.heap.size) /\ Below w.heap.size w w' := by
 subst hl;have HA := Lib.hid hA; clear hA;have hw4 : IntKind.i64.wrap (4 * (ws.length : Int)) = ((4 * ws.length : Nat) : Int) := by rw [wrap_small] <;> omega
 go_enter Tryz.func98, Tryz.ntmps98;go_wp2_with (at_make; refine mk_ints rfl _ _ rfl (4 * ws.length) (4 * ws.length) rfl rfl (by omega) (by omega) (Nat.le_refl _) (by omega) ?_; intro b w1 hm1)
 have hI : RowI w b (4 * ws.length) [] w1 := ⟨by have := hm1.row; rw [List.map_replicate] at this; simpa using this, hm1.below, by have := hm1.at_; omega⟩;have HI := Lib.hid hI; clear hI hm1;clear hw4;go_loopw [4] (fun i_ wr => ∃ (i : Nat), i <= ws.length /\ i_ = .int .i64 (i : Int) /\ Hid (RowI w b (4 * ws.length) (spl (ws.take i)) wr)) (fun i_ _ => ws.length - (intOf i_).toNat)
 case atStart => exact ⟨0, Nat.zero_le _, rfl, Lib.hid (by simpa [spl] using HI.out)⟩
 case round =>
  obtain ⟨i, hi, rfl, hIr⟩ := hrel;by_cases hin : i < ws.length
  · have hin1 : (i : Int) < (ws.length : Int) := by omega
    obtain ⟨ab, aoff, rfl, hab, hc⟩ := (HA.out.below hIr.out.bel).pos (by omega);have hcell := hc i hin;have hgwW := HA.out.ok.gw i;obtain ⟨x, hx⟩ : ∃ x, gw ws i = x := ⟨_, rfl⟩;rw [hx] at hcell hgwW;have Hx := Lib.hid hx; clear hx hc;go_wp2;go_loopw [5, 6] (fun x_ k_ wq => ∃ (k : Nat), k <= 4 /\ k_ = .int .i64 (k : Int) /\ x_ = .int .u64 ((x / HX ^ k : Nat) : Int) /\ Hid (RowI w b (4 * ws.length) (spl (ws.take i) ++ (sp4 x).take k) wq)) (fun _ k_ _ => 4 - (intOf k_).toNat)
    case atStart => exact ⟨0, by omega, rfl, by simp, Lib.hid (by simpa using hIr.out)⟩
    case round =>
     obtain ⟨k, hk, rfl, rfl, hIq⟩ := hrel;by_cases hk4 : k < 4
     · have hk41 : (k : Int) < 4 := by omega
       obtain ⟨y, hy⟩ : ∃ y, x / HX ^ k = y := ⟨_, rfl⟩;have hyW : y < W := by rw [<- hy]; exact Nat.lt_of_le_of_lt (Nat.div_le_self ..) hgwW
       have hlen : (spl (ws.take i) ++ (sp4 x).take k).length = 4 * i + k := by
        rw [List.length_append, spl_length, List.length_take, List.length_take, sp4_length, Nat.min_eq_left (by omega), Nat.min_eq_left (by omega)]
       have hroom : 4 * i + k + 1 <= 4 * ws.length := by omega
       have hnext : spl (ws.take i) ++ (sp4 x).take (k + 1) = (spl (ws.take i) ++ (sp4 x).take k) ++ [y % HX] := by
        have hd : (sp4 x).take (k + 1) = (sp4 x).take k ++ [y % HX] := by
         rw [<- hy];match k, hk4 with
         | 0, _ => simp [sp4]
         | 1, _ => simp [sp4, HX]
         | 2, _ => simp [sp4, HX, Nat.div_div_eq_div_mul]
         | 3, _ => simp [sp4, HX, Nat.div_div_eq_div_mul]
        rw [hd, List.append_assoc]
       have hdiv : x / HX ^ (k + 1) = y / HX := by rw [<- hy, Nat.div_div_eq_div_mul, Nat.pow_succ]
       rw [hy];generalize spl (ws.take i) ++ (sp4 x).take k = D at *;have HN := Lib.hid (And.intro hnext hdiv); clear hnext hdiv hy;have hr1 : remW y 65536 < 9223372036854775808 := Nat.lt_of_lt_of_le (Nat.mod_lt _ (by omega)) (by omega);have c0 := hIq.out.at0 hlen hroom;have f0 := hIq.out.row.free (4 * i + k);have HL := Lib.hid hlen; clear hlen;have hi1 : 4 * (i : Int) + (k : Int) < 4 * (ws.length : Int) := by omega
       go_wp2_with (first
        | (with_reducible show wpList _ _ _ (⟨some 32, _, _, _, _, _⟩ :: _) _ _; refine op_rem rfl _ _ rfl y 65536 hyW (by omega) rfl rfl rfl rfl ?_)
        | (with_reducible show wpList _ _ _ (⟨some 33, _, _, _, _, _⟩ :: _) _ _; refine op_of_run rfl (run_toI _ _ _ rfl (remW y 65536) hr1 rfl) ?_)
        | (with_reducible show wpList _ _ _ (⟨some 36, _, _, _, _, _⟩ :: _) _ _; refine op_quo rfl _ _ rfl y 65536 hyW (by omega) rfl rfl rfl rfl ?_))
       go_roundw
       case rel =>
        refine ⟨k + 1, by omega, by go_num, ?_, Lib.hid ?_⟩
        · rw [HN.out.2]; rfl
        · rw [HN.out.1]; exact hIq.out.put HL.out hroom (remW y 65536)
       case measure => simp [intOf]; omega
     · obtain rfl : k = 4 := by omega
       go_wp2;go_roundw
       case rel =>
        have h9 := hIq.out;refine ⟨i + 1, by omega, by go_num, Lib.hid ?_⟩;have e : spl (ws.take (i + 1)) = spl (ws.take i) ++ sp4 x := by
         rw [List.take_succ_eq_append_getElem hin];have : ws[i] = x := by rw [<- Hx.out]; simp [gw, hin]
         simp [spl, this]
        rw [e]; exact h9
       case measure => simp [intOf]; omega
  · obtain rfl : i = ws.length := by omega
    have hIe := hIr.out;rw [List.take_length] at hIe;have hval := spl_val HA.out.ok;have hlen := spl_length ws;have hH := Hex.of (spl_ok ws);rw [hval] at hH;have htl := tlen_le (spl ws);have HD := Lib.hid (show DAt wr (some ⟨b, 0, none⟩) (spl ws) from DAt.row hIe.row);have HH := Lib.hid (And.intro hH (And.intro hlen htl));have hlt := hIe.row.lt;obtain ⟨t, ht⟩ : ∃ t, tlen (spl ws) = t := ⟨_, rfl⟩;rw [ht] at HH;have hlen2 : t <= 4 * ws.length := by have := HH.out.2; omega
    have HTL := Lib.hid ht; clear ht;clear hH hval hlen htl hIe;go_wp2
    go_loop [7] (fun n_ => ∃ k : Nat, k <= 4 * ws.length /\ t <= k /\ n_ = .int .i64 k) (fun i => (intOf i).toNat)
    case atStart => exact ⟨4 * ws.length, by omega, by omega, by go_num⟩
    case round =>
     obtain ⟨k, hk, ht, rfl⟩ := hrel;by_cases h0 : 0 < k
     · obtain ⟨b', o', e', hb', hc'⟩ := HD.out (by rw [HH.out.2.1]; omega);simp only [Option.some.injEq, Addr.mk.injEq, and_true] at e';obtain ⟨rfl, rfl⟩ := e';have hcell := hc' (k - 1) (by rw [HH.out.2.1]; omega);rw [Nat.zero_add] at hcell;have hkb : (k : Int) - 1 < 4 * (ws.length : Int) := by omega
       by_cases hz : gw (spl ws) (k - 1) = 0
       · have hzb : (((gw (spl ws) (k - 1) : Nat) : Int) == 0) = true := by rw [hz]; rfl
         have hnk : t <= k - 1 := by
          rw [<- HTL.out];exact tlen_of_zeros (spl ws) (k - 1) (fun j hj => by
           by_cases hj' : j = k - 1
           · rw [hj']; exact hz
           · exact zero_of_tlen (spl ws) j (by have := HTL.out; omega))
         clear hz hc';go_wp2
         go_round
         case rel => exact ⟨k - 1, by omega, hnk, by go_num⟩
         case measure => simp [intOf]; omega
       · have hzb : (((gw (spl ws) (k - 1) : Nat) : Int) == 0) = false := by rw [beq_eq_false_iff_ne]; omega
         have h1 := lt_tlen (spl ws) (k - 1) hz;have hke : k = t := by have := HTL.out; omega
         clear hc' hz h1;subst hke;go_wp2;go_ret;have hl2 : ((spl ws).take k).length = k := by rw [List.length_take, Nat.min_eq_left HH.out.2.2]
         have hH := HH.out.1;refine ⟨⟨b, (spl ws).take k, ?_, hIr.out.ge, hH, HD.out.take _, by omega, hlt⟩, hIr.out.bel⟩;rw [hl2]; rfl
     · have hke : k = t := by omega
       subst hke;go_wp2;go_ret;have hl2 : ((spl ws).take k).length = k := by rw [List.length_take, Nat.min_eq_left HH.out.2.2]
       have hH := HH.out.1;refine ⟨⟨b, (spl ws).take k, ?_, hIr.out.ge, hH, HD.out.take _, by omega, hlt⟩, hIr.out.bel⟩;rw [hl2]; rfl
def pw (ds : List Nat) (j q : Nat) : Nat := hval ((ds.take (4 * q + 4)).drop (max j (4 * q)))
theorem hval_drop (l : List Nat) {j : Nat} (hj : j < l.length) : hval (l.drop j) = gw l j + HX * hval (l.drop (j + 1)) := by
 rw [List.drop_eq_getElem_cons hj, hval]; simp [gw, hj]
theorem pw_step {ds : List Nat} {j : Nat} (hj : j < ds.length) : pw ds j (j / 4) = gw ds j + HX * pw ds (j + 1) (j / 4) := by
 unfold pw;rw [Nat.max_eq_left (by omega), Nat.max_eq_left (by omega), hval_drop _ (by simp; omega), gw_tk (by omega)]
theorem pw_same {ds : List Nat} {j q : Nat} (h : q ≠ j / 4) : pw ds j q = pw ds (j + 1) q := by
 unfold pw;by_cases h1 : j < 4 * q
 · rw [Nat.max_eq_right (by omega), Nat.max_eq_right (by omega)]
 · rw [List.drop_of_length_le (by simp; omega), List.drop_of_length_le (by simp; omega)]
theorem pw_top {ds : List Nat} {q : Nat} : pw ds ds.length q = 0 := by
 unfold pw;rw [List.drop_of_length_le (by simp; omega)]; rfl
theorem pw_zero (ds : List Nat) (q : Nat) : pw ds 0 q = ch4 ds q := by
 unfold pw ch4;rw [Nat.max_eq_right (by omega), List.drop_take];congr 2; omega
theorem pwd_lt3 {ds : List Nat} (h : HOk ds) (j : Nat) : pw ds (j + 1) (j / 4) < HX ^ 3 := by
 unfold pw;refine Nat.lt_of_lt_of_le (hval_lt ((h.take _).drop _)) (Nat.pow_le_pow_right HX_pos ?_);rw [Nat.max_eq_left (by omega)];simp; omega
theorem pw_set {ds : List Nat} {j Q : Nat} (hj : j < ds.length) (hQ : j / 4 < Q) : ((List.range Q).map (pw ds (j + 1))).set (j / 4) (gw ds j + HX * pw ds (j + 1) (j / 4)) = (List.range Q).map (pw ds j) := by
 refine List.ext_getElem (by simp) fun q h1 h2 => ?_;rw [List.getElem_set];by_cases e : j / 4 = q
 · rw [if_pos e]; subst e; simp [pw_step hj]
 · rw [if_neg e]; simp [pw_same (fun h => e h.symm)]
set_option maxRecDepth 100000 in
set_option maxHeartbeats 4000000 in
theorem RWords_c (b0 len cap : Nat) (ds : List Nat) (w : World) (hA : RowAt w b0 3 (ds.map iv)) (hok : HOk ds) (hl : len = ds.length) (hm : len <= 70368744177664) :
 Calls Tryz.prog 99 #[.slice (some ⟨b0, 0, none⟩) len cap] w fun e w' => (∃ ao' cap', e = .returned (.slice ao' (wlen (hval ds)) cap') /\ OwnW w' w.heap.size ao' (wlen (hval ds)) cap' (dig (hval ds))) /\ Below w.heap.size w w' := by
 subst hl;have HA := Lib.hid hA; clear hA;have HO := Lib.hid hok; clear hok;obtain ⟨Q, hQ⟩ : ∃ Q, (ds.length + 3) / 4 = Q := ⟨_, rfl⟩;have hQd : ds.length <= 4 * Q := by omega
 have hQb : Q <= 17592186044417 := by omega
 have hdv : IntKind.i64.wrap (((ds.length : Int) + 3).tdiv 4) = (Q : Int) := by
  have e : ((ds.length : Int) + 3).tdiv 4 = (((ds.length + 3) / 4 : Nat) : Int) := by
   rw [show ((ds.length : Int) + 3) = ((ds.length + 3 : Nat) : Int) by omega];exact (Int.ofNat_tdiv (ds.length + 3) 4).symm
  rw [e, hQ]; exact wrap_small (by omega) (by omega)
 have HQ := Lib.hid hQ; clear hQ;go_enter Tryz.func99, Tryz.ntmps99;go_wp2_with (at_make; refine mk_words rfl _ _ rfl Q Q rfl rfl rfl rfl (Nat.le_refl _) (by omega) ?_; intro b w1 hm1)
 have hrow : RowAt w1 b 49 (((List.range Q).map (pw ds ds.length)).map wv) := by
  have e : (List.range Q).map (pw ds ds.length) = List.replicate Q 0 := by
   refine List.ext_getElem (by simp) fun q h1 h2 => by simp [pw_top]
  rw [e]; exact hm1.row
 have hbg : w.heap.size <= b /\ b0 < b := by have := hm1.at_; have := HA.out.lt; omega
 have HR := Lib.hid hrow; clear hrow;have HB := Lib.hid hm1.below;clear hm1 hdv;go_loopw [4] (fun i_ wr => ∃ (j : Nat), j <= ds.length /\ i_ = .int .i64 ((j : Int) - 1) /\ Hid (RowAt wr b 49 (((List.range Q).map (pw ds j)).map wv)) /\ Hid (Below w.heap.size w wr)) (fun i_ _ => (intOf i_ + 1).toNat)
 case atStart => exact ⟨ds.length, Nat.le_refl _, rfl, HR, HB⟩
 case round =>
  obtain ⟨j', hj, rfl, hR, hBl⟩ := hrel;rcases Nat.eq_zero_or_pos j' with h0 | h0
  · subst h0;have hL : (List.range Q).map (pw ds 0) = (List.range Q).map (ch4 ds) := List.map_congr_left (fun q _ => pw_zero ds q);have hR' := hR.out;rw [hL] at hR';have hv := nval_ch4 Q ds hQd;have hok := ch4_ok HO.out Q;obtain ⟨ls, hls⟩ : ∃ ls, (List.range Q).map (ch4 ds) = ls := ⟨_, rfl⟩;have hll : ls.length = Q := by rw [<- hls]; simp
    rw [hls] at hR' hv hok;have hdig := dig_nval hok;have htl := tlen_le ls;rw [hv] at hdig;have hwl : wlen (hval ds) = tlen ls := by unfold wlen; rw [hdig, List.length_take, Nat.min_eq_left htl]
    obtain ⟨t, ht⟩ : ∃ t, tlen ls = t := ⟨_, rfl⟩;have HT := Lib.hid ht;have HR2 := Lib.hid hR';have HOK := Lib.hid hok;have HD := Lib.hid hdig;rw [ht] at htl hwl;have HWL := Lib.hid hwl;have HLL := Lib.hid hll;have htQ : t <= Q := by omega
    clear hR' hok hdig ht htl hwl hll hv hls hL;go_wp2
    go_loop [5] (fun n_ => ∃ k : Nat, k <= Q /\ t <= k /\ n_ = .int .i64 k) (fun i => (intOf i).toNat)
    case atStart => exact ⟨Q, Nat.le_refl _, htQ, rfl⟩
    case round =>
     obtain ⟨k, hk, ht, rfl⟩ := hrel;by_cases h0 : 0 < k
     · have hcell := HR2.out.word (i := k - 1) (by rw [HLL.out]; omega);have hkb : (k : Int) - 1 < (Q : Int) := by omega
       by_cases hz : gw ls (k - 1) = 0
       · have hzb : (((gw ls (k - 1) : Nat) : Int) == 0) = true := by rw [hz]; rfl
         have hnk : t <= k - 1 := by
          rw [<- HT.out];exact tlen_of_zeros ls (k - 1) (fun j hj => by
           by_cases hj' : j = k - 1
           · rw [hj']; exact hz
           · exact zero_of_tlen ls j (by have := HT.out; omega))
         clear hz;go_wp2
         go_round
         case rel => exact ⟨k - 1, by omega, hnk, by go_num⟩
         case measure => simp [intOf]; omega
       · have hzb : (((gw ls (k - 1) : Nat) : Int) == 0) = false := by rw [beq_eq_false_iff_ne]; omega
         have h1 := lt_tlen ls (k - 1) hz;have hke : k = t := by have := HT.out; omega
         clear hz h1;subst hke;go_wp2;go_ret;rw [HWL.out];refine ⟨⟨some ⟨b, 0, none⟩, Q, rfl, ?_⟩, hBl.out⟩;have h1 := HR2.out.own (n := k) (B := w.heap.size) (cap := Q) HOK.out hbg.1 (by rw [HLL.out]; exact hk) HLL.out.symm (by unfold maxLen; omega);rw [HD.out, HT.out]; exact h1
     · have hke : k = t := by omega
       subst hke;go_wp2;go_ret;rw [HWL.out];refine ⟨⟨some ⟨b, 0, none⟩, Q, rfl, ?_⟩, hBl.out⟩;have h1 := HR2.out.own (n := k) (B := w.heap.size) (cap := Q) HOK.out hbg.1 (by rw [HLL.out]; exact hk) HLL.out.symm (by unfold maxLen; omega);rw [HD.out, HT.out]; exact h1
  · obtain ⟨j, rfl⟩ : ∃ j, j' = j + 1 := ⟨j' - 1, by omega⟩;have e1 : ((j + 1 : Nat) : Int) - 1 = (j : Int) := by omega
    rw [e1]; clear e1;have hpos : (0 : Int) <= (j : Int) := by omega
    have hjl : (j : Int) < (ds.length : Int) := by omega
    have hq : j / 4 < Q := by omega
    have hc := (HA.out.below hBl.out HA.out.lt).getI (i := j) (by omega);have hg := hR.out.word (i := j / 4) (by simp; exact hq);have hg2 : gw ((List.range Q).map (pw ds (j + 1))) (j / 4) = pw ds (j + 1) (j / 4) := by
     unfold gw; simp [hq]
    rw [hg2] at hg;have hset := pw_set (ds := ds) (j := j) (Q := Q) (by omega) hq;have hp3 := pwd_lt3 HO.out j;have hd := HO.out.gw_ j;obtain ⟨v, hv⟩ : ∃ v, pw ds (j + 1) (j / 4) = v := ⟨_, rfl⟩;obtain ⟨d, hde⟩ : ∃ d, gw ds j = d := ⟨_, rfl⟩;rw [hv] at hset hp3 hg;rw [hde] at hset hd hc;have hv3 : v <= 281474976710655 := by unfold HX at hp3; omega
    have hd3 : d <= 65535 := by unfold HX at hd; omega
    have hw1 : IntKind.u64.wrap ((v : Int) * 65536) = (v : Int) * 65536 := by rw [IntKind.wrap_u64]; omega
    have hw2 : IntKind.u64.wrap ((d : Int)) = (d : Int) := by rw [IntKind.wrap_u64]; omega
    have hw3 : IntKind.u64.wrap ((v : Int) * 65536 + (d : Int)) = (v : Int) * 65536 + (d : Int) := by rw [IntKind.wrap_u64]; omega
    have hf := hR.out.free (j / 4);have hjq : IntKind.i64.wrap ((j : Int) / 4) = (j : Int) / 4 := wrap_small (by omega) (by omega);have hqi : (j : Int) / 4 < (Q : Int) := by omega
    have hqp : 0 <= (j : Int) / 4 := by omega
    have hqn : ((j : Int) / 4).toNat = j / 4 := by omega
    have HS := Lib.hid hset; clear hset hg2 hv hde hp3 hd;go_wp2
    go_region
    go_wp2;go_roundw
    case rel =>
     refine ⟨j, by omega, by go_num, Lib.hid ?_, Lib.hid ?_⟩
     · have h9 := (hR.out.setWord (j / 4) (d + HX * v));rw [HS.out] at h9;have e : ((d + HX * v : Nat) : Int) = (v : Int) * 65536 + (d : Int) := by unfold HX; omega
       rw [e] at h9;exact h9
     · exact (hBl.out.setCell (p := ⟨b, j / 4, none⟩) hbg.1 _).drew
    case measure => simp only [intOf]; omega
structure MulI (w : World) (b i j c : Nat) (xs ys cu : List Nat) (W' : World) : Prop where
 len : cu.length = xs.length + ys.length
 ok : HOk cu
 c1 : c < HX
 val : hval cu + HX ^ (i + j) * c = hval (xs.take i) * hval ys + HX ^ i * (gw xs i * hval (ys.take j))
 hi : ∀ k, i + ys.length <= k -> gw cu k = 0
 row : RowAt W' b 3 (cu.map iv)
 bel : Below w.heap.size w W'
structure MulO (w : World) (b i : Nat) (xs ys cu : List Nat) (W' : World) : Prop where
 len : cu.length = xs.length + ys.length
 ok : HOk cu
 val : hval cu = hval (xs.take i) * hval ys
 hi : ∀ k, i + ys.length <= k -> gw cu k = 0
 row : RowAt W' b 3 (cu.map iv)
 bel : Below w.heap.size w W'
theorem gw_set {l : List Nat} {k v j : Nat} (hk : k < l.length) : gw (l.set k v) j = if j = k then v else gw l j := by
 unfold gw;rw [List.getD_eq_getElem?_getD, List.getElem?_set, List.getD_eq_getElem?_getD];by_cases h : k = j
 · subst h; simp [hk]
 · rw [if_neg h, if_neg (fun e => h e.symm)]
theorem hval_set_all {l : List Nat} {k v : Nat} (hk : k < l.length) : hval (l.set k v) + HX ^ k * gw l k = hval l + HX ^ k * v := by
 have h1 : l = l.take k ++ (gw l k :: l.drop (k + 1)) := by
  conv => lhs; rw [<- List.take_append_drop k l, List.drop_eq_getElem_cons hk]
  simp [gw, hk]
 have h2 : l.set k v = l.take k ++ (v :: l.drop (k + 1)) := by
  rw [List.set_eq_take_append_cons_drop]; simp [hk]
 have e1 : hval l = hval (l.take k) + HX ^ k * (gw l k + HX * hval (l.drop (k + 1))) := by
  conv => lhs; rw [h1]
  rw [hval_append, List.length_take, Nat.min_eq_left (by omega)]; rfl
 have e2 : hval (l.set k v) = hval (l.take k) + HX ^ k * (v + HX * hval (l.drop (k + 1))) := by
  rw [h2, hval_append, List.length_take, Nat.min_eq_left (by omega)]; rfl
 rw [e1, e2, Nat.mul_add, Nat.mul_add]; omega
theorem MulI.step {w : World} {b i j c : Nat} {xs ys cu : List Nat} {W' : World} (h : MulI w b i j c xs ys cu W') (hb : w.heap.size <= b) (hi : i < xs.length) (hj : j < ys.length) {s : Nat} (hs : s = gw cu (i + j) + gw xs i * gw ys j + c) (hc : s / 65536 < 65536) :
 MulI w b i (j + 1) (s / 65536) xs ys (cu.set (i + j) (s % 65536)) (W'.setCell ⟨b, i + j, none⟩ (.int .i64 ((s % 65536 : Nat) : Int))) := by
 have hl : i + j < cu.length := by rw [h.len]; omega
 refine ⟨by rw [List.length_set]; exact h.len, h.ok.set _ _ (by unfold HX; omega), by unfold HX; exact hc, ?_, fun k hk => ?_, h.row.setI _ _, h.bel.setCell (p := ⟨b, i + j, none⟩) hb _⟩
 · have e1 := hval_set_all (v := s % 65536) hl;have e2 := h.val;have e3 := hval_take_succ ys j;have e4 : HX ^ (i + (j + 1)) * (s / 65536) = HX ^ (i + j) * (65536 * (s / 65536)) := by rw [<- Nat.add_assoc, Nat.pow_succ, Nat.mul_assoc]; rfl
   have e5 : HX ^ (i + j) * (s % 65536) + HX ^ (i + j) * (65536 * (s / 65536)) = HX ^ (i + j) * s := by rw [<- Nat.mul_add, Nat.mod_add_div]
   have e6 : HX ^ (i + j) * s = HX ^ (i + j) * gw cu (i + j) + HX ^ (i + j) * (gw xs i * gw ys j) + HX ^ (i + j) * c := by rw [hs, Nat.mul_add, Nat.mul_add]
   have e7 : HX ^ i * (gw xs i * hval (ys.take (j + 1))) = HX ^ i * (gw xs i * hval (ys.take j)) + HX ^ (i + j) * (gw xs i * gw ys j) := by
    rw [e3, Nat.mul_add, Nat.mul_add, Nat.pow_add];have : HX ^ i * (gw xs i * (HX ^ j * gw ys j)) = HX ^ i * HX ^ j * (gw xs i * gw ys j) := by
     rw [Nat.mul_left_comm (gw xs i), Nat.mul_assoc]
    omega
   omega
 · rw [gw_set hl, if_neg (by omega)]; exact h.hi k hk
theorem MulI.last {w : World} {b i c : Nat} {xs ys cu : List Nat} {W' : World} (h : MulI w b i ys.length c xs ys cu W') (hb : w.heap.size <= b) (hi : i < xs.length) :
 MulO w b (i + 1) xs ys (cu.set (i + ys.length) c) (W'.setCell ⟨b, i + ys.length, none⟩ (.int .i64 (c : Int))) := by
 have hl : i + ys.length < cu.length := by rw [h.len]; omega
 refine ⟨by rw [List.length_set]; exact h.len, h.ok.set _ _ h.c1, ?_, fun k hk => ?_, h.row.setI _ _, h.bel.setCell (p := ⟨b, i + ys.length, none⟩) hb _⟩
 · have e1 := hval_set_all (v := c) hl;rw [h.hi (i + ys.length) (Nat.le_refl _), Nat.mul_zero, Nat.add_zero] at e1;have e2 := h.val;rw [List.take_length] at e2;rw [e1, e2, hval_take_succ, Nat.add_mul, Nat.mul_assoc]
 · rw [gw_set hl, if_neg (by omega)]; exact h.hi k (by omega)
theorem gw_replicate (n k : Nat) : gw (List.replicate n 0) k = 0 := by
 unfold gw;rw [List.getD_eq_getElem?_getD, List.getElem?_replicate];split <;> rfl
set_option maxRecDepth 100000 in
set_option maxHeartbeats 8000000 in
theorem RMul02_c (aoA aoB : Option Addr) (lA cA lB cB : Nat) (xs ys : List Nat) (w : World) (hA : WAt w aoA xs) (hB : WAt w aoB ys) (hlA : lA = xs.length) (hlB : lB = ys.length) (hmA : lA <= 1099511627776) (hmB : lB <= 1099511627776) :
 Calls Tryz.prog 57 #[.slice aoA lA cA, .slice aoB lB cB] w fun e w' => (∃ ao' cap', e = .returned (.slice ao' (wlen (nval xs * nval ys)) cap') /\ OwnW w' w.heap.size ao' (wlen (nval xs * nval ys)) cap' (dig (nval xs * nval ys))) /\ Below w.heap.size w w' := by
 have HS1 := Lib.hid (RDigits_c aoA lA cA xs w hA hlA (by omega));have HB := Lib.hid hB; clear hB;have HlB := Lib.hid hlB; clear hlB;clear hA hlA;go_enter Tryz.func57, Tryz.ntmps57;go_wp2_with fail
 refine HS1.out.mono ?_;rintro e w2 ⟨⟨b1, ds, rfl, hb1, hH, hD, hdl, hlt1⟩, hb2⟩;have HS2 := Lib.hid (RDigits_c aoB lB cB ys w2 (HB.out.below hb2) HlB.out (by omega));have HH := Lib.hid hH; clear hH;have HD := Lib.hid hD; clear hD;have HB2 := Lib.hid hb2; clear hb2;go_wp2_with fail
 refine HS2.out.mono ?_;rintro e w3 ⟨⟨b2, es, rfl, hb', hH', hD', hel, hlt2⟩, hb3⟩;have HT : Hid (Two w3 b1 b2 (nval xs) (nval ys) ds es) := Lib.hid ⟨HH.out, hH', HD.out.below hb3, hD'⟩;have HB3 := Lib.hid (HB2.out.trans (hb3.mono HB2.out.size));have hTB : b1 < w3.heap.size /\ b2 < w3.heap.size := ⟨Nat.lt_of_lt_of_le hlt1 hb3.size, hlt2⟩;clear hH' hD' hb3 HH HD HB2 HS1 HS2 hb1 hb' hlt1 hlt2;go_wp2_with (at_make; refine mk_ints rfl _ _ rfl (ds.length + es.length) (ds.length + es.length) rfl rfl (by omega) (by omega) (Nat.le_refl _) (by omega) ?_; intro b w4 hm4)
 have hbg : w.heap.size <= b := by have := hm4.at_; have := HB3.out.size; omega
 have hbb : b1 < b /\ b2 < b := by have := hm4.at_; omega
 have HI : Hid (MulO w b 0 ds es (List.replicate (ds.length + es.length) 0) w4) := Lib.hid ⟨by simp, HOk.replicate _, by simp [hval, hval_replicate], fun k _ => gw_replicate _ k, hm4.row, HB3.out.trans (hm4.below.mono HB3.out.size)⟩;have HT4 := Lib.hid (HT.out.below hm4.below);clear hm4 HT HB3 hTB;go_loopw [8] (fun i_ wr => ∃ (i : Nat) (cu : List Nat), i <= ds.length /\ i_ = .int .i64 (i : Int) /\ Hid (MulO w b i ds es cu wr) /\ Hid (Two wr b1 b2 (nval xs) (nval ys) ds es)) (fun i_ _ => ds.length - (intOf i_).toNat)
 case atStart => exact ⟨0, _, Nat.zero_le _, rfl, HI, HT4⟩
 case round =>
  obtain ⟨i, cu0, hi, rfl, hO, hT0⟩ := hrel;by_cases hin : i < ds.length
  · have hin1 : (i : Int) < (ds.length : Int) := by omega
    have HI0 : Hid (MulI w b i 0 0 ds es cu0 wr) := Lib.hid ⟨hO.out.len, hO.out.ok, by unfold HX; omega, by rw [hO.out.val]; simp [hval], hO.out.hi, hO.out.row, hO.out.bel⟩;clear hO;go_wp2;go_loopw [9, 10] (fun c_ j_ wq => ∃ (j c : Nat) (cu : List Nat), j <= es.length /\ j_ = .int .i64 (j : Int) /\ c_ = .int .i64 (c : Int) /\ Hid (MulI w b i j c ds es cu wq) /\ Hid (Two wq b1 b2 (nval xs) (nval ys) ds es)) (fun _ j_ _ => es.length - (intOf j_).toNat)
    case atStart => exact ⟨0, 0, _, Nat.zero_le _, rfl, rfl, HI0, hT0⟩
    case round =>
     obtain ⟨j, c, cu, hj, rfl, rfl, hI, hT⟩ := hrel;by_cases hjn : j < es.length
     · have hjn1 : (j : Int) < (es.length : Int) := by omega
       obtain ⟨b1', o1', e1', hlt1', hc1'⟩ := hT.out.d1 (by omega);simp only [Option.some.injEq, Addr.mk.injEq, and_true] at e1';obtain ⟨rfl, rfl⟩ := e1';have k1 := hc1' i hin;rw [Nat.zero_add] at k1;obtain ⟨b2', o2', e2', hlt2', hc2'⟩ := hT.out.d2 (by omega);simp only [Option.some.injEq, Addr.mk.injEq, and_true] at e2';obtain ⟨rfl, rfl⟩ := e2';have k2 := hc2' j hjn;rw [Nat.zero_add] at k2;have k3 := hI.out.row.getI (i := i + j) (by rw [hI.out.len]; omega);have hx := hT.out.h1.ok.gw_ i;have hy := hT.out.h2.ok.gw_ j;have hz := hI.out.ok.gw_ (i + j);have hcc := hI.out.c1;obtain ⟨x, hxe⟩ : ∃ x, gw ds i = x := ⟨_, rfl⟩;obtain ⟨y, hye⟩ : ∃ y, gw es j = y := ⟨_, rfl⟩;obtain ⟨z, hze⟩ : ∃ z, gw cu (i + j) = z := ⟨_, rfl⟩;rw [hxe] at hx k1;rw [hye] at hy k2;rw [hze] at hz k3;unfold HX at hx hy hz hcc;have hxy : x * y <= 65535 * 65535 := Nat.mul_le_mul (by omega) (by omega);obtain ⟨p, hp⟩ : ∃ p, x * y = p := ⟨_, rfl⟩;rw [hp] at hxy;obtain ⟨s, hs⟩ : ∃ s, z + p + c = s := ⟨_, rfl⟩;have hsb : s <= 4294967295 := by omega
       have HST := Lib.hid (show s = gw cu (i + j) + gw ds i * gw es j + c by rw [hxe, hye, hze, hp]; exact hs.symm);have hdb : s / 65536 < 65536 := by omega
       have hm1 : IntKind.i64.wrap ((x : Int) * (y : Int)) = (p : Int) := by
        rw [<- Int.natCast_mul, hp]; exact wrap_small (by omega) (by omega)
       have hm2 : IntKind.i64.wrap ((z : Int) + (p : Int)) = (z : Int) + (p : Int) := wrap_small (by omega) (by omega);have hm3 : IntKind.i64.wrap ((z : Int) + (p : Int) + (c : Int)) = (s : Int) := by
        rw [show (z : Int) + (p : Int) + (c : Int) = (s : Int) by omega]; exact wrap_small (by omega) (by omega)
       have hm4 : IntKind.i64.wrap ((i : Int) + (j : Int)) = (i : Int) + (j : Int) := wrap_small (by omega) (by omega);have hm5 : (i : Int) + (j : Int) < (ds.length : Int) + (es.length : Int) := by omega
       have hm6 : 0 <= (i : Int) + (j : Int) := by omega
       have hm7 : ((i : Int) + (j : Int)).toNat = i + j := by omega
       have f3 := hI.out.row.free (i + j);clear hs hp hxe hye hze hc1' hc2';go_wp2
       go_quiet (fail)
       have hT2 := Two.below (w := wr) hT.out (below_drewN (Below.refl _ _) nq);have hI2 : MulI w b i j c ds es cu (wr.drewN nq) := ⟨hI.out.len, hI.out.ok, hI.out.c1, hI.out.val, hI.out.hi, hI.out.row.below (below_drewN (Below.refl _ _) nq) hI.out.row.lt, below_drewN hI.out.bel nq⟩;generalize wr.drewN nq = w6 at *;have g3 := hI2.row.getI (i := i + j) (by rw [hI2.len]; omega);have g4 := hI2.row.free (i + j);have HN := Lib.hid (hI2.step hbg hin hjn HST.out hdb);have HT2 := Lib.hid (hT2.setI hI2.row hbb (i + j) (.int .i64 ((s % 65536 : Nat) : Int)));clear hT2 hI2 k1 k2 k3 f3;go_wp2_with (first
        | (with_reducible show wpList _ _ _ (⟨some 57, _, _, _, _, _⟩ :: _) _ _; refine op_remI rfl _ _ rfl s 65536 (by omega) (by omega) rfl rfl rfl rfl ?_)
        | (with_reducible show wpList _ _ _ (⟨some 60, _, _, _, _, _⟩ :: _) _ _; refine op_quoI rfl _ _ rfl s 65536 (by omega) (by omega) rfl rfl rfl rfl ?_))
       go_roundw
       case rel => exact ⟨j + 1, s / 65536, _, by omega, by go_num, rfl, HN, HT2⟩
       case measure => simp [intOf]; omega
     · obtain rfl : j = es.length := by omega
       have hm4 : IntKind.i64.wrap ((i : Int) + (es.length : Int)) = (i : Int) + (es.length : Int) := wrap_small (by omega) (by omega);have hm5 : (i : Int) + (es.length : Int) < (ds.length : Int) + (es.length : Int) := by omega
       have g3 := hI.out.row.getI (i := i + es.length) (by rw [hI.out.len]; omega);have g4 := hI.out.row.free (i + es.length);have HN := Lib.hid (hI.out.last hbg hin);have HT2 := Lib.hid (hT.out.setI hI.out.row hbb (i + es.length) (.int .i64 (c : Int)));go_wp2;go_roundw
       case rel => exact ⟨i + 1, _, by omega, by go_num, HN, HT2⟩
       case measure => simp [intOf]; omega
  · obtain rfl : i = ds.length := by omega
    have hO' := hO.out;have hfin : hval cu0 = nval xs * nval ys := by
     rw [hO'.val, List.take_length, hT0.out.h1.val, hT0.out.h2.val]
    have hj := RWords_c b (ds.length + es.length) (ds.length + es.length) cu0 _ hO'.row hO'.ok hO'.len.symm (by omega);rw [hfin] at hj;have HJ := Lib.hid hj;have HBL := Lib.hid hO'.bel;clear hj hfin hO' hi hin;go_wp2_with fail
    refine HJ.out.mono ?_;rintro e w9 ⟨⟨ao', cap', rfl, hO9⟩, hb9⟩;have HO := Lib.hid (hO9.mono HBL.out.size);have HB9 := Lib.hid (HBL.out.trans (hb9.mono HBL.out.size));clear hO9 hb9;go_wp2;go_ret;exact ⟨⟨ao', cap', rfl, HO.out⟩, HB9.out⟩
set_option maxRecDepth 100000 in
set_option maxHeartbeats 1000000 in
theorem RMade_c (n : Bool) (ao : Option Addr) (len cap : Nat) (ws : List Nat) (w : World) (hA : WAt w ao ws) (hl : len = ws.length) (hm : len <= 8796093022208) :
 Calls Tryz.prog 58 #[.bool n, .slice ao len cap] w fun e w' => (∃ v', e = .returned v' /\ OwnI w' w.heap.size v' (zi n (nval ws))) /\ Below w.heap.size w w' := by
 have hb1 : Below w.heap.size w (w.alloc (.cells #[.bool false, .slice none 0 0] 45)) := (Below.refl _ _).alloc (Nat.le_refl _) _;have hr1 := RowAt.new w #[.bool false, .slice none 0 0] 45;have hs1 : (w.alloc (.cells #[.bool false, .slice none 0 0] 45)).heap.size = w.heap.size + 1 := by simp
 have HL := Lib.hid (RLeast01_c ao len cap ws _ (hA.below hb1) hl hm);have HB1 := Lib.hid hb1; clear hb1;have HR1 := Lib.hid hr1; clear hr1;clear hA hl;go_enter Tryz.func58, Tryz.ntmps58;go_wp2_with fail
 generalize w.alloc (.cells #[.bool false, .slice none 0 0] 45) = w1 at *;refine HL.out.mono ?_;rintro e w2 ⟨⟨ao', cap', rfl, hO⟩, hb2⟩;have hr2 := HR1.out.below hb2 HR1.out.lt;have c0 := hr2.cell 0;have c1 := hr2.cell 1;have f0 := hr2.free 0;have f1 := hr2.free 1;have HR2 := Lib.hid hr2; clear hr2;have HO := Lib.hid hO; clear hO;have HB2 := Lib.hid (HB1.out.trans (hb2.mono HB1.out.size)); clear hb2;cases n;all_goals
  go_wp2;refine bodyPost_ret (results_int (p := 4) (by kernel_rfl) _ _ w.heap.size _ _ rfl (HR2.out.set2 _ _)) rfl ?_
 · refine ⟨⟨_, rfl, ?_⟩, (HB2.out.setCell (Nat.le_refl _) _).setCell (Nat.le_refl _) _⟩;have := OwnI.mk false ((HO.out.setOther (p := ⟨w.heap.size, 0, none⟩) (by show w.heap.size < w1.heap.size; omega) (.bool false)).setOther (p := ⟨w.heap.size, 1, none⟩) (by show w.heap.size < w1.heap.size; omega) (.slice ao' (wlen (nval ws)) cap'));exact this.mono (by omega)
 · refine ⟨⟨_, rfl, ?_⟩, (HB2.out.setCell (Nat.le_refl _) _).setCell (Nat.le_refl _) _⟩;have := OwnI.mk true ((HO.out.setOther (p := ⟨w.heap.size, 0, none⟩) (by show w.heap.size < w1.heap.size; omega) (.bool (decide (0 < wlen (nval ws))))).setOther (p := ⟨w.heap.size, 1, none⟩) (by show w.heap.size < w1.heap.size; omega) (.slice ao' (wlen (nval ws)) cap'));simpa using this.mono (by omega)
set_option maxRecDepth 100000 in
set_option maxHeartbeats 1000000 in
theorem RLeast_c (v : Value) (x : Int) (L : Nat) (w : World) (hA : IntAt w L v x) (hL : L <= 8796093022208) :
 Calls Tryz.prog 90 #[v] w fun e w' => (∃ v', e = .returned v' /\ OwnI w' w.heap.size v' x) /\ Below w.heap.size w w' := by
 obtain ⟨n, ao, len, cap, ws, rfl, hW, hl, hl2, hc, rfl⟩ := hA;obtain ⟨r1, r2, hb⟩ := two_new w #[.bool n, .slice ao len cap] #[.bool false, .slice none 0 0] 45 45;have HM := Lib.hid (RMade_c n ao len cap ws _ (hW.below hb) hl (by omega));have HR1 := Lib.hid r1; clear r1;have HR2 := Lib.hid r2; clear r2;have HB := Lib.hid hb; clear hb;have e0 := HR1.out.cell 0;have e1 := HR1.out.cell 1;clear hW hl hc;go_enter Tryz.func90, Tryz.ntmps90;go_wp2_with fail
 generalize (w.alloc (.cells #[.bool n, .slice ao len cap] 45)).alloc (.cells #[.bool false, .slice none 0 0] 45) = w2 at *;refine HM.out.mono ?_;rintro e w3 ⟨⟨v', rfl, hO⟩, hb3⟩;obtain ⟨pz, rfl⟩ := NumAt.parts hO.num;unfold av at *;have hr3 := HR2.out.below hb3 HR2.out.lt;have c0 := hr3.cell 0;have c1 := hr3.cell 1;have f0 := hr3.free 0;have f1 := hr3.free 1;have hs2 : w.heap.size + 1 < w2.heap.size := HR2.out.lt;have HR3 := Lib.hid hr3; clear hr3;have HO := Lib.hid hO; clear hO;have HB3 := Lib.hid (HB.out.trans (hb3.mono HB.out.size)); clear hb3 e0 e1;go_wp2;refine bodyPost_ret (results_int (p := 2) (by kernel_rfl) _ _ (w.heap.size + 1) _ _ rfl (HR3.out.set2 _ _)) rfl ?_;refine ⟨⟨_, rfl, ?_⟩, (HB3.out.setCell (Nat.le_succ _) _).setCell (Nat.le_succ _) _⟩;exact (OwnI.setRow2 HO.out HR3.out _ _).mono (by omega)
set_option maxRecDepth 100000 in
set_option maxHeartbeats 2000000 in
theorem RSign_c (v : Value) (x : Int) (L : Nat) (w : World) (h : IntAt w L v x) (hL : L <= 8796093022208) :
 Calls Tryz.prog 45 #[v] w fun e w' => e = .returned (.int .i64 (zsign x)) /\ Below w.heap.size w w' := by
 have hA := h;obtain ⟨n, ao, len, cap, ws, rfl, hW, hl, hk, hc, hx⟩ := h;have r1 := RowAt.new w #[.bool n, .slice ao len cap] 45;have hb : Below w.heap.size w (w.alloc (.cells #[.bool n, .slice ao len cap] 45)) := (Below.refl _ _).alloc (Nat.le_refl _) _;have HM := Lib.hid (RLeast_c _ x L _ (hA.below hb) hL);have HR1 := Lib.hid r1; clear r1;have HB := Lib.hid hb; clear hb;have e0 := HR1.out.cell 0;have e1 := HR1.out.cell 1;clear hW hl hc hA hx;go_enter Tryz.func45, Tryz.ntmps45;go_wp2_with fail
 generalize w.alloc (.cells #[.bool n, .slice ao len cap] 45) = w2 at *;refine HM.out.mono ?_;rintro e w3 ⟨⟨v', rfl, hO⟩, hb3⟩;obtain ⟨aoz, capz, rfl, hOz⟩ := hO;have hbz : Below w.heap.size w w3 := HB.out.trans (hb3.mono HB.out.size);have HBZ := Lib.hid hbz; clear hbz hb3 hOz e0 e1;rcases Int.lt_trichotomy x 0 with hx | hx | hx
 · have h1 : decide (x < 0) = true := by simpa using hx
   rw [h1];have HZ := Lib.hid (show zsign x = -1 by unfold zsign; rw [if_pos hx]);clear hx h1;go_wp2;go_ret;exact ⟨by rw [HZ.out]; rfl, HBZ.out.alloc HBZ.out.size _⟩
 · subst hx;have h1 : decide ((0 : Int) < 0) = false := rfl;have h2 : wlen (0 : Int).natAbs = 0 := wlen_zero;rw [h1, h2];have HZ := Lib.hid (show zsign 0 = 0 from rfl);clear h1 h2;go_wp2;go_ret;exact ⟨by rw [HZ.out]; rfl, HBZ.out.alloc HBZ.out.size _⟩
 · have h1 : decide (x < 0) = false := by simp; omega
   have h2 : wlen x.natAbs ≠ 0 := fun e => by have := wlen_eq_zero.1 e; omega
   rw [h1];have HZ := Lib.hid (show zsign x = 1 by unfold zsign; rw [if_neg (by omega), if_neg (by omega)]);obtain ⟨k, hk⟩ : ∃ k, wlen x.natAbs = k := ⟨_, rfl⟩;rw [hk] at h2 ⊢;have h3 : 0 < (k : Int) := by omega
   clear hx h1 hk;go_wp2;go_ret;exact ⟨by rw [HZ.out]; rfl, HBZ.out.alloc HBZ.out.size _⟩
set_option maxRecDepth 100000 in
set_option maxHeartbeats 2000000 in
theorem RCmpAbs_c (v u : Value) (x y : Int) (L : Nat) (w : World) (h1 : IntAt w L v x) (h2 : IntAt w L u y) (hL : L <= 1099511627776) :
 Calls Tryz.prog 23 #[v, u] w fun e w' => e = .returned (.int .i64 (ncmp x.natAbs y.natAbs)) /\ Below w.heap.size w w' := by
 obtain ⟨n1, ao1, len1, cap1, ws1, rfl, hW1, hl1, hk1, hc1, rfl⟩ := h1;obtain ⟨n2, ao2, len2, cap2, ws2, rfl, hW2, hl2, hk2, hc2, rfl⟩ := h2;rw [zi_abs, zi_abs];obtain ⟨r1, r2, hb⟩ := two_new w #[.bool n1, .slice ao1 len1 cap1] #[.bool n2, .slice ao2 len2 cap2] 45 45;have HM := Lib.hid (RCmp01_c ao1 ao2 len1 cap1 len2 cap2 ws1 ws2 _ (hW1.below hb) (hW2.below hb) hl1 hl2 (by omega) (by omega));have e10 := r1.cell 0;have e11 := r1.cell 1;have e20 := r2.cell 0;have e21 := r2.cell 1;have HB := Lib.hid hb; clear hb r1 r2;clear hW1 hl1 hc1 hW2 hl2 hc2;go_enter Tryz.func23, Tryz.ntmps23;go_wp2_with fail
 generalize (w.alloc (.cells #[.bool n1, .slice ao1 len1 cap1] 45)).alloc (.cells #[.bool n2, .slice ao2 len2 cap2] 45) = w2 at *;refine HM.out.mono ?_;rintro e w3 ⟨rfl, hb3⟩;have HB3 := Lib.hid (HB.out.trans (hb3.mono HB.out.size)); clear hb3 e10 e11 e20 e21;go_wp2;go_ret;exact ⟨rfl, HB3.out⟩
set_option maxRecDepth 100000 in
set_option maxHeartbeats 2000000 in
theorem RCmp_c (v u : Value) (x y : Int) (L : Nat) (w : World) (h1 : IntAt w L v x) (h2 : IntAt w L u y) (hL : L <= 1099511627776) :
 Calls Tryz.prog 34 #[v, u] w fun e w' => e = .returned (.int .i64 (zcmp x y)) /\ Below w.heap.size w w' := by
 have hA1 := h1;have hA2 := h2;obtain ⟨n1, ao1, len1, cap1, ws1, rfl, hW1, hl1, hk1, hc1, hx1⟩ := h1;obtain ⟨n2, ao2, len2, cap2, ws2, rfl, hW2, hl2, hk2, hc2, hx2⟩ := h2;clear hW1 hl1 hc1 hW2 hl2 hc2 hx1 hx2 hk1 hk2;obtain ⟨r1, r2, hb⟩ := two_new w #[.bool n1, .slice ao1 len1 cap1] #[.bool n2, .slice ao2 len2 cap2] 45 45;have HM := Lib.hid (RSign_c _ x L _ (hA1.below hb) (by omega));have e10 := r1.cell 0;have e11 := r1.cell 1;have e20 := r2.cell 0;have e21 := r2.cell 1;have R1 := Lib.hid r1; clear r1;have R2 := Lib.hid r2; clear r2;have H1 := Lib.hid (hA1.below hb); clear hA1;have H2 := Lib.hid (hA2.below hb); clear hA2;have HB := Lib.hid hb; clear hb;go_enter Tryz.func34, Tryz.ntmps34;go_wp2_with fail
 generalize (w.alloc (.cells #[.bool n1, .slice ao1 len1 cap1] 45)).alloc (.cells #[.bool n2, .slice ao2 len2 cap2] 45) = w2 at *;refine HM.out.mono ?_;rintro e w3 ⟨rfl, hb3⟩;have HM2 := Lib.hid (RSign_c _ y L _ (H2.out.below hb3) (by omega));have k10 := (R1.out.below hb3 R1.out.lt).cell 0;have k11 := (R1.out.below hb3 R1.out.lt).cell 1;have k20 := (R2.out.below hb3 R2.out.lt).cell 0;have k21 := (R2.out.below hb3 R2.out.lt).cell 1;have R13 := Lib.hid (R1.out.below hb3 R1.out.lt);have R23 := Lib.hid (R2.out.below hb3 R2.out.lt);have H13 := Lib.hid (H1.out.below hb3);have H23 := Lib.hid (H2.out.below hb3);have HB3 := Lib.hid (HB.out.trans (hb3.mono HB.out.size)); clear hb3 e10 e11 e20 e21 HM H1 H2 R1 R2;go_wp2_with fail
 refine HM2.out.mono ?_;rintro e w4 ⟨rfl, hb4⟩;have HM3 := Lib.hid (RCmpAbs_c _ _ x y L _ (H13.out.below hb4) (H23.out.below hb4) hL);have k10 := (R13.out.below hb4 R13.out.lt).cell 0;have k11 := (R13.out.below hb4 R13.out.lt).cell 1;have k20 := (R23.out.below hb4 R23.out.lt).cell 0;have k21 := (R23.out.below hb4 R23.out.lt).cell 1;have HB4 := Lib.hid (HB3.out.trans (hb4.mono HB3.out.size)); clear hb4 HM2 H13 H23 R13 R23;have hz1 := zsign_cases x;have hz2 := zsign_cases y;by_cases hs : zsign x = zsign y
 · have hfin := zcmp_eq hs;have hnb : ncmp x.natAbs y.natAbs = -1 ∨ ncmp x.natAbs y.natAbs = 0 ∨ ncmp x.natAbs y.natAbs = 1 := by
    unfold ncmp; split
    · exact .inl rfl
    · split
      · exact .inr (.inr rfl)
      · exact .inr (.inl rfl)
   rw [<- hs];obtain ⟨s, hse⟩ : ∃ s, zsign x = s := ⟨_, rfl⟩;rw [hse] at hfin hz1 ⊢;obtain ⟨k, hke⟩ : ∃ k, ncmp x.natAbs y.natAbs = k := ⟨_, rfl⟩;rw [hke] at hfin HM3 hnb;have HF := Lib.hid hfin; clear hfin hs hz2 hse hke;have hp : IntKind.i64.wrap (s * k) = s * k := by
    rcases hz1 with rfl | rfl | rfl <;> rcases hnb with rfl | rfl | rfl <;> rfl
   have hne : (s != s) = false := by simp
   go_wp2_with fail
   refine HM3.out.mono ?_;rintro e w5 ⟨rfl, hb5⟩;have HB5 := Lib.hid (HB4.out.trans (hb5.mono HB4.out.size)); clear hb5 k10 k11 k20 k21;go_wp2;go_ret;exact ⟨by rw [HF.out]; rfl, HB5.out⟩
 · have hzc : zcmp x y = if zsign x < zsign y then -1 else 1 := by
    unfold zcmp zsign at *
    (repeat' split at hs) <;> (repeat' split) <;> omega
   obtain ⟨s, hse⟩ : ∃ s, zsign x = s := ⟨_, rfl⟩;obtain ⟨t, hte⟩ : ∃ t, zsign y = t := ⟨_, rfl⟩;rw [hse] at hs hzc ⊢;rw [hte] at hs hzc ⊢;have HZ := Lib.hid hzc;clear hz1 hz2 hse hte hzc;have hne : (s != t) = true := by simpa using hs
   have HNE := Lib.hid hs; clear hs;by_cases hlt : s < t
   · go_wp2;go_ret;exact ⟨by rw [HZ.out, if_pos hlt]; rfl, HB4.out⟩
   · go_wp2;go_ret;exact ⟨by rw [HZ.out, if_neg (by omega)]; rfl, HB4.out⟩
set_option maxRecDepth 100000 in
set_option maxHeartbeats 2000000 in
theorem RMul_c (v u : Value) (x y : Int) (L : Nat) (w : World) (h1 : IntAt w L v x) (h2 : IntAt w L u y) (hL : L <= 1099511627776) :
 Calls Tryz.prog 22 #[v, u] w fun e w' => (∃ v', e = .returned v' /\ OwnI w' w.heap.size v' (x * y)) /\ Below w.heap.size w w' := by
 obtain ⟨n1, ao1, len1, cap1, ws1, rfl, hW1, hl1, hk1, hc1, rfl⟩ := h1;obtain ⟨n2, ao2, len2, cap2, ws2, rfl, hW2, hl2, hk2, hc2, rfl⟩ := h2;obtain ⟨r1, r2, r3, hb⟩ := three_new w #[.bool n1, .slice ao1 len1 cap1] #[.bool n2, .slice ao2 len2 cap2] #[.bool false, .slice none 0 0] 45 45 45;have R1 := Lib.hid r1;have R2 := Lib.hid r2;have R3 := Lib.hid r3;have e10 := r1.cell 0;have e11 := r1.cell 1;have e20 := r2.cell 0;have e21 := r2.cell 1;have H1 := Lib.hid (hW1.below hb);have H2 := Lib.hid (hW2.below hb);have HL := Lib.hid (And.intro hl1 hl2);have HB := Lib.hid hb; clear hb r1 r2 r3;clear hW1 hl1 hc1 hW2 hl2 hc2;have HM := Lib.hid (RMul02_c ao1 ao2 len1 cap1 len2 cap2 ws1 ws2 _ H1.out H2.out HL.out.1 HL.out.2 (by omega) (by omega));go_enter Tryz.func22, Tryz.ntmps22;go_wp2_with fail
 generalize ((w.alloc (.cells #[.bool n1, .slice ao1 len1 cap1] 45)).alloc (.cells #[.bool n2, .slice ao2 len2 cap2] 45)).alloc (.cells #[.bool false, .slice none 0 0] 45) = w2 at *;refine HM.out.mono ?_;rintro e w3 ⟨⟨ao3, cap3, rfl, hO3⟩, hb3⟩;have hwl : wlen (nval ws1 * nval ws2) <= 8796093022208 := by
  have h1 := hO3.len;have h2 := wlen_mul (nval ws1) (nval ws2);have h3 := wlen_le_length H1.out.1;have h4 := wlen_le_length H2.out.1;have h5 := HL.out;omega
 have HM3 := Lib.hid (RMade_c (n1 != n2) ao3 _ cap3 _ w3 hO3.at_ hO3.len hwl);have k10 := (R1.out.below hb3 R1.out.lt).cell 0;have k11 := (R1.out.below hb3 R1.out.lt).cell 1;have k20 := (R2.out.below hb3 R2.out.lt).cell 0;have k21 := (R2.out.below hb3 R2.out.lt).cell 1;have R33 := Lib.hid (R3.out.below hb3 R3.out.lt);have HB3 := Lib.hid (HB.out.trans (hb3.mono HB.out.size));clear hb3 e10 e11 e20 e21 hO3 hwl HM;go_wp2_with fail
 refine HM3.out.mono ?_;rintro e w4 ⟨⟨v', rfl, hO⟩, hbz⟩;rw [nval_dig, zi_mul] at hO;have hs3 : w.heap.size + 2 < w3.heap.size := R33.out.lt;obtain ⟨pz, rfl⟩ := NumAt.parts hO.num;unfold av at *;have hrz := R33.out.below hbz R33.out.lt;have c0 := hrz.cell 0;have c1 := hrz.cell 1;have f0 := hrz.free 0;have f1 := hrz.free 1;have HRZ := Lib.hid hrz; clear hrz;have HO := Lib.hid hO; clear hO;have HBZ := Lib.hid (HB3.out.trans (hbz.mono HB3.out.size)); clear hbz;clear k10 k11 k20 k21;go_wp2;refine bodyPost_ret (results_int (p := 4) (by kernel_rfl) _ _ (w.heap.size + 2) _ _ rfl (HRZ.out.set2 _ _)) rfl ?_;refine ⟨⟨_, rfl, ?_⟩, (HBZ.out.setCell (by show w.heap.size <= w.heap.size + 2; omega) _).setCell (by show w.heap.size <= w.heap.size + 2; omega) _⟩;exact (OwnI.setRow2 HO.out HRZ.out _ _).mono (by omega)
set_option maxRecDepth 100000 in
set_option maxHeartbeats 2000000 in
theorem RAdd_c (v u : Value) (x y : Int) (L : Nat) (w : World) (h1 : IntAt w L v x) (h2 : IntAt w L u y) (hL : L <= 1099511627776) :
 Calls Tryz.prog 33 #[v, u] w fun e w' => (∃ v', e = .returned v' /\ OwnI w' w.heap.size v' (x + y)) /\ Below w.heap.size w w' := by
 obtain ⟨n1, ao1, len1, cap1, ws1, rfl, hW1, hl1, hk1, hc1, rfl⟩ := h1;obtain ⟨n2, ao2, len2, cap2, ws2, rfl, hW2, hl2, hk2, hc2, rfl⟩ := h2;obtain ⟨r1, r2, r3, hb⟩ := three_new w #[.bool n1, .slice ao1 len1 cap1] #[.bool n2, .slice ao2 len2 cap2] #[.bool false, .slice none 0 0] 45 45 45;have R1 := Lib.hid r1;have R2 := Lib.hid r2;have R3 := Lib.hid r3;have e10 := r1.cell 0;have e11 := r1.cell 1;have e20 := r2.cell 0;have e21 := r2.cell 1;have H1 := Lib.hid (hW1.below hb);have H2 := Lib.hid (hW2.below hb);have HL := Lib.hid (And.intro hl1 hl2);have HB := Lib.hid hb; clear hb r1 r2 r3;clear hW1 hl1 hc1 hW2 hl2 hc2;cases n1
 · cases n2
   · have HM := Lib.hid (RAdd01_c ao1 ao2 len1 cap1 len2 cap2 ws1 ws2 _ H1.out H2.out HL.out.1 HL.out.2 (by omega) (by omega));go_enter Tryz.func33, Tryz.ntmps33;go_wp2_with fail
     generalize ((w.alloc (.cells #[.bool false, .slice ao1 len1 cap1] 45)).alloc (.cells #[.bool false, .slice ao2 len2 cap2] 45)).alloc (.cells #[.bool false, .slice none 0 0] 45) = w2 at *;refine HM.out.mono ?_;rintro e w3 ⟨⟨ao3, cap3, rfl, hO3⟩, hb3⟩;have hwl : wlen (nval ws1 + nval ws2) <= 8796093022208 := by
      have h3 := wlen_le_length H1.out.1;have h4 := wlen_le_length H2.out.1;have h5 := HL.out;have h2 := wlen_add (nval ws1) (nval ws2);omega
     have HM3 := Lib.hid (RMade_c false ao3 _ cap3 _ w3 hO3.at_ hO3.len hwl);have k10 := (R1.out.below hb3 R1.out.lt).cell 0;have k11 := (R1.out.below hb3 R1.out.lt).cell 1;have k20 := (R2.out.below hb3 R2.out.lt).cell 0;have k21 := (R2.out.below hb3 R2.out.lt).cell 1;have R33 := Lib.hid (R3.out.below hb3 R3.out.lt);have HB3 := Lib.hid (HB.out.trans (hb3.mono HB.out.size));clear hb3 e10 e11 e20 e21 hO3 hwl HM;go_wp2_with fail
     refine HM3.out.mono ?_;rintro e w4 ⟨⟨v', rfl, hO⟩, hbz⟩;rw [nval_dig, zi_add] at hO;have hs3 : w.heap.size + 2 < w3.heap.size := R33.out.lt;obtain ⟨pz, rfl⟩ := NumAt.parts hO.num;unfold av at *;have hrz := R33.out.below hbz R33.out.lt;have c0 := hrz.cell 0;have c1 := hrz.cell 1;have f0 := hrz.free 0;have f1 := hrz.free 1;have HRZ := Lib.hid hrz; clear hrz;have HO := Lib.hid hO; clear hO;have HBZ := Lib.hid (HB3.out.trans (hbz.mono HB3.out.size)); clear hbz;clear k10 k11 k20 k21;go_wp2;refine bodyPost_ret (results_int (p := 4) (by kernel_rfl) _ _ (w.heap.size + 2) _ _ rfl (HRZ.out.set2 _ _)) rfl ?_;refine ⟨⟨_, rfl, ?_⟩, (HBZ.out.setCell (by show w.heap.size <= w.heap.size + 2; omega) _).setCell (by show w.heap.size <= w.heap.size + 2; omega) _⟩;exact (OwnI.setRow2 HO.out HRZ.out _ _).mono (by omega)
   · have HM := Lib.hid (RCmp01_c ao1 ao2 len1 cap1 len2 cap2 ws1 ws2 _ H1.out H2.out HL.out.1 HL.out.2 (by omega) (by omega));go_enter Tryz.func33, Tryz.ntmps33;go_wp2_with fail
     generalize ((w.alloc (.cells #[.bool false, .slice ao1 len1 cap1] 45)).alloc (.cells #[.bool true, .slice ao2 len2 cap2] 45)).alloc (.cells #[.bool false, .slice none 0 0] 45) = w2 at *;refine HM.out.mono ?_;rintro e w2b ⟨rfl, hb2⟩;by_cases hle : nval ws2 <= nval ws1
     · have hcc : ncmp (nval ws1) (nval ws2) = 0 ∨ ncmp (nval ws1) (nval ws2) = 1 := by
        unfold ncmp; rw [if_neg (by omega)]; split
        · exact .inr rfl
        · exact .inl rfl
       obtain ⟨cc, hce⟩ : ∃ cc, ncmp (nval ws1) (nval ws2) = cc := ⟨_, rfl⟩;rw [hce] at hcc ⊢;have hc0 : 0 <= cc := by omega
       clear hcc hce;have HM := Lib.hid (RSub01_c ao1 ao2 len1 cap1 len2 cap2 ws1 ws2 w2b (H1.out.below hb2) (H2.out.below hb2) HL.out.1 HL.out.2 (by omega) (by omega) (by omega));have HB := Lib.hid (HB.out.trans (hb2.mono HB.out.size));have R1 := Lib.hid (R1.out.below hb2 R1.out.lt);have R2 := Lib.hid (R2.out.below hb2 R2.out.lt);have R3 := Lib.hid (R3.out.below hb2 R3.out.lt);have j10 := R1.out.cell 0;have j11 := R1.out.cell 1;have j20 := R2.out.cell 0;have j21 := R2.out.cell 1;have HLE := Lib.hid hle;clear e10 e11 e20 e21 hb2 hle;go_wp2_with fail
       refine HM.out.mono ?_;rintro e w3 ⟨⟨ao3, cap3, rfl, hO3⟩, hb3⟩;have hwl : wlen (nval ws1 - nval ws2) <= 8796093022208 := by
        have h3 := wlen_le_length H1.out.1;have h4 := wlen_le_length H2.out.1;have h5 := HL.out;have h2 := wlen_mono (Nat.sub_le (nval ws1) (nval ws2));omega
       have HM3 := Lib.hid (RMade_c false ao3 _ cap3 _ w3 hO3.at_ hO3.len hwl);have k10 := (R1.out.below hb3 R1.out.lt).cell 0;have k11 := (R1.out.below hb3 R1.out.lt).cell 1;have k20 := (R2.out.below hb3 R2.out.lt).cell 0;have k21 := (R2.out.below hb3 R2.out.lt).cell 1;have R33 := Lib.hid (R3.out.below hb3 R3.out.lt);have HB3 := Lib.hid (HB.out.trans (hb3.mono HB.out.size));clear hb3 j10 j11 j20 j21 hO3 hwl HM;go_wp2_with fail
       refine HM3.out.mono ?_;rintro e w4 ⟨⟨v', rfl, hO⟩, hbz⟩;rw [nval_dig, zi_subR (n := false) (n2 := true) (by decide) (by have := HLE.out; omega)] at hO;have hs3 : w.heap.size + 2 < w3.heap.size := R33.out.lt;obtain ⟨pz, rfl⟩ := NumAt.parts hO.num;unfold av at *;have hrz := R33.out.below hbz R33.out.lt;have c0 := hrz.cell 0;have c1 := hrz.cell 1;have f0 := hrz.free 0;have f1 := hrz.free 1;have HRZ := Lib.hid hrz; clear hrz;have HO := Lib.hid hO; clear hO;have HBZ := Lib.hid (HB3.out.trans (hbz.mono HB3.out.size)); clear hbz;clear k10 k11 k20 k21;go_wp2;refine bodyPost_ret (results_int (p := 4) (by kernel_rfl) _ _ (w.heap.size + 2) _ _ rfl (HRZ.out.set2 _ _)) rfl ?_;refine ⟨⟨_, rfl, ?_⟩, (HBZ.out.setCell (by show w.heap.size <= w.heap.size + 2; omega) _).setCell (by show w.heap.size <= w.heap.size + 2; omega) _⟩;exact (OwnI.setRow2 HO.out HRZ.out _ _).mono (by omega)
     · have hcc : ncmp (nval ws1) (nval ws2) = -1 := by unfold ncmp; rw [if_pos (by omega)]
       rw [hcc];clear hcc;have HM := Lib.hid (RSub01_c ao2 ao1 len2 cap2 len1 cap1 ws2 ws1 w2b (H2.out.below hb2) (H1.out.below hb2) HL.out.2 HL.out.1 (by omega) (by omega) (by omega));have HB := Lib.hid (HB.out.trans (hb2.mono HB.out.size));have R1 := Lib.hid (R1.out.below hb2 R1.out.lt);have R2 := Lib.hid (R2.out.below hb2 R2.out.lt);have R3 := Lib.hid (R3.out.below hb2 R3.out.lt);have j10 := R1.out.cell 0;have j11 := R1.out.cell 1;have j20 := R2.out.cell 0;have j21 := R2.out.cell 1;have HLE := Lib.hid hle;clear e10 e11 e20 e21 hb2 hle;go_wp2_with fail
       refine HM.out.mono ?_;rintro e w3 ⟨⟨ao3, cap3, rfl, hO3⟩, hb3⟩;have hwl : wlen (nval ws2 - nval ws1) <= 8796093022208 := by
        have h3 := wlen_le_length H1.out.1;have h4 := wlen_le_length H2.out.1;have h5 := HL.out;have h2 := wlen_mono (Nat.sub_le (nval ws2) (nval ws1));omega
       have HM3 := Lib.hid (RMade_c true ao3 _ cap3 _ w3 hO3.at_ hO3.len hwl);have k10 := (R1.out.below hb3 R1.out.lt).cell 0;have k11 := (R1.out.below hb3 R1.out.lt).cell 1;have k20 := (R2.out.below hb3 R2.out.lt).cell 0;have k21 := (R2.out.below hb3 R2.out.lt).cell 1;have R33 := Lib.hid (R3.out.below hb3 R3.out.lt);have HB3 := Lib.hid (HB.out.trans (hb3.mono HB.out.size));clear hb3 j10 j11 j20 j21 hO3 hwl HM;go_wp2_with fail
       refine HM3.out.mono ?_;rintro e w4 ⟨⟨v', rfl, hO⟩, hbz⟩;rw [nval_dig, zi_subL (n := false) (n2 := true) (by decide) (by have := HLE.out; omega)] at hO;have hs3 : w.heap.size + 2 < w3.heap.size := R33.out.lt;obtain ⟨pz, rfl⟩ := NumAt.parts hO.num;unfold av at *;have hrz := R33.out.below hbz R33.out.lt;have c0 := hrz.cell 0;have c1 := hrz.cell 1;have f0 := hrz.free 0;have f1 := hrz.free 1;have HRZ := Lib.hid hrz; clear hrz;have HO := Lib.hid hO; clear hO;have HBZ := Lib.hid (HB3.out.trans (hbz.mono HB3.out.size)); clear hbz;clear k10 k11 k20 k21;go_wp2;refine bodyPost_ret (results_int (p := 4) (by kernel_rfl) _ _ (w.heap.size + 2) _ _ rfl (HRZ.out.set2 _ _)) rfl ?_;refine ⟨⟨_, rfl, ?_⟩, (HBZ.out.setCell (by show w.heap.size <= w.heap.size + 2; omega) _).setCell (by show w.heap.size <= w.heap.size + 2; omega) _⟩;exact (OwnI.setRow2 HO.out HRZ.out _ _).mono (by omega)
 · cases n2
   · have HM := Lib.hid (RCmp01_c ao1 ao2 len1 cap1 len2 cap2 ws1 ws2 _ H1.out H2.out HL.out.1 HL.out.2 (by omega) (by omega));go_enter Tryz.func33, Tryz.ntmps33;go_wp2_with fail
     generalize ((w.alloc (.cells #[.bool true, .slice ao1 len1 cap1] 45)).alloc (.cells #[.bool false, .slice ao2 len2 cap2] 45)).alloc (.cells #[.bool false, .slice none 0 0] 45) = w2 at *;refine HM.out.mono ?_;rintro e w2b ⟨rfl, hb2⟩;by_cases hle : nval ws2 <= nval ws1
     · have hcc : ncmp (nval ws1) (nval ws2) = 0 ∨ ncmp (nval ws1) (nval ws2) = 1 := by
        unfold ncmp; rw [if_neg (by omega)]; split
        · exact .inr rfl
        · exact .inl rfl
       obtain ⟨cc, hce⟩ : ∃ cc, ncmp (nval ws1) (nval ws2) = cc := ⟨_, rfl⟩;rw [hce] at hcc ⊢;have hc0 : 0 <= cc := by omega
       clear hcc hce;have HM := Lib.hid (RSub01_c ao1 ao2 len1 cap1 len2 cap2 ws1 ws2 w2b (H1.out.below hb2) (H2.out.below hb2) HL.out.1 HL.out.2 (by omega) (by omega) (by omega));have HB := Lib.hid (HB.out.trans (hb2.mono HB.out.size));have R1 := Lib.hid (R1.out.below hb2 R1.out.lt);have R2 := Lib.hid (R2.out.below hb2 R2.out.lt);have R3 := Lib.hid (R3.out.below hb2 R3.out.lt);have j10 := R1.out.cell 0;have j11 := R1.out.cell 1;have j20 := R2.out.cell 0;have j21 := R2.out.cell 1;have HLE := Lib.hid hle;clear e10 e11 e20 e21 hb2 hle;go_wp2_with fail
       refine HM.out.mono ?_;rintro e w3 ⟨⟨ao3, cap3, rfl, hO3⟩, hb3⟩;have hwl : wlen (nval ws1 - nval ws2) <= 8796093022208 := by
        have h3 := wlen_le_length H1.out.1;have h4 := wlen_le_length H2.out.1;have h5 := HL.out;have h2 := wlen_mono (Nat.sub_le (nval ws1) (nval ws2));omega
       have HM3 := Lib.hid (RMade_c true ao3 _ cap3 _ w3 hO3.at_ hO3.len hwl);have k10 := (R1.out.below hb3 R1.out.lt).cell 0;have k11 := (R1.out.below hb3 R1.out.lt).cell 1;have k20 := (R2.out.below hb3 R2.out.lt).cell 0;have k21 := (R2.out.below hb3 R2.out.lt).cell 1;have R33 := Lib.hid (R3.out.below hb3 R3.out.lt);have HB3 := Lib.hid (HB.out.trans (hb3.mono HB.out.size));clear hb3 j10 j11 j20 j21 hO3 hwl HM;go_wp2_with fail
       refine HM3.out.mono ?_;rintro e w4 ⟨⟨v', rfl, hO⟩, hbz⟩;rw [nval_dig, zi_subR (n := true) (n2 := false) (by decide) (by have := HLE.out; omega)] at hO;have hs3 : w.heap.size + 2 < w3.heap.size := R33.out.lt;obtain ⟨pz, rfl⟩ := NumAt.parts hO.num;unfold av at *;have hrz := R33.out.below hbz R33.out.lt;have c0 := hrz.cell 0;have c1 := hrz.cell 1;have f0 := hrz.free 0;have f1 := hrz.free 1;have HRZ := Lib.hid hrz; clear hrz;have HO := Lib.hid hO; clear hO;have HBZ := Lib.hid (HB3.out.trans (hbz.mono HB3.out.size)); clear hbz;clear k10 k11 k20 k21;go_wp2;refine bodyPost_ret (results_int (p := 4) (by kernel_rfl) _ _ (w.heap.size + 2) _ _ rfl (HRZ.out.set2 _ _)) rfl ?_;refine ⟨⟨_, rfl, ?_⟩, (HBZ.out.setCell (by show w.heap.size <= w.heap.size + 2; omega) _).setCell (by show w.heap.size <= w.heap.size + 2; omega) _⟩;exact (OwnI.setRow2 HO.out HRZ.out _ _).mono (by omega)
     · have hcc : ncmp (nval ws1) (nval ws2) = -1 := by unfold ncmp; rw [if_pos (by omega)]
       rw [hcc];clear hcc;have HM := Lib.hid (RSub01_c ao2 ao1 len2 cap2 len1 cap1 ws2 ws1 w2b (H2.out.below hb2) (H1.out.below hb2) HL.out.2 HL.out.1 (by omega) (by omega) (by omega));have HB := Lib.hid (HB.out.trans (hb2.mono HB.out.size));have R1 := Lib.hid (R1.out.below hb2 R1.out.lt);have R2 := Lib.hid (R2.out.below hb2 R2.out.lt);have R3 := Lib.hid (R3.out.below hb2 R3.out.lt);have j10 := R1.out.cell 0;have j11 := R1.out.cell 1;have j20 := R2.out.cell 0;have j21 := R2.out.cell 1;have HLE := Lib.hid hle;clear e10 e11 e20 e21 hb2 hle;go_wp2_with fail
       refine HM.out.mono ?_;rintro e w3 ⟨⟨ao3, cap3, rfl, hO3⟩, hb3⟩;have hwl : wlen (nval ws2 - nval ws1) <= 8796093022208 := by
        have h3 := wlen_le_length H1.out.1;have h4 := wlen_le_length H2.out.1;have h5 := HL.out;have h2 := wlen_mono (Nat.sub_le (nval ws2) (nval ws1));omega
       have HM3 := Lib.hid (RMade_c false ao3 _ cap3 _ w3 hO3.at_ hO3.len hwl);have k10 := (R1.out.below hb3 R1.out.lt).cell 0;have k11 := (R1.out.below hb3 R1.out.lt).cell 1;have k20 := (R2.out.below hb3 R2.out.lt).cell 0;have k21 := (R2.out.below hb3 R2.out.lt).cell 1;have R33 := Lib.hid (R3.out.below hb3 R3.out.lt);have HB3 := Lib.hid (HB.out.trans (hb3.mono HB.out.size));clear hb3 j10 j11 j20 j21 hO3 hwl HM;go_wp2_with fail
       refine HM3.out.mono ?_;rintro e w4 ⟨⟨v', rfl, hO⟩, hbz⟩;rw [nval_dig, zi_subL (n := true) (n2 := false) (by decide) (by have := HLE.out; omega)] at hO;have hs3 : w.heap.size + 2 < w3.heap.size := R33.out.lt;obtain ⟨pz, rfl⟩ := NumAt.parts hO.num;unfold av at *;have hrz := R33.out.below hbz R33.out.lt;have c0 := hrz.cell 0;have c1 := hrz.cell 1;have f0 := hrz.free 0;have f1 := hrz.free 1;have HRZ := Lib.hid hrz; clear hrz;have HO := Lib.hid hO; clear hO;have HBZ := Lib.hid (HB3.out.trans (hbz.mono HB3.out.size)); clear hbz;clear k10 k11 k20 k21;go_wp2;refine bodyPost_ret (results_int (p := 4) (by kernel_rfl) _ _ (w.heap.size + 2) _ _ rfl (HRZ.out.set2 _ _)) rfl ?_;refine ⟨⟨_, rfl, ?_⟩, (HBZ.out.setCell (by show w.heap.size <= w.heap.size + 2; omega) _).setCell (by show w.heap.size <= w.heap.size + 2; omega) _⟩;exact (OwnI.setRow2 HO.out HRZ.out _ _).mono (by omega)
   · have HM := Lib.hid (RAdd01_c ao1 ao2 len1 cap1 len2 cap2 ws1 ws2 _ H1.out H2.out HL.out.1 HL.out.2 (by omega) (by omega));go_enter Tryz.func33, Tryz.ntmps33;go_wp2_with fail
     generalize ((w.alloc (.cells #[.bool true, .slice ao1 len1 cap1] 45)).alloc (.cells #[.bool true, .slice ao2 len2 cap2] 45)).alloc (.cells #[.bool false, .slice none 0 0] 45) = w2 at *;refine HM.out.mono ?_;rintro e w3 ⟨⟨ao3, cap3, rfl, hO3⟩, hb3⟩;have hwl : wlen (nval ws1 + nval ws2) <= 8796093022208 := by
      have h3 := wlen_le_length H1.out.1;have h4 := wlen_le_length H2.out.1;have h5 := HL.out;have h2 := wlen_add (nval ws1) (nval ws2);omega
     have HM3 := Lib.hid (RMade_c true ao3 _ cap3 _ w3 hO3.at_ hO3.len hwl);have k10 := (R1.out.below hb3 R1.out.lt).cell 0;have k11 := (R1.out.below hb3 R1.out.lt).cell 1;have k20 := (R2.out.below hb3 R2.out.lt).cell 0;have k21 := (R2.out.below hb3 R2.out.lt).cell 1;have R33 := Lib.hid (R3.out.below hb3 R3.out.lt);have HB3 := Lib.hid (HB.out.trans (hb3.mono HB.out.size));clear hb3 e10 e11 e20 e21 hO3 hwl HM;go_wp2_with fail
     refine HM3.out.mono ?_;rintro e w4 ⟨⟨v', rfl, hO⟩, hbz⟩;rw [nval_dig, zi_add] at hO;have hs3 : w.heap.size + 2 < w3.heap.size := R33.out.lt;obtain ⟨pz, rfl⟩ := NumAt.parts hO.num;unfold av at *;have hrz := R33.out.below hbz R33.out.lt;have c0 := hrz.cell 0;have c1 := hrz.cell 1;have f0 := hrz.free 0;have f1 := hrz.free 1;have HRZ := Lib.hid hrz; clear hrz;have HO := Lib.hid hO; clear hO;have HBZ := Lib.hid (HB3.out.trans (hbz.mono HB3.out.size)); clear hbz;clear k10 k11 k20 k21;go_wp2;refine bodyPost_ret (results_int (p := 4) (by kernel_rfl) _ _ (w.heap.size + 2) _ _ rfl (HRZ.out.set2 _ _)) rfl ?_;refine ⟨⟨_, rfl, ?_⟩, (HBZ.out.setCell (by show w.heap.size <= w.heap.size + 2; omega) _).setCell (by show w.heap.size <= w.heap.size + 2; omega) _⟩;exact (OwnI.setRow2 HO.out HRZ.out _ _).mono (by omega)
set_option maxRecDepth 100000 in
set_option maxHeartbeats 2000000 in
theorem RMulAdd_c (v u t : Value) (x y z : Int) (L : Nat) (w : World) (h1 : IntAt w L v x) (h2 : IntAt w L u y) (h3 : IntAt w L t z) (hL : L <= 549755813888) :
 Calls Tryz.prog 40 #[v, u, t] w fun e w' => (∃ v', e = .returned v' /\ OwnI w' w.heap.size v' (x * y + z)) /\ Below w.heap.size w w' := by
 have hwx : wlen (x * y).natAbs <= 1099511627776 := by
  obtain ⟨n1, ao1, len1, cap1, ws1, _, hW1, hl1, hk1, _, rfl⟩ := h1;obtain ⟨n2, ao2, len2, cap2, ws2, _, hW2, hl2, hk2, _, rfl⟩ := h2;rw [Int.natAbs_mul, zi_abs, zi_abs];have e2 := wlen_mul (nval ws1) (nval ws2);have e3 := wlen_le_length hW1.1;have e4 := wlen_le_length hW2.1;omega
 have hA1 := h1;have hA2 := h2;have hA3 := h3;obtain ⟨n1, ao1, len1, cap1, ws1, rfl, hW1, hl1, hk1, hc1, hx1⟩ := h1;obtain ⟨n2, ao2, len2, cap2, ws2, rfl, hW2, hl2, hk2, hc2, hx2⟩ := h2;obtain ⟨n3, ao3, len3, cap3, ws3, rfl, hW3, hl3, hk3, hc3, hx3⟩ := h3;clear hW1 hl1 hk1 hc1 hx1 hW2 hl2 hk2 hc2 hx2 hW3 hl3 hk3 hc3 hx3;obtain ⟨r1, r2, r3, r4, hb⟩ := four_new w #[.bool n1, .slice ao1 len1 cap1] #[.bool n2, .slice ao2 len2 cap2] #[.bool n3, .slice ao3 len3 cap3] #[.bool false, .slice none 0 0] 45 45 45 45;have HM := Lib.hid (RMul_c _ _ x y L _ (hA1.below hb) (hA2.below hb) (by omega));have H3 := Lib.hid (hA3.below hb);have e10 := r1.cell 0;have e11 := r1.cell 1;have e20 := r2.cell 0;have e21 := r2.cell 1;have R3 := Lib.hid r3;have R4 := Lib.hid r4;have HB := Lib.hid hb; clear hb r1 r2 r3 r4 hA1 hA2 hA3;have HW := Lib.hid hwx; clear hwx;go_enter Tryz.func40, Tryz.ntmps40;go_wp2_with fail
 generalize (((w.alloc (.cells #[.bool n1, .slice ao1 len1 cap1] 45)).alloc (.cells #[.bool n2, .slice ao2 len2 cap2] 45)).alloc (.cells #[.bool n3, .slice ao3 len3 cap3] 45)).alloc (.cells #[.bool false, .slice none 0 0] 45) = w2 at *;refine HM.out.mono ?_;rintro e w3 ⟨⟨v', rfl, hO3⟩, hb3⟩;obtain ⟨pq, rfl⟩ := NumAt.parts hO3.num;unfold av at *;have hb4 : Below w3.heap.size w3 (w3.alloc (.cells #[.bool pq.1, .slice pq.2.1 pq.2.2.1 pq.2.2.2] 45)) := (Below.refl _ _).alloc (Nat.le_refl _) _;have HA := Lib.hid (RAdd_c _ _ (x * y) z 1099511627776 _ ((hO3.num.int HW.out).below hb4) (((H3.out.below hb3).below hb4).mono (by omega)) (Nat.le_refl _));have hr4 := RowAt.new w3 #[.bool pq.1, .slice pq.2.1 pq.2.2.1 pq.2.2.2] 45;have k10 := hr4.cell 0;have k11 := hr4.cell 1;have R33 := (R3.out.below hb3 R3.out.lt).below hb4 (R3.out.below hb3 R3.out.lt).lt;have k30 := R33.cell 0;have k31 := R33.cell 1;have R44 := Lib.hid ((R4.out.below hb3 R4.out.lt).below hb4 (R4.out.below hb3 R4.out.lt).lt);have hB4 : Below w.heap.size w (w3.alloc (.cells #[.bool pq.1, .slice pq.2.1 pq.2.2.1 pq.2.2.2] 45)) := (HB.out.trans (hb3.mono HB.out.size)).trans (hb4.mono (Nat.le_trans HB.out.size hb3.size));have HB4 := Lib.hid hB4;have hs4 : w.heap.size + 3 < w2.heap.size := R4.out.lt;have hs3 := hb3.size;have hs5 : (w3.alloc (.cells #[.bool pq.1, .slice pq.2.1 pq.2.2.1 pq.2.2.2] 45)).heap.size = w3.heap.size + 1 := by simp
 clear hr4 hb4 hB4 hb3 hO3 R33 e10 e11 e20 e21;go_wp2_with fail
 generalize w3.alloc (.cells #[.bool pq.1, .slice pq.2.1 pq.2.2.1 pq.2.2.2] 45) = w4 at *;refine HA.out.mono ?_;rintro e w5 ⟨⟨v', rfl, hO⟩, hbz⟩;obtain ⟨pz, rfl⟩ := NumAt.parts hO.num;unfold av at *;have hrz := R44.out.below hbz R44.out.lt;have c0 := hrz.cell 0;have c1 := hrz.cell 1;have f0 := hrz.free 0;have f1 := hrz.free 1;have HRZ := Lib.hid hrz; clear hrz;have HO := Lib.hid hO; clear hO;have HBZ := Lib.hid (HB4.out.trans (hbz.mono HB4.out.size)); clear hbz k10 k11 k30 k31;go_wp2;refine bodyPost_ret (results_int (p := 6) (by kernel_rfl) _ _ (w.heap.size + 3) _ _ rfl (HRZ.out.set2 _ _)) rfl ?_;refine ⟨⟨_, rfl, ?_⟩, (HBZ.out.setCell (by show w.heap.size <= w.heap.size + 3; omega) _).setCell (by show w.heap.size <= w.heap.size + 3; omega) _⟩;exact (OwnI.setRow2 HO.out HRZ.out _ _).mono (by omega)
theorem lead_ne : ∀ {xs : List Int} {j : Nat} (_ : lead xs = j) (hj : j < xs.length), xs[j] ≠ 0
 | x :: xs, j, h, hj => by
  unfold lead at h;by_cases h0 : x = 0
  · rw [if_pos h0] at h;subst h;simpa using lead_ne (xs := xs) rfl (by simpa using hj)
  · rw [if_neg h0] at h;subst h;simpa using h0
theorem NumAt.sign {w : World} {p : P4} {x : Int} (h : NumAt w (av p) x) (hx : x ≠ 0) : p.1 = decide (x < 0) := by
 obtain ⟨n, ao, len, cap, ws, he, hW, hl, hL, hc, rfl⟩ := h.1;unfold av at he;have : p.1 = n := by injection he with he; simp at he; exact he.1
 rw [this];exact zi_neg_iff hx
def turnT (R : List Hd) (i : Nat) : List Hd := if h : i < R.length then turnR R i h else R
def swapT (R : List Hd) (i j : Nat) : List Hd := if h : i < R.length /\ j < R.length then swapR R i j h.1 h.2 else R
theorem turnT_eq {R : List Hd} {i : Nat} (hi : i < R.length) : turnT R i = turnR R i hi := by unfold turnT; rw [dif_pos hi]
theorem swapT_eq {R : List Hd} {i j : Nat} (hi : i < R.length) (hj : j < R.length) : swapT R i j = swapR R i j hi hj := by unfold swapT; rw [dif_pos ⟨hi, hj⟩]
theorem turnT_length (R : List Hd) (i : Nat) : (turnT R i).length = R.length := by
 unfold turnT; split
 · unfold turnR; rw [setXs_length]
 · rfl
theorem swapT_length (R : List Hd) (i j : Nat) : (swapT R i j).length = R.length := by
 unfold swapT; split
 · exact swapR_length ..
 · rfl
theorem mixT_length (R : List Hd) (i j : Nat) (a b c d : Int) : (mixT R i j a b c d).length = R.length := by
 unfold mixT; split
 · unfold mixR; rw [setXs_length, setXs_length]
 · rfl
theorem meetT_length (R : List Hd) (k n j : Nat) : (meetT R k n j).length = R.length := by
 unfold meetT meetA; split
 · exact addT_length ..
 · rw [mixT_length]; exact addT_length ..
def swapsT (at_ : Nat) : Nat -> List Hd -> List Hd
 | 0, R => R
 | i + 1, R => if i + 1 <= at_ then R else swapsT at_ i (swapT R (i + 1) i)
inductive PutT (B c n : Nat) : Nat -> Int -> List Hd -> Bool -> List Hd -> Prop
 | zero {at_ : Nat} {last : Int} {R R' : List Hd} (hF : Fit B c R) (h : leadOf R n = c ∨ (leadOf R n : Int) <= last) (hs : SOut B c (leadsOf R n) n n R R') : PutT B c n at_ last R false R'
 | stop {at_ : Nat} {last : Int} {R R' : List Hd} (hF : Fit B c R) (h1 : leadOf R n < c) (h2 : last < leadOf R n) (a : Nat) (ha : at_ <= a) (hn : a <= n) (hlt : ∀ i, at_ <= i -> i < a -> leadOf R i < leadOf R n) (hb : a = n ∨ leadOf R n < leadOf R a)
  (hF2 : Fit B c (swapsT a n (if ent R n (leadOf R n) < 0 then turnT R n else R)))
  (hs : SOut B c (leadsOf (swapsT a n (if ent R n (leadOf R n) < 0 then turnT R n else R)) (n + 1)) (n + 1) (n + 1) (swapsT a n (if ent R n (leadOf R n) < 0 then turnT R n else R)) R') : PutT B c n at_ last R true R'
 | meet {at_ : Nat} {last : Int} {R R' : List Hd} {b : Bool} (hF : Fit B c R) (h1 : leadOf R n < c) (h2 : last < leadOf R n) (a : Nat) (ha : at_ <= a) (hn : a < n) (hlt : ∀ i, at_ <= i -> i < a -> leadOf R i < leadOf R n) (hj : leadOf R a = leadOf R n)
  (hp : ent R a (leadOf R n) ≠ 0) (hF1 : Fit B c (meetA R a n (leadOf R n))) (hp1 : ent (meetA R a n (leadOf R n)) a (leadOf R n) ≠ 0)
  (hs : PutT B c n a (leadOf R n) (meetT R a n (leadOf R n)) b R') : PutT B c n at_ last R b R'
theorem own_turnT (S : LSt) (i k : Nat) : (S.withR (turnT S.R i)).own k ↔ S.own k := by
 unfold turnT; split
 · exact own_setXs S i _ k
 · exact Iff.rfl
theorem own_addT (S : LSt) (i j : Nat) (x : Int) (k : Nat) : (S.withR (addT S.R i j x)).own k ↔ S.own k := by
 unfold addT; split
 · exact own_setXs S i _ k
 · exact Iff.rfl
theorem own_mixT (S : LSt) (i j : Nat) (a b c d : Int) (k : Nat) : (S.withR (mixT S.R i j a b c d)).own k ↔ S.own k := by
 unfold mixT; split
 · exact (own_setXs (S.withR (setXs S.R i _)) j _ k).trans (own_setXs S i _ k)
 · exact Iff.rfl
theorem own_meetT (S : LSt) (a n j k : Nat) : (S.withR (meetT S.R a n j)).own k ↔ S.own k := by
 unfold meetT meetA; split
 · exact own_addT S n a _ k
 · exact (own_mixT (S.withR (addT S.R n a _)) a n _ _ _ _ k).trans (own_addT S n a _ k)
theorem own_swapT (S : LSt) (i j k : Nat) : (S.withR (swapT S.R i j)).own k ↔ S.own k := by
 unfold swapT; split
 · rename_i h;unfold LSt.own;show k = S.o ∨ (∃ r ∈ swapR S.R i j h.1 h.2, r.blk = k) ↔ _;refine or_congr Iff.rfl ⟨?_, ?_⟩
   · rintro ⟨r, hr, e⟩;obtain ⟨m, hm, rfl⟩ := List.getElem_of_mem hr;rw [swapR_length] at hm;rw [swapR_get h.1 h.2 hm] at e;exact ⟨_, List.getElem_mem _, e⟩
   · rintro ⟨r, hr, e⟩;obtain ⟨m, hm, rfl⟩ := List.getElem_of_mem hr;have hm2 := swp_lt h.1 h.2 hm;refine ⟨(swapR S.R i j h.1 h.2)[swp i j m]'(by rw [swapR_length]; exact hm2), List.getElem_mem _, ?_⟩;rw [swapR_get h.1 h.2 hm2];have hss : swp i j (swp i j m) = m := by unfold swp; (repeat' split) <;> omega
     simp only [hss];exact e
 · exact Iff.rfl
set_option maxRecDepth 100000 in
set_option maxHeartbeats 8000000 in
theorem Put_c (S : LSt) (n B c : Nat) (res : Bool) (R' : List Hd) (w : World) (h : LadAt w S) (hn : n < S.R.length) (hB : B <= 4000000000000) (hP : PutT B c n 0 (-1) S.R res R') (hR : S.R.length <= 100000) (hc : c <= 1000000) :
 Calls Tryz.prog 112 #[.pointer (some ⟨S.lb, 0, none⟩), .int .i64 (n : Int)] w fun e w' => e = .returned (.bool res) /\ LadAt w' (S.withR R') /\ Chg S.own w w' := by
 have HL := Lib.hid h; clear h;have HP := Lib.hid hP; clear hP;go_enter Tryz.func112, Tryz.ntmps112;go_wp2;go_loopw [5, 6] (fun a_ l_ wr => ∃ (at_ : Nat) (last : Int) (R : List Hd), at_ <= n /\ (-1 <= last /\ last <= (c : Int)) /\ a_ = .int .i64 (at_ : Int) /\ l_ = .int .i64 last /\ Hid (R.length = S.R.length) /\ Hid (PutT B c n at_ last R res R') /\ Hid (LadAt wr (S.withR R)) /\ Hid (Chg S.own w wr) /\ Hid (∀ k, (S.withR R).own k ↔ S.own k)) (fun _ l_ _ => ((c : Int) - intOf l_).toNat)
 case atStart => exact ⟨0, -1, S.R, Nat.zero_le _, ⟨by omega, by omega⟩, rfl, rfl, rfl, HP, HL, Chg.refl .., fun _ => Iff.rfl⟩
 case round =>
  obtain ⟨at_, last, R, hat, ⟨hl1, hl2⟩, rfl, rfl, hRl, hPt, hL, hC, hO⟩ := hrel;have hnR : n < R.length := by have := hRl.out; omega
  have hF : Hid (Fit B c R) := by
   have := hPt.out;cases this with
   | zero hF _ _ => exact hF
   | stop hF _ _ _ _ _ _ _ _ _ => exact hF
   | meet hF _ _ _ _ _ _ _ _ _ _ _ => exact hF
  have hcn : R[n].xs.length = c := hF.out.len _ (List.getElem_mem hnR);have hlead : leadOf R n = lead R[n].xs := leadOf_eq hnR;have hle := lead_le R[n].xs;have hn1 : (n : Int) < (R.length : Int) := by omega
  have cb : wr.cell? ⟨S.lb, 0, none⟩ = some (.slice (some ⟨S.o, 0, none⟩) R.length S.cap) := hL.out.lad.cell 0;have cn : wr.cell? ⟨S.o, n, none⟩ = some (.slice (some ⟨R[n].blk, 0, none⟩) R[n].xs.length R[n].cap) := hL.out.mat.hdr (i := n) hnR;rw [hcn] at cn hle;have Hcn := Lib.hid hcn; clear hcn;have Hlead := Lib.hid hlead; clear hlead;go_wp2_with fail
  have hLd := Lead_c R[n].blk R[n].cap R[n].xs wr (hL.out.mat.row _ (List.getElem_mem (l := R) hnR)) (fun x hx => by have := hF.out.fit _ (List.getElem_mem hnR) x hx; omega) (by rw [Hcn.out]; omega);rw [Hcn.out] at hLd;refine hLd.mono ?_;rintro e w2 ⟨rfl, hb2⟩;have L2 := Lib.hid (hL.out.below hb2);have C2 := Lib.hid (hC.out.below hb2);clear hLd hL hC hb2 cb cn;have cb : w2.cell? ⟨S.lb, 0, none⟩ = some (.slice (some ⟨S.o, 0, none⟩) R.length S.cap) := L2.out.lad.cell 0;have cn : w2.cell? ⟨S.o, n, none⟩ = some (.slice (some ⟨R[n].blk, 0, none⟩) R[n].xs.length R[n].cap) := L2.out.mat.hdr (i := n) hnR;rw [Hcn.out] at cn;obtain ⟨jj, hjj⟩ : ∃ jj, lead R[n].xs = jj := ⟨_, rfl⟩;rw [hjj] at hle ⊢;have hPj := hPt.out;have hld := Hlead.out;rw [hjj] at hld;have Hld := Lib.hid hld; clear hld;by_cases hz : jj = c ∨ (jj : Int) <= last
  · have hfin : res = false /\ SOut B c (leadsOf R n) n n R R' := by
     cases hPj with
     | zero _ _ hs => exact ⟨rfl, hs⟩
     | stop _ h1 h2 _ _ _ _ _ _ _ => rw [Hld.out] at h1 h2; omega
     | meet _ h1 h2 _ _ _ _ _ _ _ _ _ => rw [Hld.out] at h1 h2; omega
    obtain ⟨rfl, hs⟩ := hfin;have HSO := Lib.hid hs; clear hs;clear hPj hPt;by_cases hz1 : jj = c
    · have hz2 : ((jj : Int) == (c : Int)) = true := by rw [hz1]; simp
      obtain ⟨j2, hj2⟩ : ∃ j2, j2 = jj := ⟨_, rfl⟩;have hz3 : (jj : Int) = (c : Int) := by omega
      have Hz1 := Lib.hid hz1;clear hz hz1 hz2 hj2;go_wp2_with fail
      refine (Settle_c (S.withR R) n B c R' _ L2.out (Nat.le_of_lt hnR) (by omega) hF.out HSO.out (by show R.length <= 1000000; have := hRl.out; omega) hc).mono ?_;rintro e w3 ⟨rfl, hL3, hC3⟩;have CF := Lib.hid (C2.out.trans (hC3.mono (fun q _ e => (hO.out q).1 e)));have LF := Lib.hid hL3;clear hL3 hC3;go_wp2;go_ret;exact ⟨rfl, LF.out, CF.out⟩
    · have hz3 : ¬ (jj : Int) = (c : Int) := by omega
      have hz2 : ((jj : Int) == (c : Int)) = false := beq_eq_false_iff_ne.2 hz3;have hz4 : (jj : Int) <= last := by omega
      have Hz1 := Lib.hid hz1;clear hz hz1;go_wp2_with fail
      refine (Settle_c (S.withR R) n B c R' _ L2.out (Nat.le_of_lt hnR) (by omega) hF.out HSO.out (by show R.length <= 1000000; have := hRl.out; omega) hc).mono ?_;rintro e w3 ⟨rfl, hL3, hC3⟩;have CF := Lib.hid (C2.out.trans (hC3.mono (fun q _ e => (hO.out q).1 e)));have LF := Lib.hid hL3;clear hL3 hC3;go_wp2;go_ret;exact ⟨rfl, LF.out, CF.out⟩
  · have hz3 : ¬ (jj : Int) = (c : Int) := by omega
    have hz2 : ((jj : Int) == (c : Int)) = false := beq_eq_false_iff_ne.2 hz3;have hz4 : ¬ (jj : Int) <= last := by omega
    have hjc : jj < c := by omega
    have hjl : last < (jj : Int) := by omega
    have Hjj := Lib.hid hjj; clear hjj;clear hz hPj;go_wp2;clear hz2 hz3 hz4 cb cn;go_loopw [5] (fun a_ wq => ∃ a : Nat, at_ <= a /\ a <= n /\ a_ = .int .i64 (a : Int) /\ Hid (∀ i, at_ <= i -> i < a -> leadOf R i < jj) /\ Hid (LadAt wq (S.withR R)) /\ Hid (Chg S.own w wq)) (fun a_ _ => n - (intOf a_).toNat)
    case atStart => exact ⟨at_, Nat.le_refl _, hat, rfl, fun i h1 h2 => by omega, L2, C2⟩
    case round =>
     obtain ⟨a, ha1, ha2, rfl, hlt, hLq, hCq⟩ := hrel;by_cases han : a < n
     · have haR : a < R.length := by omega
       have han1 : (a : Int) < (n : Int) := by omega
       have haR1 : (a : Int) < (R.length : Int) := by omega
       have cb : wr.cell? ⟨S.lb, 0, none⟩ = some (.slice (some ⟨S.o, 0, none⟩) R.length S.cap) := hLq.out.lad.cell 0;have ca : wr.cell? ⟨S.o, a, none⟩ = some (.slice (some ⟨R[a].blk, 0, none⟩) R[a].xs.length R[a].cap) := hLq.out.mat.hdr (i := a) haR;go_wp2_with fail
       refine (Lead_c R[a].blk R[a].cap R[a].xs _ (hLq.out.mat.row _ (List.getElem_mem (l := R) haR)) (fun x hx => by have := hF.out.fit _ (List.getElem_mem haR) x hx; omega) (by rw [hF.out.len _ (List.getElem_mem haR)]; omega)).mono ?_;rintro e w3 ⟨rfl, hb3⟩;have L3 := Lib.hid (hLq.out.below hb3);have C3 := Lib.hid (hCq.out.below hb3);clear hLq hCq hb3 cb ca;obtain ⟨la, hla⟩ : ∃ la, lead R[a].xs = la := ⟨_, rfl⟩;have hla2 : leadOf R a = la := (leadOf_eq haR).trans hla;rw [hla];have Hla := Lib.hid hla2; clear hla hla2;by_cases hlj : la < jj
       · have hlj1 : (la : Int) < (jj : Int) := by omega
         go_wp2;go_roundw
         case rel => exact ⟨a + 1, by omega, by omega, by go_num, Lib.hid (fun i h1 h2 => (Nat.lt_succ_iff_lt_or_eq.1 h2).elim (fun h => hlt.out i h1 h) (fun h => by subst h; rw [Hla.out]; exact hlj)), L3, C3⟩
         case measure => simp [intOf]; omega
       · have hlj1 : ¬ (la : Int) < (jj : Int) := by omega
         have haR2 : (a : Int) < (R.length : Int) := by omega
         have cb : w3.cell? ⟨S.lb, 0, none⟩ = some (.slice (some ⟨S.o, 0, none⟩) R.length S.cap) := L3.out.lad.cell 0;have ca : w3.cell? ⟨S.o, a, none⟩ = some (.slice (some ⟨R[a].blk, 0, none⟩) R[a].xs.length R[a].cap) := L3.out.mat.hdr (i := a) haR;have hanb : ((a : Int) == (n : Int)) = false := beq_eq_false_iff_ne.2 (by omega);have hane : ¬ (a : Int) = (n : Int) := by omega
         go_wp2_with fail
         refine (Lead_c R[a].blk R[a].cap R[a].xs _ (L3.out.mat.row _ (List.getElem_mem (l := R) haR)) (fun x hx => by have := hF.out.fit _ (List.getElem_mem haR) x hx; omega) (by rw [hF.out.len _ (List.getElem_mem haR)]; omega)).mono ?_;rintro e w4 ⟨rfl, hb4⟩;have L4 := Lib.hid (L3.out.below hb4);have C4 := Lib.hid (C3.out.below hb4);clear L3 C3 hb4 cb ca;have hla3 : lead R[a].xs = la := (leadOf_eq haR).symm.trans Hla.out;rw [hla3];clear hla3;by_cases hlaj : la = jj
         · have hcase : ent R a jj ≠ 0 /\ Fit B c (meetA R a n jj) /\ ent (meetA R a n jj) a jj ≠ 0 /\ PutT B c n a (jj : Int) (meetT R a n jj) res R' := by
            have hPj := hPt.out;have hx := hlt.out;have hl := Hla.out;have hd := Hld.out;cases hPj with
            | zero _ h _ => rw [hd] at h; omega
            | stop _ h1 h2 a' ha' hn' hlt' hb' _ _ =>
             rw [hd] at hlt' hb';rcases Nat.lt_trichotomy a' a with h | h | h
             · have := hx a' ha' h; omega
             · subst h; omega
             · have := hlt' a ha1 h; omega
            | meet _ h1 h2 a' ha' hn' hlt' hj' hp hF1 hp1 hs =>
             rw [hd] at hlt' hj' hp hF1 hp1 hs;have haa : a' = a := by
              rcases Nat.lt_trichotomy a' a with h | h | h
              · have := hx a' ha' h; omega
              · exact h
              · have := hlt' a ha1 h; omega
             subst haa;exact ⟨hp, hF1, hp1, hs⟩
           obtain ⟨m1, m2, m3, m4⟩ := hcase;have M4 := Lib.hid m4; clear m4;have hlb : ((la : Int) != (jj : Int)) = false := by rw [hlaj]; simp
           have hle2 : (la : Int) = (jj : Int) := by omega
           have Hlaj := Lib.hid hlaj; clear hlaj;have hmt := Meet_c (S.withR R) a n jj B c w4 L4.out haR hnR (by omega) hjc hB hF.out m2 m1 m3 (by show R.length <= 1000000; have := hRl.out; omega) hc;have HMt := Lib.hid hmt;clear m1 m2 m3 hmt;go_wp2_with fail
           refine HMt.out.mono ?_;rintro e w5 ⟨rfl, hL5, hC5⟩;have L5 := Lib.hid hL5;have C5 := Lib.hid (C4.out.trans (hC5.mono (fun q _ e => (hO.out q).1 e)));clear hL5 hC5 hlb hle2 hanb hane;go_wp2;go_roundw
           case rel => exact ⟨a, (jj : Int), meetT R a n jj, by omega, ⟨by omega, by omega⟩, by go_num, by go_num, Lib.hid ((meetT_length ..).trans hRl.out), M4, L5, C5, Lib.hid (fun q => (own_meetT (S.withR R) a n jj q).trans (hO.out q))⟩
           case measure =>
            simp only [intOf];omega
         · have hbr : a = n ∨ jj < leadOf R a := by have := Hla.out; omega
           have Hbr := Lib.hid hbr; clear hbr;have hlb : ((la : Int) != (jj : Int)) = true := by rw [bne_iff_ne]; omega
           have hle2 : ¬ (la : Int) = (jj : Int) := by omega
           clear hlaj;have hstop : res = true /\ Fit B c (swapsT a n (if ent R n jj < 0 then turnT R n else R)) /\ SOut B c (leadsOf (swapsT a n (if ent R n jj < 0 then turnT R n else R)) (n + 1)) (n + 1) (n + 1) (swapsT a n (if ent R n jj < 0 then turnT R n else R)) R' := by
            have hPj := hPt.out;have hx := hlt.out;have hd := Hld.out;have hbr := Hbr.out;cases hPj with
            | zero _ h _ => rw [hd] at h; omega
            | stop _ h1 h2 a' ha' hn' hlt' hb' hF2 hs =>
             rw [hd] at hlt' hb' hF2 hs;have haa : a' = a := by
              rcases Nat.lt_trichotomy a' a with h | h | h
              · have := hx a' ha' h; omega
              · exact h
              · have := hlt' a ha1 h; omega
             subst haa;exact ⟨rfl, hF2, hs⟩
            | meet _ h1 h2 a' ha' hn' hlt' hj' hp hF1 hp1 hs =>
             rw [hd] at hlt' hj';rcases Nat.lt_trichotomy a' a with h | h | h
             · have := hx a' ha' h; omega
             · subst h; omega
             · have := hlt' a ha1 h; omega
           obtain ⟨rfl, hF2, hs2⟩ := hstop;have HF2 := Lib.hid hF2; clear hF2;have HS2 := Lib.hid hs2; clear hs2;have hXn := L4.out.mat.row _ (List.getElem_mem (l := R) hnR);have hjn : jj < R[n].xs.length := by rw [Hcn.out]; exact hjc
           obtain ⟨pn, cp0, cp1, hpn⟩ := hXn.get hjn;have hx0 : R[n].xs[jj] ≠ 0 := lead_ne Hjj.out hjn;have hsg := hpn.sign hx0;have heN := ent_eq hnR hjn;have HXn := Lib.hid hXn; clear hXn;have Hsg := Lib.hid hsg; clear hsg;have HeN := Lib.hid heN; clear heN;clear hpn hx0;have cb : w4.cell? ⟨S.lb, 0, none⟩ = some (.slice (some ⟨S.o, 0, none⟩) R.length S.cap) := L4.out.lad.cell 0;have cn : w4.cell? ⟨S.o, n, none⟩ = some (.slice (some ⟨R[n].blk, 0, none⟩) R[n].xs.length R[n].cap) := L4.out.mat.hdr (i := n) hnR;have sb1 := HXn.out.lt;have sb3 : S.lb < w4.heap.size := L4.out.lad.lt;have sb4 : S.o < w4.heap.size := L4.out.mat.out.lt;have hjn1 : (jj : Int) < (R[n].xs.length : Int) := by omega
           go_wp2;refine wp_region_J ⟨18, fun q_ => [73, 74, 75, 76, 77, 78, 79, 80, 81, 82, 83, 84, 85, 86, 87, 88, 89, 90].getD q_ 0,
            fun q_ => [.val (.pointer (some ⟨S.lb, 0, none⟩)), .val (.pointer (some ⟨S.lb, 0, none⟩)), .val (.pointer (some ⟨S.lb, 0, none⟩)), .val (.slice (some ⟨S.o, 0, none⟩) R.length S.cap), .val (.int .i64 (n : Int)), .val (.pointer (some ⟨S.o, n, none⟩)), .val (.slice (some ⟨R[n].blk, 0, none⟩) R[n].xs.length R[n].cap), .val (.pointer (some ⟨S.lb, 0, none⟩)), .val (.pointer (some ⟨S.lb, 0, none⟩)), .val (.pointer (some ⟨S.lb, 0, none⟩)), .val (.slice (some ⟨S.o, 0, none⟩) R.length S.cap), .val (.int .i64 (n : Int)), .val (.pointer (some ⟨S.o, n, none⟩)), .val (.slice (some ⟨R[n].blk, 0, none⟩) R[n].xs.length R[n].cap), .val (.int .i64 (jj : Int)), .val (.pointer (some ⟨R[n].blk, jj * 2, none⟩)), .val (.pointer (some ⟨R[n].blk, jj * 2, none⟩)), .val (.bool pn.1)].getD q_ .any,
            [],
            [],
            [],
            [], [(⟨S.lb, 0, none⟩, .slice (some ⟨S.o, 0, none⟩) R.length S.cap), (⟨S.o, n, none⟩, .slice (some ⟨R[n].blk, 0, none⟩) R[n].xs.length R[n].cap), (⟨R[n].blk, jj * 2, none⟩, .bool pn.1)], []⟩ [73, 74, 75, 76, 77, 78, 79, 80, 81, 82, 83, 84, 85, 86, 87, 88, 89, 90] (w4.heap.size) (by kernel_rfl) (by kernel_rfl) (by kernel_rfl) (by kernel_rfl) ?_ ?_ ?_ ?_ ?_ ?_
           · intro p hp;cases hp
           · intro p hp;cases hp
           · intro p hp;rcases mc hp with rfl | hp
             · refine ⟨cb, by show S.lb < w4.heap.size; omega, ?_⟩;intro t ht;cases ht
             rcases mc hp with rfl | hp
             · refine ⟨cn, by show S.o < w4.heap.size; omega, ?_⟩;intro t ht;cases ht
             rcases mc hp with rfl | hp
             · refine ⟨cp0, by show R[n].blk < w4.heap.size; omega, ?_⟩;intro t ht;cases ht
             cases hp
           · intro t ht;cases ht
           · refine allc ?_ (allc ?_ (allc ?_ (allc ?_ (allc ?_ (allc ?_ (allc ?_ (allc ?_ (allc ?_ (allc ?_ (allc ?_ (allc ?_ (allc ?_ (allc ?_ (allc ?_ (allc ?_ (allc ?_ (allc ?_ alln)))))))))))))))));any_goals (first | (intro L fx w' hJ hL hp hcl; have _ := hp0 hp (by decide +kernel); refine wps rfl fun K hK => ?_; go_simp; exact hJ.q hK (by kernel_rfl) rfl) | fail)
             · intro L fx w' hJ hL hp hcl;have e0 := hJ.pt 0 73 (.pointer (some ⟨S.lb, 0, none⟩)) rfl rfl rfl (hp 0 (by decide));rw [e0] at hJ ⊢; clear e0;refine wps rfl fun K hK => ?_;go_simp;exact hJ.q hK (by kernel_rfl) rfl
             · intro L fx w' hJ hL hp hcl;have e1 := hJ.pt 1 74 (.pointer (some ⟨S.lb, 0, none⟩)) rfl rfl rfl (hp 1 (by decide));rw [e1] at hJ ⊢; clear e1;refine wps rfl fun K hK => ?_;go_simp;exact hJ.q hK (by kernel_rfl) rfl
             · intro L fx w' hJ hL hp hcl;have e2 := hJ.pt 2 75 (.pointer (some ⟨S.lb, 0, none⟩)) rfl rfl rfl (hp 2 (by decide));rw [e2] at hJ ⊢; clear e2;refine wps rfl fun K hK => ?_;have cl0 := (hJ.cells _ mm0).1;try dsimp only at cl0
               go_simp;exact hJ.q hK (by kernel_rfl) rfl
             · intro L fx w' hJ hL hp hcl;have e3 := hJ.pt 3 76 (.slice (some ⟨S.o, 0, none⟩) R.length S.cap) rfl rfl rfl (hp 3 (by decide));rw [e3] at hJ ⊢; clear e3;have e4 := hJ.pt 4 77 (.int .i64 (n : Int)) rfl rfl rfl (hp 4 (by decide));rw [e4] at hJ ⊢; clear e4;refine wps rfl fun K hK => ?_;go_simp;exact hJ.q hK (by kernel_rfl) rfl
             · intro L fx w' hJ hL hp hcl;have e5 := hJ.pt 5 78 (.pointer (some ⟨S.o, n, none⟩)) rfl rfl rfl (hp 5 (by decide));rw [e5] at hJ ⊢; clear e5;refine wps rfl fun K hK => ?_;have cl0 := (hJ.cells _ mm1).1;try dsimp only at cl0
               go_simp;exact hJ.q hK (by kernel_rfl) rfl
             · intro L fx w' hJ hL hp hcl;have e7 := hJ.pt 7 80 (.pointer (some ⟨S.lb, 0, none⟩)) rfl rfl rfl (hp 7 (by decide));rw [e7] at hJ ⊢; clear e7;refine wps rfl fun K hK => ?_;go_simp;exact hJ.q hK (by kernel_rfl) rfl
             · intro L fx w' hJ hL hp hcl;have e8 := hJ.pt 8 81 (.pointer (some ⟨S.lb, 0, none⟩)) rfl rfl rfl (hp 8 (by decide));rw [e8] at hJ ⊢; clear e8;refine wps rfl fun K hK => ?_;go_simp;exact hJ.q hK (by kernel_rfl) rfl
             · intro L fx w' hJ hL hp hcl;have e9 := hJ.pt 9 82 (.pointer (some ⟨S.lb, 0, none⟩)) rfl rfl rfl (hp 9 (by decide));rw [e9] at hJ ⊢; clear e9;refine wps rfl fun K hK => ?_;have cl0 := (hJ.cells _ mm0).1;try dsimp only at cl0
               go_simp;exact hJ.q hK (by kernel_rfl) rfl
             · intro L fx w' hJ hL hp hcl;have e10 := hJ.pt 10 83 (.slice (some ⟨S.o, 0, none⟩) R.length S.cap) rfl rfl rfl (hp 10 (by decide));rw [e10] at hJ ⊢; clear e10;have e11 := hJ.pt 11 84 (.int .i64 (n : Int)) rfl rfl rfl (hp 11 (by decide));rw [e11] at hJ ⊢; clear e11;refine wps rfl fun K hK => ?_;go_simp;exact hJ.q hK (by kernel_rfl) rfl
             · intro L fx w' hJ hL hp hcl;have e12 := hJ.pt 12 85 (.pointer (some ⟨S.o, n, none⟩)) rfl rfl rfl (hp 12 (by decide));rw [e12] at hJ ⊢; clear e12;refine wps rfl fun K hK => ?_;have cl0 := (hJ.cells _ mm1).1;try dsimp only at cl0
               go_simp;exact hJ.q hK (by kernel_rfl) rfl
             · intro L fx w' hJ hL hp hcl;have e13 := hJ.pt 13 86 (.slice (some ⟨R[n].blk, 0, none⟩) R[n].xs.length R[n].cap) rfl rfl rfl (hp 13 (by decide));rw [e13] at hJ ⊢; clear e13;refine wps rfl fun K hK => ?_;go_simp;go_at_call 46;refine (Lead_c R[n].blk R[n].cap R[n].xs _ (RowN.below (w := w4.drew) HXn.out hJ.fr) (fun x hx => by have := hF.out.fit _ (List.getElem_mem hnR) x hx; omega) (by rw [Hcn.out]; omega)).mono ?_;rintro e w4 ⟨rfl, hb4⟩;try dsimp only
               rw [Hjj.out];exact hK _ _ ⟨_, by kernel_rfl, hJ.gC 14 rfl (by kernel_rfl) hb4 rfl (by omega)⟩
             · intro L fx w' hJ hL hp hcl;have e6 := hJ.pt 6 79 (.slice (some ⟨R[n].blk, 0, none⟩) R[n].xs.length R[n].cap) rfl rfl rfl (hp 6 (by decide));rw [e6] at hJ ⊢; clear e6;have e14 := hJ.pt 14 87 (.int .i64 (jj : Int)) rfl rfl rfl (hp 14 (by decide));rw [e14] at hJ ⊢; clear e14;refine wps rfl fun K hK => ?_;go_simp;exact hJ.q hK (by kernel_rfl) rfl
             · intro L fx w' hJ hL hp hcl;have e15 := hJ.pt 15 88 (.pointer (some ⟨R[n].blk, jj * 2, none⟩)) rfl rfl rfl (hp 15 (by decide));rw [e15] at hJ ⊢; clear e15;refine wps rfl fun K hK => ?_;go_simp;exact hJ.q hK (by kernel_rfl) rfl
             · intro L fx w' hJ hL hp hcl;have e16 := hJ.pt 16 89 (.pointer (some ⟨R[n].blk, jj * 2, none⟩)) rfl rfl rfl (hp 16 (by decide));rw [e16] at hJ ⊢; clear e16;refine wps rfl fun K hK => ?_;have cl0 := (hJ.cells _ mm2).1;try dsimp only at cl0
               go_simp;exact hJ.q hK (by kernel_rfl) rfl
           · intro L' x1 w7 hL hJ;have hfr : Below w4.drew.heap.size w4.drew w7 := hJ.fr;have e17 : x1 90 = .bool pn.1 := hJ.slot 17 (by show 17 < 18; decide) (hL 17 (by show 17 < 18; decide));rw [patchX (x := x1) (d := 90) (v := .bool pn.1) e17];clear hJ hL e17 cb cn cp0 cp1;have L7 := Lib.hid (LadAt.below (w := w4.drew) L4.out.drew hfr);have C7 := Lib.hid (C4.out.drew.below hfr);clear hfr;simp only [pN, Nat.reduceEqDiff, ↓reduceIte];cases hneg : pn.1
             · have hif : (if ent R n jj < 0 then turnT R n else R) = R := if_neg (by
                have := Hsg.out; rw [hneg] at this; rw [HeN.out]; simpa using this.symm)
               have HRF := Lib.hid HF2.out; have HSF := Lib.hid HS2.out;rw [hif] at HRF HSF;clear hif;obtain ⟨RF, hRF⟩ : ∃ RF, swapsT a n R = RF := ⟨_, rfl⟩;rw [hRF] at HRF HSF;have HRFe := Lib.hid hRF; clear hRF;go_wp2;go_loopw [8] (fun i_ wq => ∃ (i : Nat) (R8 : List Hd), i <= n /\ a <= i /\ i_ = .int .i64 (i : Int) /\ Hid (swapsT a i R8 = RF) /\ Hid (R8.length = S.R.length) /\ Hid (LadAt wq (S.withR R8)) /\ Hid (Chg S.own w wq) /\ Hid (∀ k, (S.withR R8).own k ↔ S.own k)) (fun i_ _ => (intOf i_).toNat)
               case atStart => exact ⟨n, R, Nat.le_refl _, ha2, rfl, HRFe, hRl, L7, C7, hO⟩
               case round =>
                obtain ⟨i, R8, hin, hai, rfl, hSw, hR8, hL8, hC8, hO8⟩ := hrel;by_cases hia : a < i
                · obtain ⟨i', rfl⟩ : ∃ i', i = i' + 1 := ⟨i - 1, by omega⟩;have hi8 : i' + 1 < R8.length := by have := hR8.out; have := hRl.out; omega
                  have hi8' : i' < R8.length := by omega
                  have hia1 : (a : Int) < ((i' + 1 : Nat) : Int) := by omega
                  have hcast : ((i' + 1 : Nat) : Int) - 1 = (i' : Int) := by omega
                  have hms := MSwap_c (S.withR R8) (i' + 1) i' wr hL8.out hi8 hi8' (by omega);have HMs := Lib.hid hms; clear hms;have hcast2 : ((i' + 1 : Nat) : Int) = (i' : Int) + 1 := by omega
                  rw [hcast2] at hia1 hcast HMs ⊢;clear hcast2;have hia2 : (a : Int) < (i' : Int) + 1 := hia1;have hcast3 : (i' : Int) + 1 - 1 = (i' : Int) := by omega
                  go_wp2_with fail
                  refine HMs.out.mono ?_;rintro e w9 ⟨rfl, hL9, hC9⟩;have L9 := Lib.hid hL9;have C9 := Lib.hid (hC8.out.trans (hC9.mono (fun q _ e => (hO8.out q).1 e)));clear hL9 hC9;go_wp2;go_roundw
                  case rel =>
                   refine ⟨i', swapT R8 (i' + 1) i', by omega, by omega, by go_num, ?_, Lib.hid ((swapT_length ..).trans hR8.out), ?_, C9, Lib.hid (fun q => (own_swapT (S.withR R8) (i' + 1) i' q).trans (hO8.out q))⟩
                   · have := hSw.out;unfold swapsT at this;rw [if_neg (by omega)] at this;exact this
                   · rw [swapT_eq hi8 hi8']; exact L9
                  case measure => simp only [intOf]; omega
                · obtain rfl : i = a := by omega
                  have hR8F : R8 = RF := by
                   have := hSw.out;cases i with
                   | zero => exact this
                   | succ q => unfold swapsT at this; rw [if_pos (Nat.le_refl _)] at this; exact this
                  subst hR8F;have hset := Settle_c (S.withR R8) (n + 1) B c R' wr hL8.out (by show n + 1 <= R8.length; have := hR8.out; omega) (by omega) HRF.out HSF.out (by show R8.length <= 1000000; have := hR8.out; omega) hc;have HSet := Lib.hid hset; clear hset;have hcn1 : ((n + 1 : Nat) : Int) = (n : Int) + 1 := by omega
                  rw [hcn1] at HSet;clear hcn1;have hgt : ¬ (i : Int) > (i : Int) := by omega
                  go_wp2_with fail
                  refine HSet.out.mono ?_;rintro e w9 ⟨rfl, hL9, hC9⟩;have L9 := Lib.hid hL9;have C9 := Lib.hid (hC8.out.trans (hC9.mono (fun q _ e => (hO8.out q).1 e)));clear hL9 hC9;go_wp2;go_ret;exact ⟨rfl, L9.out, C9.out⟩
             · have hif : (if ent R n jj < 0 then turnT R n else R) = turnT R n := if_pos (by
                have := Hsg.out; rw [hneg] at this; rw [HeN.out]; simpa using this.symm)
               have hlenN : R[n].xs.length <= 4611686018427387903 := by rw [Hcn.out]; omega
               have hmt := MTurn_c (S.withR R) n w7 L7.out hnR (fun x hx => by have := hF.out.fit _ (List.getElem_mem hnR) x hx; omega) hlenN;have HMt := Lib.hid hmt; clear hmt;go_wp2_with fail
               refine HMt.out.mono ?_;rintro e w8 ⟨rfl, hL8, hC8⟩;have C8 := Lib.hid (C7.out.trans (hC8.mono (fun q _ e => (hO.out q).1 e)));have L8 : Hid (LadAt w8 (S.withR (turnT R n))) := by rw [turnT_eq hnR]; exact hL8
               have O8 : Hid (∀ k, (S.withR (turnT R n)).own k ↔ S.own k) := fun q => (own_turnT (S.withR R) n q).trans (hO.out q);have N8 : Hid ((turnT R n).length = S.R.length) := (turnT_length ..).trans hRl.out;clear hL8 hC8;have HRF := Lib.hid HF2.out; have HSF := Lib.hid HS2.out;rw [hif] at HRF HSF;clear hif;obtain ⟨RF, hRF⟩ : ∃ RF, swapsT a n (turnT R n) = RF := ⟨_, rfl⟩;rw [hRF] at HRF HSF;have HRFe := Lib.hid hRF; clear hRF;go_wp2;go_loopw [8] (fun i_ wq => ∃ (i : Nat) (R8 : List Hd), i <= n /\ a <= i /\ i_ = .int .i64 (i : Int) /\ Hid (swapsT a i R8 = RF) /\ Hid (R8.length = S.R.length) /\ Hid (LadAt wq (S.withR R8)) /\ Hid (Chg S.own w wq) /\ Hid (∀ k, (S.withR R8).own k ↔ S.own k)) (fun i_ _ => (intOf i_).toNat)
               case atStart => exact ⟨n, (turnT R n), Nat.le_refl _, ha2, rfl, HRFe, N8, L8, C8, O8⟩
               case round =>
                obtain ⟨i, R8, hin, hai, rfl, hSw, hR8, hL8, hC8, hO8⟩ := hrel;by_cases hia : a < i
                · obtain ⟨i', rfl⟩ : ∃ i', i = i' + 1 := ⟨i - 1, by omega⟩;have hi8 : i' + 1 < R8.length := by have := hR8.out; have := hRl.out; omega
                  have hi8' : i' < R8.length := by omega
                  have hia1 : (a : Int) < ((i' + 1 : Nat) : Int) := by omega
                  have hcast : ((i' + 1 : Nat) : Int) - 1 = (i' : Int) := by omega
                  have hms := MSwap_c (S.withR R8) (i' + 1) i' wr hL8.out hi8 hi8' (by omega);have HMs := Lib.hid hms; clear hms;have hcast2 : ((i' + 1 : Nat) : Int) = (i' : Int) + 1 := by omega
                  rw [hcast2] at hia1 hcast HMs ⊢;clear hcast2;have hia2 : (a : Int) < (i' : Int) + 1 := hia1;have hcast3 : (i' : Int) + 1 - 1 = (i' : Int) := by omega
                  go_wp2_with fail
                  refine HMs.out.mono ?_;rintro e w9 ⟨rfl, hL9, hC9⟩;have L9 := Lib.hid hL9;have C9 := Lib.hid (hC8.out.trans (hC9.mono (fun q _ e => (hO8.out q).1 e)));clear hL9 hC9;go_wp2;go_roundw
                  case rel =>
                   refine ⟨i', swapT R8 (i' + 1) i', by omega, by omega, by go_num, ?_, Lib.hid ((swapT_length ..).trans hR8.out), ?_, C9, Lib.hid (fun q => (own_swapT (S.withR R8) (i' + 1) i' q).trans (hO8.out q))⟩
                   · have := hSw.out;unfold swapsT at this;rw [if_neg (by omega)] at this;exact this
                   · rw [swapT_eq hi8 hi8']; exact L9
                  case measure => simp only [intOf]; omega
                · obtain rfl : i = a := by omega
                  have hR8F : R8 = RF := by
                   have := hSw.out;cases i with
                   | zero => exact this
                   | succ q => unfold swapsT at this; rw [if_pos (Nat.le_refl _)] at this; exact this
                  subst hR8F;have hset := Settle_c (S.withR R8) (n + 1) B c R' wr hL8.out (by show n + 1 <= R8.length; have := hR8.out; omega) (by omega) HRF.out HSF.out (by show R8.length <= 1000000; have := hR8.out; omega) hc;have HSet := Lib.hid hset; clear hset;have hcn1 : ((n + 1 : Nat) : Int) = (n : Int) + 1 := by omega
                  rw [hcn1] at HSet;clear hcn1;have hgt : ¬ (i : Int) > (i : Int) := by omega
                  go_wp2_with fail
                  refine HSet.out.mono ?_;rintro e w9 ⟨rfl, hL9, hC9⟩;have L9 := Lib.hid hL9;have C9 := Lib.hid (hC8.out.trans (hC9.mono (fun q _ e => (hO8.out q).1 e)));clear hL9 hC9;go_wp2;go_ret;exact ⟨rfl, L9.out, C9.out⟩
     · have hbr : a = n ∨ jj < leadOf R a := by omega
       have Hbr := Lib.hid hbr; clear hbr;have hnlt : ¬ (a : Int) < (n : Int) := by omega
       have hanb : ((a : Int) == (n : Int)) = true := by rw [beq_iff_eq]; omega
       have hstop : res = true /\ Fit B c (swapsT a n (if ent R n jj < 0 then turnT R n else R)) /\ SOut B c (leadsOf (swapsT a n (if ent R n jj < 0 then turnT R n else R)) (n + 1)) (n + 1) (n + 1) (swapsT a n (if ent R n jj < 0 then turnT R n else R)) R' := by
        have hPj := hPt.out;have hx := hlt.out;have hd := Hld.out;have hbr := Hbr.out;cases hPj with
        | zero _ h _ => rw [hd] at h; omega
        | stop _ h1 h2 a' ha' hn' hlt' hb' hF2 hs =>
         rw [hd] at hlt' hb' hF2 hs;have haa : a' = a := by
          rcases Nat.lt_trichotomy a' a with h | h | h
          · have := hx a' ha' h; omega
          · exact h
          · have := hlt' a ha1 h; omega
         subst haa;exact ⟨rfl, hF2, hs⟩
        | meet _ h1 h2 a' ha' hn' hlt' hj' hp hF1 hp1 hs =>
         rw [hd] at hlt' hj';rcases Nat.lt_trichotomy a' a with h | h | h
         · have := hx a' ha' h; omega
         · subst h; omega
         · have := hlt' a ha1 h; omega
       obtain ⟨rfl, hF2, hs2⟩ := hstop;have HF2 := Lib.hid hF2; clear hF2;have HS2 := Lib.hid hs2; clear hs2;have hXn := hLq.out.mat.row _ (List.getElem_mem (l := R) hnR);have hjn : jj < R[n].xs.length := by rw [Hcn.out]; exact hjc
       obtain ⟨pn, cp0, cp1, hpn⟩ := hXn.get hjn;have hx0 : R[n].xs[jj] ≠ 0 := lead_ne Hjj.out hjn;have hsg := hpn.sign hx0;have heN := ent_eq hnR hjn;have HXn := Lib.hid hXn; clear hXn;have Hsg := Lib.hid hsg; clear hsg;have HeN := Lib.hid heN; clear heN;clear hpn hx0;have cb : wr.cell? ⟨S.lb, 0, none⟩ = some (.slice (some ⟨S.o, 0, none⟩) R.length S.cap) := hLq.out.lad.cell 0;have cn : wr.cell? ⟨S.o, n, none⟩ = some (.slice (some ⟨R[n].blk, 0, none⟩) R[n].xs.length R[n].cap) := hLq.out.mat.hdr (i := n) hnR;have sb1 := HXn.out.lt;have sb3 : S.lb < wr.heap.size := hLq.out.lad.lt;have sb4 : S.o < wr.heap.size := hLq.out.mat.out.lt;have hjn1 : (jj : Int) < (R[n].xs.length : Int) := by omega
       go_wp2;refine wp_region_J ⟨18, fun q_ => [73, 74, 75, 76, 77, 78, 79, 80, 81, 82, 83, 84, 85, 86, 87, 88, 89, 90].getD q_ 0,
        fun q_ => [.val (.pointer (some ⟨S.lb, 0, none⟩)), .val (.pointer (some ⟨S.lb, 0, none⟩)), .val (.pointer (some ⟨S.lb, 0, none⟩)), .val (.slice (some ⟨S.o, 0, none⟩) R.length S.cap), .val (.int .i64 (n : Int)), .val (.pointer (some ⟨S.o, n, none⟩)), .val (.slice (some ⟨R[n].blk, 0, none⟩) R[n].xs.length R[n].cap), .val (.pointer (some ⟨S.lb, 0, none⟩)), .val (.pointer (some ⟨S.lb, 0, none⟩)), .val (.pointer (some ⟨S.lb, 0, none⟩)), .val (.slice (some ⟨S.o, 0, none⟩) R.length S.cap), .val (.int .i64 (n : Int)), .val (.pointer (some ⟨S.o, n, none⟩)), .val (.slice (some ⟨R[n].blk, 0, none⟩) R[n].xs.length R[n].cap), .val (.int .i64 (jj : Int)), .val (.pointer (some ⟨R[n].blk, jj * 2, none⟩)), .val (.pointer (some ⟨R[n].blk, jj * 2, none⟩)), .val (.bool pn.1)].getD q_ .any,
        [],
        [],
        [],
        [], [(⟨S.lb, 0, none⟩, .slice (some ⟨S.o, 0, none⟩) R.length S.cap), (⟨S.o, n, none⟩, .slice (some ⟨R[n].blk, 0, none⟩) R[n].xs.length R[n].cap), (⟨R[n].blk, jj * 2, none⟩, .bool pn.1)], []⟩ [73, 74, 75, 76, 77, 78, 79, 80, 81, 82, 83, 84, 85, 86, 87, 88, 89, 90] (wr.heap.size) (by kernel_rfl) (by kernel_rfl) (by kernel_rfl) (by kernel_rfl) ?_ ?_ ?_ ?_ ?_ ?_
       · intro p hp;cases hp
       · intro p hp;cases hp
       · intro p hp;rcases mc hp with rfl | hp
         · refine ⟨cb, by show S.lb < wr.heap.size; omega, ?_⟩;intro t ht;cases ht
         rcases mc hp with rfl | hp
         · refine ⟨cn, by show S.o < wr.heap.size; omega, ?_⟩;intro t ht;cases ht
         rcases mc hp with rfl | hp
         · refine ⟨cp0, by show R[n].blk < wr.heap.size; omega, ?_⟩;intro t ht;cases ht
         cases hp
       · intro t ht;cases ht
       · refine allc ?_ (allc ?_ (allc ?_ (allc ?_ (allc ?_ (allc ?_ (allc ?_ (allc ?_ (allc ?_ (allc ?_ (allc ?_ (allc ?_ (allc ?_ (allc ?_ (allc ?_ (allc ?_ (allc ?_ (allc ?_ alln)))))))))))))))));any_goals (first | (intro L fx w' hJ hL hp hcl; have _ := hp0 hp (by decide +kernel); refine wps rfl fun K hK => ?_; go_simp; exact hJ.q hK (by kernel_rfl) rfl) | fail)
         · intro L fx w' hJ hL hp hcl;have e0 := hJ.pt 0 73 (.pointer (some ⟨S.lb, 0, none⟩)) rfl rfl rfl (hp 0 (by decide));rw [e0] at hJ ⊢; clear e0;refine wps rfl fun K hK => ?_;go_simp;exact hJ.q hK (by kernel_rfl) rfl
         · intro L fx w' hJ hL hp hcl;have e1 := hJ.pt 1 74 (.pointer (some ⟨S.lb, 0, none⟩)) rfl rfl rfl (hp 1 (by decide));rw [e1] at hJ ⊢; clear e1;refine wps rfl fun K hK => ?_;go_simp;exact hJ.q hK (by kernel_rfl) rfl
         · intro L fx w' hJ hL hp hcl;have e2 := hJ.pt 2 75 (.pointer (some ⟨S.lb, 0, none⟩)) rfl rfl rfl (hp 2 (by decide));rw [e2] at hJ ⊢; clear e2;refine wps rfl fun K hK => ?_;have cl0 := (hJ.cells _ mm0).1;try dsimp only at cl0
           go_simp;exact hJ.q hK (by kernel_rfl) rfl
         · intro L fx w' hJ hL hp hcl;have e3 := hJ.pt 3 76 (.slice (some ⟨S.o, 0, none⟩) R.length S.cap) rfl rfl rfl (hp 3 (by decide));rw [e3] at hJ ⊢; clear e3;have e4 := hJ.pt 4 77 (.int .i64 (n : Int)) rfl rfl rfl (hp 4 (by decide));rw [e4] at hJ ⊢; clear e4;refine wps rfl fun K hK => ?_;go_simp;exact hJ.q hK (by kernel_rfl) rfl
         · intro L fx w' hJ hL hp hcl;have e5 := hJ.pt 5 78 (.pointer (some ⟨S.o, n, none⟩)) rfl rfl rfl (hp 5 (by decide));rw [e5] at hJ ⊢; clear e5;refine wps rfl fun K hK => ?_;have cl0 := (hJ.cells _ mm1).1;try dsimp only at cl0
           go_simp;exact hJ.q hK (by kernel_rfl) rfl
         · intro L fx w' hJ hL hp hcl;have e7 := hJ.pt 7 80 (.pointer (some ⟨S.lb, 0, none⟩)) rfl rfl rfl (hp 7 (by decide));rw [e7] at hJ ⊢; clear e7;refine wps rfl fun K hK => ?_;go_simp;exact hJ.q hK (by kernel_rfl) rfl
         · intro L fx w' hJ hL hp hcl;have e8 := hJ.pt 8 81 (.pointer (some ⟨S.lb, 0, none⟩)) rfl rfl rfl (hp 8 (by decide));rw [e8] at hJ ⊢; clear e8;refine wps rfl fun K hK => ?_;go_simp;exact hJ.q hK (by kernel_rfl) rfl
         · intro L fx w' hJ hL hp hcl;have e9 := hJ.pt 9 82 (.pointer (some ⟨S.lb, 0, none⟩)) rfl rfl rfl (hp 9 (by decide));rw [e9] at hJ ⊢; clear e9;refine wps rfl fun K hK => ?_;have cl0 := (hJ.cells _ mm0).1;try dsimp only at cl0
           go_simp;exact hJ.q hK (by kernel_rfl) rfl
         · intro L fx w' hJ hL hp hcl;have e10 := hJ.pt 10 83 (.slice (some ⟨S.o, 0, none⟩) R.length S.cap) rfl rfl rfl (hp 10 (by decide));rw [e10] at hJ ⊢; clear e10;have e11 := hJ.pt 11 84 (.int .i64 (n : Int)) rfl rfl rfl (hp 11 (by decide));rw [e11] at hJ ⊢; clear e11;refine wps rfl fun K hK => ?_;go_simp;exact hJ.q hK (by kernel_rfl) rfl
         · intro L fx w' hJ hL hp hcl;have e12 := hJ.pt 12 85 (.pointer (some ⟨S.o, n, none⟩)) rfl rfl rfl (hp 12 (by decide));rw [e12] at hJ ⊢; clear e12;refine wps rfl fun K hK => ?_;have cl0 := (hJ.cells _ mm1).1;try dsimp only at cl0
           go_simp;exact hJ.q hK (by kernel_rfl) rfl
         · intro L fx w' hJ hL hp hcl;have e13 := hJ.pt 13 86 (.slice (some ⟨R[n].blk, 0, none⟩) R[n].xs.length R[n].cap) rfl rfl rfl (hp 13 (by decide));rw [e13] at hJ ⊢; clear e13;refine wps rfl fun K hK => ?_;go_simp;go_at_call 46;refine (Lead_c R[n].blk R[n].cap R[n].xs _ (RowN.below (w := wr.drew) HXn.out hJ.fr) (fun x hx => by have := hF.out.fit _ (List.getElem_mem hnR) x hx; omega) (by rw [Hcn.out]; omega)).mono ?_;rintro e w4 ⟨rfl, hb4⟩;try dsimp only
           rw [Hjj.out];exact hK _ _ ⟨_, by kernel_rfl, hJ.gC 14 rfl (by kernel_rfl) hb4 rfl (by omega)⟩
         · intro L fx w' hJ hL hp hcl;have e6 := hJ.pt 6 79 (.slice (some ⟨R[n].blk, 0, none⟩) R[n].xs.length R[n].cap) rfl rfl rfl (hp 6 (by decide));rw [e6] at hJ ⊢; clear e6;have e14 := hJ.pt 14 87 (.int .i64 (jj : Int)) rfl rfl rfl (hp 14 (by decide));rw [e14] at hJ ⊢; clear e14;refine wps rfl fun K hK => ?_;go_simp;exact hJ.q hK (by kernel_rfl) rfl
         · intro L fx w' hJ hL hp hcl;have e15 := hJ.pt 15 88 (.pointer (some ⟨R[n].blk, jj * 2, none⟩)) rfl rfl rfl (hp 15 (by decide));rw [e15] at hJ ⊢; clear e15;refine wps rfl fun K hK => ?_;go_simp;exact hJ.q hK (by kernel_rfl) rfl
         · intro L fx w' hJ hL hp hcl;have e16 := hJ.pt 16 89 (.pointer (some ⟨R[n].blk, jj * 2, none⟩)) rfl rfl rfl (hp 16 (by decide));rw [e16] at hJ ⊢; clear e16;refine wps rfl fun K hK => ?_;have cl0 := (hJ.cells _ mm2).1;try dsimp only at cl0
           go_simp;exact hJ.q hK (by kernel_rfl) rfl
       · intro L' x1 w7 hL hJ;have hfr : Below wr.drew.heap.size wr.drew w7 := hJ.fr;have e17 : x1 90 = .bool pn.1 := hJ.slot 17 (by show 17 < 18; decide) (hL 17 (by show 17 < 18; decide));rw [patchX (x := x1) (d := 90) (v := .bool pn.1) e17];clear hJ hL e17 cb cn cp0 cp1;have L7 := Lib.hid (LadAt.below (w := wr.drew) hLq.out.drew hfr);have C7 := Lib.hid (hCq.out.drew.below hfr);clear hfr;simp only [pN, Nat.reduceEqDiff, ↓reduceIte];cases hneg : pn.1
         · have hif : (if ent R n jj < 0 then turnT R n else R) = R := if_neg (by
            have := Hsg.out; rw [hneg] at this; rw [HeN.out]; simpa using this.symm)
           have HRF := Lib.hid HF2.out; have HSF := Lib.hid HS2.out;rw [hif] at HRF HSF;clear hif;obtain ⟨RF, hRF⟩ : ∃ RF, swapsT a n R = RF := ⟨_, rfl⟩;rw [hRF] at HRF HSF;have HRFe := Lib.hid hRF; clear hRF;go_wp2;go_loopw [8] (fun i_ wq => ∃ (i : Nat) (R8 : List Hd), i <= n /\ a <= i /\ i_ = .int .i64 (i : Int) /\ Hid (swapsT a i R8 = RF) /\ Hid (R8.length = S.R.length) /\ Hid (LadAt wq (S.withR R8)) /\ Hid (Chg S.own w wq) /\ Hid (∀ k, (S.withR R8).own k ↔ S.own k)) (fun i_ _ => (intOf i_).toNat)
           case atStart => exact ⟨n, R, Nat.le_refl _, ha2, rfl, HRFe, hRl, L7, C7, hO⟩
           case round =>
            obtain ⟨i, R8, hin, hai, rfl, hSw, hR8, hL8, hC8, hO8⟩ := hrel;by_cases hia : a < i
            · obtain ⟨i', rfl⟩ : ∃ i', i = i' + 1 := ⟨i - 1, by omega⟩;have hi8 : i' + 1 < R8.length := by have := hR8.out; have := hRl.out; omega
              have hi8' : i' < R8.length := by omega
              have hia1 : (a : Int) < ((i' + 1 : Nat) : Int) := by omega
              have hcast : ((i' + 1 : Nat) : Int) - 1 = (i' : Int) := by omega
              have hms := MSwap_c (S.withR R8) (i' + 1) i' wr hL8.out hi8 hi8' (by omega);have HMs := Lib.hid hms; clear hms;have hcast2 : ((i' + 1 : Nat) : Int) = (i' : Int) + 1 := by omega
              rw [hcast2] at hia1 hcast HMs ⊢;clear hcast2;have hia2 : (a : Int) < (i' : Int) + 1 := hia1;have hcast3 : (i' : Int) + 1 - 1 = (i' : Int) := by omega
              go_wp2_with fail
              refine HMs.out.mono ?_;rintro e w9 ⟨rfl, hL9, hC9⟩;have L9 := Lib.hid hL9;have C9 := Lib.hid (hC8.out.trans (hC9.mono (fun q _ e => (hO8.out q).1 e)));clear hL9 hC9;go_wp2;go_roundw
              case rel =>
               refine ⟨i', swapT R8 (i' + 1) i', by omega, by omega, by go_num, ?_, Lib.hid ((swapT_length ..).trans hR8.out), ?_, C9, Lib.hid (fun q => (own_swapT (S.withR R8) (i' + 1) i' q).trans (hO8.out q))⟩
               · have := hSw.out;unfold swapsT at this;rw [if_neg (by omega)] at this;exact this
               · rw [swapT_eq hi8 hi8']; exact L9
              case measure => simp only [intOf]; omega
            · obtain rfl : i = a := by omega
              have hR8F : R8 = RF := by
               have := hSw.out;cases i with
               | zero => exact this
               | succ q => unfold swapsT at this; rw [if_pos (Nat.le_refl _)] at this; exact this
              subst hR8F;have hset := Settle_c (S.withR R8) (n + 1) B c R' wr hL8.out (by show n + 1 <= R8.length; have := hR8.out; omega) (by omega) HRF.out HSF.out (by show R8.length <= 1000000; have := hR8.out; omega) hc;have HSet := Lib.hid hset; clear hset;have hcn1 : ((n + 1 : Nat) : Int) = (n : Int) + 1 := by omega
              rw [hcn1] at HSet;clear hcn1;have hgt : ¬ (i : Int) > (i : Int) := by omega
              go_wp2_with fail
              refine HSet.out.mono ?_;rintro e w9 ⟨rfl, hL9, hC9⟩;have L9 := Lib.hid hL9;have C9 := Lib.hid (hC8.out.trans (hC9.mono (fun q _ e => (hO8.out q).1 e)));clear hL9 hC9;go_wp2;go_ret;exact ⟨rfl, L9.out, C9.out⟩
         · have hif : (if ent R n jj < 0 then turnT R n else R) = turnT R n := if_pos (by
            have := Hsg.out; rw [hneg] at this; rw [HeN.out]; simpa using this.symm)
           have hlenN : R[n].xs.length <= 4611686018427387903 := by rw [Hcn.out]; omega
           have hmt := MTurn_c (S.withR R) n w7 L7.out hnR (fun x hx => by have := hF.out.fit _ (List.getElem_mem hnR) x hx; omega) hlenN;have HMt := Lib.hid hmt; clear hmt;go_wp2_with fail
           refine HMt.out.mono ?_;rintro e w8 ⟨rfl, hL8, hC8⟩;have C8 := Lib.hid (C7.out.trans (hC8.mono (fun q _ e => (hO.out q).1 e)));have L8 : Hid (LadAt w8 (S.withR (turnT R n))) := by rw [turnT_eq hnR]; exact hL8
           have O8 : Hid (∀ k, (S.withR (turnT R n)).own k ↔ S.own k) := fun q => (own_turnT (S.withR R) n q).trans (hO.out q);have N8 : Hid ((turnT R n).length = S.R.length) := (turnT_length ..).trans hRl.out;clear hL8 hC8;have HRF := Lib.hid HF2.out; have HSF := Lib.hid HS2.out;rw [hif] at HRF HSF;clear hif;obtain ⟨RF, hRF⟩ : ∃ RF, swapsT a n (turnT R n) = RF := ⟨_, rfl⟩;rw [hRF] at HRF HSF;have HRFe := Lib.hid hRF; clear hRF;go_wp2;go_loopw [8] (fun i_ wq => ∃ (i : Nat) (R8 : List Hd), i <= n /\ a <= i /\ i_ = .int .i64 (i : Int) /\ Hid (swapsT a i R8 = RF) /\ Hid (R8.length = S.R.length) /\ Hid (LadAt wq (S.withR R8)) /\ Hid (Chg S.own w wq) /\ Hid (∀ k, (S.withR R8).own k ↔ S.own k)) (fun i_ _ => (intOf i_).toNat)
           case atStart => exact ⟨n, (turnT R n), Nat.le_refl _, ha2, rfl, HRFe, N8, L8, C8, O8⟩
           case round =>
            obtain ⟨i, R8, hin, hai, rfl, hSw, hR8, hL8, hC8, hO8⟩ := hrel;by_cases hia : a < i
            · obtain ⟨i', rfl⟩ : ∃ i', i = i' + 1 := ⟨i - 1, by omega⟩;have hi8 : i' + 1 < R8.length := by have := hR8.out; have := hRl.out; omega
              have hi8' : i' < R8.length := by omega
              have hia1 : (a : Int) < ((i' + 1 : Nat) : Int) := by omega
              have hcast : ((i' + 1 : Nat) : Int) - 1 = (i' : Int) := by omega
              have hms := MSwap_c (S.withR R8) (i' + 1) i' wr hL8.out hi8 hi8' (by omega);have HMs := Lib.hid hms; clear hms;have hcast2 : ((i' + 1 : Nat) : Int) = (i' : Int) + 1 := by omega
              rw [hcast2] at hia1 hcast HMs ⊢;clear hcast2;have hia2 : (a : Int) < (i' : Int) + 1 := hia1;have hcast3 : (i' : Int) + 1 - 1 = (i' : Int) := by omega
              go_wp2_with fail
              refine HMs.out.mono ?_;rintro e w9 ⟨rfl, hL9, hC9⟩;have L9 := Lib.hid hL9;have C9 := Lib.hid (hC8.out.trans (hC9.mono (fun q _ e => (hO8.out q).1 e)));clear hL9 hC9;go_wp2;go_roundw
              case rel =>
               refine ⟨i', swapT R8 (i' + 1) i', by omega, by omega, by go_num, ?_, Lib.hid ((swapT_length ..).trans hR8.out), ?_, C9, Lib.hid (fun q => (own_swapT (S.withR R8) (i' + 1) i' q).trans (hO8.out q))⟩
               · have := hSw.out;unfold swapsT at this;rw [if_neg (by omega)] at this;exact this
               · rw [swapT_eq hi8 hi8']; exact L9
              case measure => simp only [intOf]; omega
            · obtain rfl : i = a := by omega
              have hR8F : R8 = RF := by
               have := hSw.out;cases i with
               | zero => exact this
               | succ q => unfold swapsT at this; rw [if_pos (Nat.le_refl _)] at this; exact this
              subst hR8F;have hset := Settle_c (S.withR R8) (n + 1) B c R' wr hL8.out (by show n + 1 <= R8.length; have := hR8.out; omega) (by omega) HRF.out HSF.out (by show R8.length <= 1000000; have := hR8.out; omega) hc;have HSet := Lib.hid hset; clear hset;have hcn1 : ((n + 1 : Nat) : Int) = (n : Int) + 1 := by omega
              rw [hcn1] at HSet;clear hcn1;have hgt : ¬ (i : Int) > (i : Int) := by omega
              go_wp2_with fail
              refine HSet.out.mono ?_;rintro e w9 ⟨rfl, hL9, hC9⟩;have L9 := Lib.hid hL9;have C9 := Lib.hid (hC8.out.trans (hC9.mono (fun q _ e => (hO8.out q).1 e)));clear hL9 hC9;go_wp2;go_ret;exact ⟨rfl, L9.out, C9.out⟩
def rotT : Nat -> Nat -> List Hd -> List Hd
 | 0, _, R => R
 | k + 1, i, R => rotT k (i + 1) (swapT R i (i + 1))
inductive RedT (B c : Nat) : Nat -> Nat -> List Hd -> Nat -> List Hd -> Prop
 | fin {d e : Nat} {R : List Hd} (h : e <= d) : RedT B c d e R d R
 | ok {d e k : Nat} {R R1 R' : List Hd} (h : d < e) (hp : PutT B c d 0 (-1) R true R1) (hs : RedT B c (d + 1) e R1 k R') : RedT B c d e R k R'
 | zero {d e k : Nat} {R R1 R' : List Hd} (h : d < e) (hp : PutT B c d 0 (-1) R false R1) (hs : RedT B c d (e - 1) (rotT (e - 1 - d) d R1) k R') : RedT B c d e R k R'
theorem SOut.length {B c : Nat} {ls : List Nat} {n m : Nat} {R R' : List Hd} (h : SOut B c ls n m R R') : R'.length = R.length := by
 induction h with
 | done => rfl
 | step h1 _ ih => rw [ih, h1.length]
theorem swapsT_length (a : Nat) : ∀ (i : Nat) (R : List Hd), (swapsT a i R).length = R.length
 | 0, R => rfl
 | i + 1, R => by
  unfold swapsT; split
  · rfl
  · rw [swapsT_length a i, swapT_length]
theorem PutT.length {B c n a : Nat} {l : Int} {R R' : List Hd} {b : Bool} (h : PutT B c n a l R b R') : R'.length = R.length := by
 induction h with
 | zero _ _ hs => exact hs.length
 | stop _ _ _ _ _ _ _ _ _ hs =>
  rw [hs.length, swapsT_length];split
  · exact turnT_length ..
  · rfl
 | meet _ _ _ _ _ _ _ _ _ _ _ _ ih => rw [ih, meetT_length]
theorem own_addR (S : LSt) (R : List Hd) (i j : Nat) (x : Int) (q : Nat) : (S.withR (addT R i j x)).own q ↔ (S.withR R).own q := own_addT (S.withR R) i j x q
theorem own_turnR (S : LSt) (R : List Hd) (i q : Nat) : (S.withR (turnT R i)).own q ↔ (S.withR R).own q := own_turnT (S.withR R) i q
theorem own_meetR (S : LSt) (R : List Hd) (k n j q : Nat) : (S.withR (meetT R k n j)).own q ↔ (S.withR R).own q := own_meetT (S.withR R) k n j q
theorem own_SIn {B c i n k : Nat} {ls : List Nat} {R R' : List Hd} (h : SIn B c ls i n k R R') : ∀ (S : LSt) (q : Nat), (S.withR R').own q ↔ (S.withR R).own q := by
 induction h with
 | done _ => exact fun _ _ => Iff.rfl
 | step _ _ _ _ _ ih => exact fun S q => (ih S q).trans (own_addR S _ _ _ _ q)
theorem own_SOut {B c n m : Nat} {ls : List Nat} {R R' : List Hd} (h : SOut B c ls n m R R') : ∀ (S : LSt) (q : Nat), (S.withR R').own q ↔ (S.withR R).own q := by
 induction h with
 | done => exact fun _ _ => Iff.rfl
 | step h1 _ ih => exact fun S q => (ih S q).trans (own_SIn h1 S q)
theorem own_swapsT (a : Nat) : ∀ (i : Nat) (R : List Hd) (S : LSt) (q : Nat), (S.withR (swapsT a i R)).own q ↔ (S.withR R).own q
 | 0, R, S, q => Iff.rfl
 | i + 1, R, S, q => by
  unfold swapsT; split
  · exact Iff.rfl
  · exact (own_swapsT a i _ S q).trans (own_swapT (S.withR R) _ _ q)
theorem own_PutT {B c n a : Nat} {l : Int} {R R' : List Hd} {b : Bool} (h : PutT B c n a l R b R') : ∀ (S : LSt) (q : Nat), (S.withR R').own q ↔ (S.withR R).own q := by
 induction h with
 | zero _ _ hs => exact own_SOut hs
 | stop _ _ _ _ _ _ _ _ _ hs =>
  refine fun S q => (own_SOut hs S q).trans ((own_swapsT _ _ _ S q).trans ?_);split
  · exact own_turnR S _ _ q
  · exact Iff.rfl
 | meet _ _ _ _ _ _ _ _ _ _ _ _ ih => exact fun S q => (ih S q).trans (own_meetR S _ _ _ _ q)
set_option maxRecDepth 100000 in
set_option maxHeartbeats 8000000 in
theorem Reduce_c (S : LSt) (B c k : Nat) (R' : List Hd) (w : World) (h : LadAt w S) (hB : B <= 4000000000000) (hP : RedT B c 0 S.R.length S.R k R') (hR : S.R.length <= 100000) (hc : c <= 1000000) :
 Calls Tryz.prog 63 #[.pointer (some ⟨S.lb, 0, none⟩)] w fun e w' => e = .returned (.int .i64 (k : Int)) /\ LadAt w' (S.withR R') /\ Chg S.own w w' := by
 have cb : w.cell? ⟨S.lb, 0, none⟩ = some (.slice (some ⟨S.o, 0, none⟩) S.R.length S.cap) := h.lad.cell 0;have HL := Lib.hid h; clear h;have HP := Lib.hid hP; clear hP;go_enter Tryz.func63, Tryz.ntmps63;go_wp2
 go_region_held3 (fun w' => w'.cell? ⟨S.lb, 0, none⟩ = some (.slice (some ⟨S.o, 0, none⟩) S.R.length S.cap)) (first | exact cb) (fail)
 go_wp2;have HL1 := Lib.hid HL.out.drew;have HC1 := Lib.hid (Chg.refl S.own w).drew;clear cb;go_loopw [3, 4] (fun d_ e_ wr => ∃ (d e : Nat) (R : List Hd), d <= e /\ e <= S.R.length /\ d_ = .int .i64 (d : Int) /\ e_ = .int .i64 (e : Int) /\ Hid (RedT B c d e R k R') /\ Hid (R.length = S.R.length) /\ Hid (LadAt wr (S.withR R)) /\ Hid (Chg S.own w wr) /\ Hid (∀ q, (S.withR R).own q ↔ S.own q)) (fun d_ e_ _ => (intOf e_ - intOf d_).toNat)
 case atStart => exact ⟨0, S.R.length, S.R, Nat.zero_le _, Nat.le_refl _, rfl, rfl, HP, rfl, HL1, HC1, fun _ => Iff.rfl⟩
 case round =>
  obtain ⟨d, e, R, hde, heR, rfl, rfl, hRed, hRl, hL, hC, hO⟩ := hrel;by_cases hd : d < e
  · have hd1 : (d : Int) < (e : Int) := by omega
    have hdR : d < R.length := by have := hRl.out; omega
    have hcase : ∃ b R1, PutT B c d 0 (-1) R b R1 /\ (b = true -> RedT B c (d + 1) e R1 k R') /\ (b = false -> RedT B c d (e - 1) (rotT (e - 1 - d) d R1) k R') := by
     cases hRed.out with
     | fin h => omega
     | ok _ hp hs => exact ⟨true, _, hp, fun _ => hs, fun h => by cases h⟩
     | zero _ hp hs => exact ⟨false, _, hp, fun h => (by cases h), fun _ => hs⟩
    obtain ⟨b, R1, hp, hs1, hs2⟩ := hcase;have hput := Put_c (S.withR R) d B c b R1 wr hL.out hdR hB hp (by show R.length <= 100000; have := hRl.out; omega) hc;have HPut := Lib.hid hput;have HR1 := Lib.hid (hp.length.trans hRl.out);have HO1 := Lib.hid (fun q => (own_PutT hp S q).trans (hO.out q));have HS1 := Lib.hid hs1;have HS2 := Lib.hid hs2;clear hput hp hs1 hs2 hRed;go_wp2_with fail
    refine HPut.out.mono ?_;rintro e' w2 ⟨rfl, hL2, hC2⟩;have L2 := Lib.hid hL2;have C2 := Lib.hid (hC.out.trans (hC2.mono (fun q _ e => (hO.out q).1 e)));clear hL2 hC2 hL hC;cases b
    · have HSF := Lib.hid (HS2.out rfl);have hec : ((e - 1 : Nat) : Int) = (e : Int) - 1 := by omega
      have Hec := Lib.hid hec; clear hec;go_wp2;go_loopw [5] (fun i_ wq => ∃ (i : Nat) (R2 : List Hd), d <= i /\ i <= e - 1 /\ i_ = .int .i64 (i : Int) /\ Hid (rotT (e - 1 - i) i R2 = rotT (e - 1 - d) d R1) /\ Hid (R2.length = S.R.length) /\ Hid (LadAt wq (S.withR R2)) /\ Hid (Chg S.own w wq) /\ Hid (∀ q, (S.withR R2).own q ↔ S.own q)) (fun i_ _ => ((e : Int) - intOf i_).toNat)
      case atStart => exact ⟨d, R1, Nat.le_refl _, by omega, rfl, rfl, HR1, L2, C2, HO1⟩
      case round =>
       obtain ⟨i, R2, hdi, hie, rfl, hRot, hR2, hL2, hC2, hO2⟩ := hrel;by_cases hi : i < e - 1
       · have hi1 : (i : Int) < (e : Int) - 1 := by omega
         have hiR : i < R2.length := by have := hR2.out; omega
         have hiR1 : i + 1 < R2.length := by have := hR2.out; omega
         have hms := MSwap_c (S.withR R2) i (i + 1) wr hL2.out hiR hiR1 (by omega);have hcast : ((i + 1 : Nat) : Int) = (i : Int) + 1 := by omega
         rw [hcast] at hms;have HMs := Lib.hid hms; clear hms hcast;go_wp2_with fail
         refine HMs.out.mono ?_;rintro e'' w9 ⟨rfl, hL9, hC9⟩;have L9 := Lib.hid hL9;have C9 := Lib.hid (hC2.out.trans (hC9.mono (fun q _ e => (hO2.out q).1 e)));clear hL9 hC9;go_wp2;go_roundw
         case rel =>
          refine ⟨i + 1, swapT R2 i (i + 1), by omega, by omega, by go_num, ?_, Lib.hid ((swapT_length ..).trans hR2.out), ?_, C9, Lib.hid (fun q => (own_swapT (S.withR R2) i (i + 1) q).trans (hO2.out q))⟩
          · have h2 := hRot.out;have h3 : e - 1 - i = (e - 1 - (i + 1)) + 1 := by omega
            rw [h3] at h2;exact h2
          · rw [swapT_eq hiR hiR1]; exact L9
         case measure => simp only [intOf]; omega
       · have hi1 : ¬ (i : Int) < (e : Int) - 1 := by omega
         have hie2 : e - 1 - i = 0 := by omega
         have hfin : R2 = rotT (e - 1 - d) d R1 := by
          have h2 := hRot.out;rw [hie2] at h2;exact h2
         have HFin := Lib.hid hfin; clear hfin hie2;go_wp2;go_roundw
         case rel =>
          refine ⟨d, e - 1, R2, by omega, by omega, by go_num, by go_num, ?_, hR2, hL2, hC2, hO2⟩;rw [HFin.out];exact HSF
         case measure => simp only [intOf]; omega
    · have HSF := Lib.hid (HS1.out rfl);go_wp2;go_roundw
      case rel => exact ⟨d + 1, e, R1, by omega, by omega, by go_num, by go_num, HSF, HR1, L2, C2, HO1⟩
      case measure => simp only [intOf]; omega
  · have hd1 : ¬ (d : Int) < (e : Int) := by omega
    have hfin : d = k /\ R = R' := by
     cases hRed.out with
     | fin h => exact ⟨rfl, rfl⟩
     | ok h _ _ => omega
     | zero h _ _ => omega
    have HFin := Lib.hid hfin; clear hfin;go_wp2;go_ret;rw [<- HFin.out.1, <- HFin.out.2];exact ⟨rfl, hL.out, hC.out⟩
end Go.Proofs.YtknkkceioockjaaGreat
