/- Part 5 of 9 of the proof that the law HnfVolume returns true for every input of bulk at most 1048576 and leaves its arguments as they were: here the contracts of the functions that it calls, and plain lemmas. -/
import Derived.RangeFuncNested
import Derived.RangeFuncBound
import Derived.RangeFuncCalls
import Derived.RangeFuncLeaves
import Derived.Shelf.Abstract
import Derived.Shelf.RegionOpen
import Derived.WalkKit
import Derived.OwnWalkIn
import Derived.TacticsInMore
import Derived.LoopNIn
import Derived.LoopIn
import Derived.Maps.AppendAt
import Derived.Test.YtdgfhcaokigieaaGreatVlD
set_option linter.all false
namespace Go.Proofs.YtdgfhcaokigieaaGreat
theorem gd_lt (xs : List Int) {i : Nat} (d : Int) (h : i < xs.length) : xs.getD i d = xs[i] := by simp [h]
theorem gd_ge (xs : List Int) {i : Nat} (d : Int) (h : xs.length <= i) : xs.getD i d = d := by simp [h]
def Sh (c : Nat) (R : List Hd) : Prop := ∀ h ∈ R, h.xs.length = c
theorem ent_get {R : List Hd} {i : Nat} (hi : i < R.length) (j : Nat) : ent R i j = R[i].xs.getD j 0 := by
 unfold ent; simp [hi]
theorem ent_out {R : List Hd} {i : Nat} (hi : R.length <= i) (j : Nat) : ent R i j = 0 := by
 unfold ent; rw [List.getElem?_eq_none hi]; rfl
theorem Sh.get {c : Nat} {R : List Hd} (h : Sh c R) {i : Nat} (hi : i < R.length) : R[i].xs.length = c := h _ (List.getElem_mem hi)
theorem Sh.wide {c : Nat} {R : List Hd} (h : Sh c R) (i : Nat) {j : Nat} (hj : c <= j) : ent R i j = 0 := by
 by_cases hi : i < R.length
 · rw [ent_get hi, gd_ge _ _ (by rw [h.get hi]; exact hj)]
 · exact ent_out (by omega) j
theorem Sh.setXs_ {c : Nat} {R : List Hd} (h : Sh c R) (i : Nat) {xs : List Int} (hx : xs.length = c) : Sh c (setXs R i xs) := by
 intro r hr;obtain ⟨j, hj, rfl⟩ := List.getElem_of_mem hr;rw [setXs_length] at hj;rw [setXs_get hj];split
 · exact hx
 · exact h.get hj
theorem ent_setXs {R : List Hd} {i : Nat} (hi : i < R.length) (xs : List Int) (a b : Nat) : ent (setXs R i xs) a b = if a = i then xs.getD b 0 else ent R a b := by
 by_cases ha : a < R.length
 · rw [ent_get (by rw [setXs_length]; exact ha), setXs_get ha];by_cases e : i = a
   · subst e; simp
   · rw [if_neg e, if_neg (fun h => e h.symm), ent_get ha]
 · rw [ent_out (by rw [setXs_length]; omega), if_neg (by omega), ent_out (by omega)]
theorem getD_zipWith {f : Int -> Int -> Int} (hf : f 0 0 = 0) {xs ys : List Int} (h : xs.length = ys.length) (b : Nat) : (List.zipWith f xs ys).getD b 0 = f (xs.getD b 0) (ys.getD b 0) := by
 by_cases hb : b < xs.length
 · have hb2 : b < ys.length := by omega
   have hb3 : b < (List.zipWith f xs ys).length := by simp; omega
   rw [gd_lt _ _ hb3, gd_lt _ _ hb, gd_lt _ _ hb2, List.getElem_zipWith]
 · rw [gd_ge _ _ (by simp; omega), gd_ge _ _ (by omega), gd_ge _ _ (by omega), hf]
theorem ent_addT {c : Nat} {R : List Hd} (hs : Sh c R) {i j : Nat} (hi : i < R.length) (hj : j < R.length) (k : Int) (a b : Nat) : ent (addT R i j k) a b = if a = i then k * ent R j b + ent R i b else ent R a b := by
 rw [addT_eq hi hj]; unfold addR;rw [ent_setXs hi];unfold addRow;rw [getD_zipWith (by simp) (by rw [hs.get hi, hs.get hj]), <- ent_get hi, <- ent_get hj]
theorem Sh.addT_ {c : Nat} {R : List Hd} (hs : Sh c R) (i j : Nat) (k : Int) : Sh c (addT R i j k) := by
 unfold addT;split
 · rename_i h;unfold addR;exact hs.setXs_ i (by unfold addRow; rw [List.length_zipWith, hs.get h.1, hs.get h.2]; omega)
 · exact hs
theorem blk_addT (R : List Hd) (i j : Nat) (k : Int) : (addT R i j k).map Hd.blk = R.map Hd.blk := by
 unfold addT; split
 · exact setXs_blk ..
 · rfl
theorem ent_mixT {c : Nat} {R : List Hd} (hs : Sh c R) {i j : Nat} (hi : i < R.length) (hj : j < R.length) (hij : i ≠ j) (p q r s : Int) (a b : Nat) : ent (mixT R i j p q r s) a b = if a = i then p * ent R i b + q * ent R j b else if a = j then r * ent R i b + s * ent R j b else ent R a b := by
 rw [mixT_eq hi hj]; unfold mixR;rw [ent_setXs (by rw [setXs_length]; exact hj), ent_setXs hi];have hl : R[i].xs.length = R[j].xs.length := by rw [hs.get hi, hs.get hj]
 unfold mixRow;rw [getD_zipWith (by simp) hl, getD_zipWith (by simp) hl, <- ent_get hi, <- ent_get hj];by_cases e : a = i
 · subst e; rw [if_neg hij, if_pos rfl, if_pos rfl]
 · rw [if_neg e, if_neg e]
theorem Sh.mixT_ {c : Nat} {R : List Hd} (hs : Sh c R) (i j : Nat) (p q r s : Int) : Sh c (mixT R i j p q r s) := by
 unfold mixT;split
 · rename_i h;unfold mixR;refine (hs.setXs_ i ?_).setXs_ j ?_ <;> (unfold mixRow; rw [List.length_zipWith, hs.get h.1, hs.get h.2]; omega)
 · exact hs
theorem blk_mixT (R : List Hd) (i j : Nat) (p q r s : Int) : (mixT R i j p q r s).map Hd.blk = R.map Hd.blk := by
 unfold mixT; split
 · unfold mixR; rw [setXs_blk, setXs_blk]
 · rfl
theorem ent_turnT {R : List Hd} {i : Nat} (hi : i < R.length) (a b : Nat) : ent (turnT R i) a b = if a = i then - ent R i b else ent R a b := by
 rw [turnT_eq hi]; unfold turnR;rw [ent_setXs hi, ent_get hi];split
 · unfold negRow;by_cases hb : b < R[i].xs.length
   · rw [gd_lt _ _ (by simpa using hb), gd_lt _ _ hb]; simp
   · rw [gd_ge _ _ (by simp; omega), gd_ge _ _ (by omega)]; rfl
 · rfl
theorem Sh.turnT_ {c : Nat} {R : List Hd} (hs : Sh c R) (i : Nat) : Sh c (turnT R i) := by
 unfold turnT;split
 · rename_i h;unfold turnR;exact hs.setXs_ i (by simp [negRow, hs.get h])
 · exact hs
theorem swapT_get {R : List Hd} {i j m : Nat} (hi : i < R.length) (hj : j < R.length) (hm : m < R.length) : (swapT R i j)[m]'(by rw [swapT_length]; exact hm) = R[swp i j m]'(swp_lt hi hj hm) := by
 have := swapR_get hi hj hm;rw [<- this]; congr 1; exact swapT_eq hi hj
theorem ent_swapT {R : List Hd} {i j : Nat} (hi : i < R.length) (hj : j < R.length) (a b : Nat) : ent (swapT R i j) a b = ent R (swp i j a) b := by
 by_cases ha : a < R.length
 · rw [ent_get (by rw [swapT_length]; exact ha), swapT_get hi hj ha, ent_get]
 · rw [ent_out (by rw [swapT_length]; omega), ent_out];unfold swp; split
   · omega
   · split <;> omega
theorem Sh.swapT_ {c : Nat} {R : List Hd} (hs : Sh c R) (i j : Nat) : Sh c (swapT R i j) := by
 unfold swapT;split
 · rename_i h;intro r hr;obtain ⟨m, hm, rfl⟩ := List.getElem_of_mem hr;rw [swapR_length] at hm;rw [swapR_get h.1 h.2 hm];exact hs.get _
 · exact hs
theorem lead_ent {R : List Hd} {i : Nat} (hi : i < R.length) {c : Nat} (hs : Sh c R) : (leadOf R i <= c) /\ (∀ b, b < leadOf R i -> ent R i b = 0) /\ (leadOf R i < c -> ent R i (leadOf R i) ≠ 0) := by
 rw [leadOf_eq hi];have key : ∀ xs : List Int, (∀ b, b < lead xs -> xs.getD b 0 = 0) /\ (lead xs < xs.length -> xs.getD (lead xs) 0 ≠ 0) := by
  intro xs;induction xs with
  | nil => exact ⟨fun b _ => by simp, fun h => by simp at h⟩
  | cons x xs ih =>
   unfold lead;by_cases hx : x = 0
   · rw [if_pos hx];refine ⟨fun b hb => ?_, fun h => ?_⟩
     · cases b with
       | zero => simpa using hx
       | succ b => rw [List.getD_cons_succ]; exact ih.1 b (by omega)
     · rw [List.getD_cons_succ]; exact ih.2 (by simpa using h)
   · rw [if_neg hx];exact ⟨fun b hb => by omega, fun _ => by simpa using hx⟩
 have hl := hs.get hi;have h1 := key R[i].xs;refine ⟨hl ▸ lead_le _, fun b hb => ?_, fun h => ?_⟩
 · rw [ent_get hi]; exact h1.1 b hb
 · rw [ent_get hi]; exact h1.2 (by omega)
theorem leadOf_at {R : List Hd} {i : Nat} (hi : i < R.length) {c : Nat} (hs : Sh c R) {j : Nat} (h0 : ∀ b, b < j -> ent R i b = 0) (hj : ent R i j ≠ 0) : leadOf R i = j := by
 have h1 := lead_ent hi hs;have hjc : j < c := by
  by_cases h : j < c
  · exact h
  · exact absurd (hs.wide i (by omega)) hj
 rcases Nat.lt_trichotomy (leadOf R i) j with h | h | h
 · exact absurd (h0 _ h) (h1.2.2 (by omega))
 · exact h
 · exact absurd (h1.2.1 _ h) hj
theorem Fit.of {B c : Nat} {R : List Hd} (hs : Sh c R) (h : ∀ a b, (ent R a b).natAbs < W ^ B) : Fit B c R := by
 refine ⟨hs, fun r hr x hx => ?_⟩;obtain ⟨i, hi, rfl⟩ := List.getElem_of_mem hr;obtain ⟨j, hj, rfl⟩ := List.getElem_of_mem hx;have := h i j;rw [ent_get hi, gd_lt _ _ hj] at this;exact wlen_le_of_lt this
/-! Bounds by powers of the base. -/
theorem pw_le {u v : Nat} (h : u <= v) : W ^ u <= W ^ v := Nat.pow_le_pow_right W_pos h
theorem pw_lt {n u v : Nat} (h : n < W ^ u) (k : u <= v) : n < W ^ v := Nat.lt_of_lt_of_le h (pw_le k)
theorem pw_pos (u : Nat) : 0 < W ^ u := Nat.pow_pos W_pos
theorem pw_muladd {k y x u d : Nat} (hk : k < W ^ u) (hy : y < W ^ d) (hx : x < W ^ u) : k * y + x < W ^ (u + d) := by
 have h1 : (k + 1) * W ^ d <= W ^ u * W ^ d := Nat.mul_le_mul_right _ hk;have h2 : k * (y + 1) <= k * W ^ d := Nat.mul_le_mul_left _ hy;rw [Nat.pow_add];rw [Nat.succ_mul] at h1;rw [Nat.mul_add, Nat.mul_one] at h2;have h3 : W ^ u <= W ^ u * W ^ d := by have := Nat.mul_le_mul_left (W ^ u) (pw_pos d); omega
 by_cases hk0 : k = 0
 · subst hk0; omega
 · have h4 : k * y + k <= k * W ^ d := h2;have h5 : (W ^ u - 1) * y + (W ^ u - 1) <= (W ^ u - 1) * W ^ d := by
    have := Nat.mul_le_mul_left (W ^ u - 1) hy;rw [Nat.mul_succ] at this; exact this
   have h6 : k * y <= (W ^ u - 1) * y := Nat.mul_le_mul_right _ (by omega);have h7 : (W ^ u - 1) * W ^ d < W ^ u * W ^ d := Nat.mul_lt_mul_of_pos_right (by have := pw_pos u; omega) (pw_pos d);omega
theorem natAbs_muladd (k y x : Int) : (k * y + x).natAbs <= k.natAbs * y.natAbs + x.natAbs := by
 have := Int.natAbs_add_le (k * y) x
 rwa [Int.natAbs_mul] at this
theorem fdiv_le {x y : Int} (hy : 0 < y) : (x.fdiv y).natAbs <= x.natAbs := by
 rw [Int.fdiv_eq_ediv_of_nonneg _ (Int.le_of_lt hy)];exact Int.natAbs_ediv_le_natAbs x y
theorem fmod_lt' {x y : Int} (hy : 0 < y) : 0 <= x.fmod y /\ x.fmod y < y := by
 rw [Int.fmod_eq_emod_of_nonneg _ (Int.le_of_lt hy)];exact ⟨Int.emod_nonneg _ (by omega), Int.emod_lt_of_pos _ hy⟩
theorem fmod_def' {x y : Int} (hy : 0 < y) : -(x.fdiv y) * y + x = x.fmod y := by
 rw [Int.fdiv_eq_ediv_of_nonneg _ (Int.le_of_lt hy), Int.fmod_eq_emod_of_nonneg _ (Int.le_of_lt hy), Int.emod_def, Int.mul_comm y, Int.neg_mul]; omega
/-! settle. -/
def sinF (ls : List Nat) (i : Nat) : Nat -> Nat -> List Hd -> List Hd
 | 0, _, R => R
 | f + 1, k, R => sinF ls i f (k + 1) (addT R i k (-((ent R i (ls.getD k 0)).fdiv (ent R k (ls.getD k 0)))))
def soutF (ls : List Nat) (n : Nat) : Nat -> List Hd -> List Hd
 | 0, R => R
 | m + 1, R => soutF ls n m (sinF ls m (n - (m + 1)) (m + 1) R)
theorem SpEq.add {n : Nat} {E F : Nat -> Nat -> Int} {i k : Nat} (hi : i < n) (hk : k < n) (hik : i ≠ k) (q : Int) (h : ∀ a b, F a b = if a = i then q * E k b + E i b else E a b) : SpEq n E n F := by
 refine ⟨fun a ha => ?_, fun a ha => ?_⟩
 · by_cases e : a = i
   · subst e;refine ((Sp.row F ha).add ((Sp.row F hk).smul (-q))).congr (fun j => ?_);rw [h a j, if_pos rfl, h k j, if_neg (fun e => hik e.symm), Int.neg_mul]; omega
   · exact (Sp.row F ha).congr (fun j => by rw [h, if_neg e])
 · by_cases e : a = i
   · subst e;refine (((Sp.row E hk).smul q).add (Sp.row E ha)).congr (fun j => ?_);rw [h, if_pos rfl]
   · exact (Sp.row E ha).congr (fun j => by rw [h, if_neg e])
structure SinOk (n c i k : Nat) (l : Nat -> Nat) (R R' : List Hd) : Prop where
 same : ∀ a, a ≠ i -> ∀ b, ent R' a b = ent R a b
 low : ∀ b, (∀ m, k <= m -> m < n -> b < l m) -> ent R' i b = ent R i b
 red : ∀ m, k <= m -> m < n -> 0 <= ent R' i (l m) /\ ent R' i (l m) < ent R m (l m)
 sh : Sh c R'
 len : R'.length = R.length
 blk : R'.map Hd.blk = R.map Hd.blk
 sp : SpEq n (ent R) n (ent R')
theorem Ech.add {n c : Nat} {E F : Nat -> Nat -> Int} {l : Nat -> Nat} (h : Ech n c E l) {i k : Nat} (hik : i < k) (hk : k < n) (q : Int) (e : ∀ a b, F a b = if a = i then q * E k b + E i b else E a b) : Ech n c F l := by
 refine ⟨h.inc, h.lt, fun a ha j hj => ?_, fun a ha => ?_⟩
 · rw [e]; split
   · rename_i e'; subst e';rw [h.zero k hk j (by have := h.inc a k hik hk; omega), h.zero a ha j hj]; simp
   · exact h.zero a ha j hj
 · rw [e]; split
   · rename_i e'; subst e';rw [h.zero k hk _ (h.inc a k hik hk)]; have := h.pos a ha; simpa using this
   · exact h.pos a ha
theorem sinF_ok {n c i : Nat} {l : Nat -> Nat} {ls : List Nat} (hls : ∀ k, k < n -> ls.getD k 0 = l k) : ∀ (f k : Nat) (R : List Hd), k + f = n -> i < k -> Sh c R -> n <= R.length -> Ech n c (ent R) l -> SinOk n c i k l R (sinF ls i f k R)
 | 0, k, R, hf, hik, hs, hn, hE => ⟨fun _ _ _ => rfl, fun _ _ => rfl, fun m h1 h2 => by omega, hs, rfl, rfl, SpEq.refl _ _⟩
 | f + 1, k, R, hf, hik, hs, hn, hE => by
  have hk : k < n := by omega
  have he := fun (a b : Nat) => ent_addT hs (i := i) (j := k) (by omega) (by omega) (-((ent R i (ls.getD k 0)).fdiv (ent R k (ls.getD k 0)))) a b;have ih := sinF_ok (i := i) hls f (k + 1) (addT R i k (-((ent R i (ls.getD k 0)).fdiv (ent R k (ls.getD k 0))))) (by omega) (by omega) (hs.addT_ i k _) (by rw [addT_length]; exact hn) (hE.add hik hk _ he);rw [hls k hk] at he;have hp := hE.pos k hk;refine ⟨fun a ha b => ?_, fun b hb => ?_, fun m hm hmn => ?_, ih.sh, ih.len.trans (addT_length ..), ih.blk.trans (blk_addT ..), (SpEq.add (by omega) hk (by omega) _ he).trans (by rw [<- hls k hk]; exact ih.sp)⟩
  · show ent (sinF ls i f (k + 1) _) a b = _;rw [ih.same a ha b, hls k hk, he, if_neg ha]
  · show ent (sinF ls i f (k + 1) _) i b = _;rw [ih.low b (fun m h1 h2 => hb m (by omega) h2), hls k hk, he, if_pos rfl, hE.zero k hk b (hb k (Nat.le_refl _) hk)]; omega
  · by_cases e : m = k
    · subst e;show 0 <= ent (sinF ls i f (m + 1) _) i (l m) /\ ent (sinF ls i f (m + 1) _) i (l m) < _;rw [ih.low (l m) (fun q h1 h2 => hE.inc m q (by omega) h2), hls m hk, he, if_pos rfl, fmod_def' hp];exact fmod_lt' hp
    · have h1 := ih.red m (by omega) hmn;rw [hls k hk, he m, if_neg (by omega)] at h1;show 0 <= ent (sinF ls i f (k + 1) _) i (l m) /\ ent (sinF ls i f (k + 1) _) i (l m) < _;rw [hls k hk];exact h1
theorem Ech.congr {n c : Nat} {E F : Nat -> Nat -> Int} {l : Nat -> Nat} (h : Ech n c E l) (e : ∀ a, a < n -> ∀ b, F a b = E a b) : Ech n c F l :=
 ⟨h.inc, h.lt, fun a ha j hj => (e a ha j).trans (h.zero a ha j hj), fun a ha => by rw [e a ha]; exact h.pos a ha⟩
theorem SinOk.ech {n c i k : Nat} {l : Nat -> Nat} {R R' : List Hd} (h : SinOk n c i k l R R') (hE : Ech n c (ent R) l) (hik : i < k) (hin : i < n) : Ech n c (ent R') l := by
 have hlow : ∀ b, b <= l i -> ent R' i b = ent R i b := fun b hb => h.low b (fun m h1 h2 => by have := hE.inc i m (by omega) h2; omega);refine ⟨hE.inc, hE.lt, fun a ha j hj => ?_, fun a ha => ?_⟩
 · by_cases e : a = i
   · subst e; rw [hlow j (by omega)]; exact hE.zero a ha j hj
   · rw [h.same a e]; exact hE.zero a ha j hj
 · by_cases e : a = i
   · subst e; rw [hlow _ (Nat.le_refl _)]; exact hE.pos a ha
   · rw [h.same a e]; exact hE.pos a ha
structure SoutOk (n c m : Nat) (l : Nat -> Nat) (R R' : List Hd) : Prop where
 same : ∀ a, m <= a -> ∀ b, ent R' a b = ent R a b
 herm : Herm n c (ent R') l
 sh : Sh c R'
 len : R'.length = R.length
 blk : R'.map Hd.blk = R.map Hd.blk
 sp : SpEq n (ent R) n (ent R')
theorem soutF_ok {n c : Nat} {l : Nat -> Nat} {ls : List Nat} (hls : ∀ k, k < n -> ls.getD k 0 = l k) : ∀ (m : Nat) (R : List Hd), m <= n -> Sh c R -> n <= R.length -> Ech n c (ent R) l -> (∀ i k, m <= i -> i < k -> k < n -> 0 <= ent R i (l k) /\ ent R i (l k) < ent R k (l k)) -> SoutOk n c m l R (soutF ls n m R)
 | 0, R, hm, hs, hn, hE, hr => ⟨fun _ _ _ => rfl, ⟨hE, fun i k => hr i k (Nat.zero_le _)⟩, hs, rfl, rfl, SpEq.refl _ _⟩
 | m + 1, R, hm, hs, hn, hE, hr => by
  have h1 := sinF_ok (i := m) hls (n - (m + 1)) (m + 1) R (by omega) (by omega) hs hn hE;have h2 := soutF_ok hls m (sinF ls m (n - (m + 1)) (m + 1) R) (by omega) h1.sh (by rw [h1.len]; exact hn) (h1.ech hE (by omega) (by omega)) (fun i k hi hik hk => by
   by_cases e : i = m
   · subst e;rw [h1.same k (by omega)];exact h1.red k (by omega) hk
   · rw [h1.same i e, h1.same k (by omega)];exact hr i k (by omega) hik hk)
  exact ⟨fun a ha b => (h2.same a (by omega) b).trans (h1.same a (by omega) b), h2.herm, h2.sh, h2.len.trans h1.len, h2.blk.trans h1.blk, h1.sp.trans h2.sp⟩
theorem SIn_of {n c i B δ : Nat} {l : Nat -> Nat} {ls : List Nat} (hls : ∀ k, k < n -> ls.getD k 0 = l k) : ∀ (f k u : Nat) (R : List Hd), k + f = n -> i < k -> Sh c R -> n <= R.length -> Ech n c (ent R) l ->
 (∀ a b, (ent R a b).natAbs < W ^ B) -> (∀ b, (ent R i b).natAbs < W ^ u) -> (∀ a, k <= a -> a < n -> ∀ b, (ent R a b).natAbs < W ^ δ) -> u + f * δ <= B -> SIn B c ls i n k R (sinF ls i f k R)
 | 0, k, u, R, hf, hik, hs, hn, hE, hB, hu, hd, hb => .done (by omega)
 | f + 1, k, u, R, hf, hik, hs, hn, hE, hB, hu, hd, hb => by
  have hk : k < n := by omega
  have he := fun (a b : Nat) => ent_addT hs (i := i) (j := k) (by omega) (by omega) (-((ent R i (ls.getD k 0)).fdiv (ent R k (ls.getD k 0)))) a b;have hp := hE.pos k hk;have hq : ((ent R i (ls.getD k 0)).fdiv (ent R k (ls.getD k 0))).natAbs < W ^ u := by
   rw [hls k hk];exact Nat.lt_of_le_of_lt (fdiv_le hp) (hu _)
  have hrow : ∀ b, (ent (addT R i k (-((ent R i (ls.getD k 0)).fdiv (ent R k (ls.getD k 0))))) i b).natAbs < W ^ (u + δ) := by
   intro b;rw [he, if_pos rfl];refine Nat.lt_of_le_of_lt (natAbs_muladd _ _ _) ?_;rw [Int.natAbs_neg];exact pw_muladd hq (hd k (Nat.le_refl _) hk b) (hu b)
  have e1 : (f + 1) * δ = f * δ + δ := Nat.succ_mul ..;refine .step hk (Fit.of hs hB) (by rw [hls k hk]; exact hE.lt k hk) (by rw [hls k hk]; omega) ?_;refine SIn_of (δ := δ) hls f (k + 1) (u + δ) _ (by omega) (by omega) (hs.addT_ i k _) (by rw [addT_length]; exact hn) (hE.add hik hk _ he) (fun a b => ?_) hrow (fun a h1 h2 b => ?_) (by omega)
  · by_cases e : a = i
    · subst e; exact pw_lt (hrow b) (by omega)
    · rw [he, if_neg e]; exact hB a b
  · rw [he, if_neg (by omega)]; exact hd a (by omega) h2 b
theorem SOut_of {n c B δ u : Nat} {l : Nat -> Nat} {ls : List Nat} (hls : ∀ k, k < n -> ls.getD k 0 = l k) (hb : u + n * δ <= B) : ∀ (m : Nat) (R : List Hd), m <= n -> Sh c R -> n <= R.length -> Ech n c (ent R) l -> (∀ i k, m <= i -> i < k -> k < n -> 0 <= ent R i (l k) /\ ent R i (l k) < ent R k (l k)) ->
 (∀ a b, (ent R a b).natAbs < W ^ B) -> (∀ a, a < m -> ∀ b, (ent R a b).natAbs < W ^ u) -> (∀ a, a < n -> ∀ b, (ent (soutF ls n m R) a b).natAbs < W ^ δ) -> SOut B c ls n m R (soutF ls n m R)
 | 0, R, hm, hs, hn, hE, hr, hB, hu, hd => .done
 | m + 1, R, hm, hs, hn, hE, hr, hB, hu, hd => by
  have hout := soutF_ok hls (m + 1) R hm hs hn hE hr;have h1 := sinF_ok (i := m) hls (n - (m + 1)) (m + 1) R (by omega) (by omega) hs hn hE;have hr1 : ∀ i k, m <= i -> i < k -> k < n -> 0 <= ent (sinF ls m (n - (m + 1)) (m + 1) R) i (l k) /\ ent (sinF ls m (n - (m + 1)) (m + 1) R) i (l k) < ent (sinF ls m (n - (m + 1)) (m + 1) R) k (l k) := fun i k hi hik hk => by
   by_cases e : i = m
   · subst e;rw [h1.same k (by omega)];exact h1.red k (by omega) hk
   · rw [h1.same i e, h1.same k (by omega)];exact hr i k (by omega) hik hk
  have h2 := soutF_ok hls m (sinF ls m (n - (m + 1)) (m + 1) R) (by omega) h1.sh (by rw [h1.len]; exact hn) (h1.ech hE (by omega) (by omega)) hr1;have hmul : (n - (m + 1)) * δ <= n * δ := Nat.mul_le_mul_right _ (by omega);have hδ : δ <= n * δ := by have := Nat.mul_le_mul_right δ (show 1 <= n by omega); omega
  refine .step (SIn_of (δ := δ) hls (n - (m + 1)) (m + 1) u R (by omega) (by omega) hs hn hE hB (fun b => hu m (by omega) b) (fun a h3 h4 b => ?_) (by omega)) ?_
  · rw [<- hout.same a h3 b]; exact hd a h4 b
  · refine SOut_of hls hb m _ (by omega) h1.sh (by rw [h1.len]; exact hn) (h1.ech hE (by omega) (by omega)) hr1 (fun a b => ?_) (fun a ha b => ?_) hd
    · by_cases e : a = m
      · subst e;rw [<- h2.same a (Nat.le_refl _) b];exact pw_lt (hd a (by omega) b) (by omega)
      · rw [h1.same a e]; exact hB a b
    · rw [h1.same a (by omega)]; exact hu a (by omega) b
/-! meet. -/
theorem ext_eq (a b : Int) (hb : b ≠ 0) : a * extX a b + b * extY a b = extG a b := by
 have h := ext_is a b;unfold ExtIs at h;rw [if_neg hb] at h;exact h.2.2.2
theorem SpEq.two {N : Nat} {E F : Nat -> Nat -> Int} {k n : Nat} (hk : k < N) (hn : n < N) (hkn : k ≠ n) (hs : ∀ a, a ≠ k -> a ≠ n -> ∀ b, F a b = E a b)
 {x y z t x' y' z' t' : Int} (h1 : ∀ b, F k b = x * E k b + y * E n b) (h2 : ∀ b, F n b = z * E k b + t * E n b) (h3 : ∀ b, E k b = x' * F k b + y' * F n b) (h4 : ∀ b, E n b = z' * F k b + t' * F n b) : SpEq N E N F := by
 refine ⟨fun a ha => ?_, fun a ha => ?_⟩
 · by_cases e : a = k
   · subst e; exact (((Sp.row F hk).smul x').add ((Sp.row F hn).smul y')).congr h3
   · by_cases e' : a = n
     · subst e'; exact (((Sp.row F hk).smul z').add ((Sp.row F hn).smul t')).congr h4
     · exact (Sp.row F ha).congr (fun j => (hs a e e' j).symm)
 · by_cases e : a = k
   · subst e; exact (((Sp.row E hk).smul x).add ((Sp.row E hn).smul y)).congr h1
   · by_cases e' : a = n
     · subst e'; exact (((Sp.row E hk).smul z).add ((Sp.row E hn).smul t)).congr h2
     · exact (Sp.row E ha).congr (fun j => hs a e e' j)
structure MeetOk (c k n j δ u : Nat) (R R' : List Hd) : Prop where
 same : ∀ a, a ≠ k -> a ≠ n -> ∀ b, ent R' a b = ent R a b
 low : ∀ b, b < j -> ent R' k b = 0
 piv : 0 < ent R' k j
 gone : ∀ b, b <= j -> ent R' n b = 0
 comb : ∃ t s : Int, t ≠ 0 /\ ∀ b, ent R' n b = t * ent R n b + s * ent R k b
 sp : ∀ N, k < N -> n < N -> SpEq N (ent R) N (ent R')
 bk : ∀ b, (ent R' k b).natAbs < W ^ (u + 2 * δ + 1)
 bn : ∀ b, (ent R' n b).natAbs < W ^ (u + 2 * δ + 1)
 sh : Sh c R'
 len : R'.length = R.length
 blk : R'.map Hd.blk = R.map Hd.blk
theorem meetA_ent {c : Nat} {R : List Hd} (hs : Sh c R) {k n : Nat} (hk : k < R.length) (hn : n < R.length) (j a b : Nat) : ent (meetA R k n j) a b = if a = n then -((ent R n j).fdiv (ent R k j)) * ent R k b + ent R n b else ent R a b :=
 ent_addT hs hn hk _ a b
theorem pw_two {x y z t u d : Nat} (hx : x <= W ^ d) (hy : y < W ^ d) (hz : z <= W ^ d) (ht : t < W ^ (u + d)) : x * y + z * t < W ^ (u + 2 * d + 1) := by
 have h1 : x * y <= W ^ d * W ^ d := Nat.mul_le_mul hx (Nat.le_of_lt hy);have h2 : z * t <= W ^ d * W ^ (u + d) := Nat.mul_le_mul hz (Nat.le_of_lt ht);have e1 : W ^ d * W ^ d <= W ^ (u + 2 * d) := by rw [<- Nat.pow_add]; exact pw_le (by omega)
 have e2 : W ^ d * W ^ (u + d) = W ^ (u + 2 * d) := by rw [<- Nat.pow_add]; congr 1; omega
 have e3 : W ^ (u + 2 * d) * 2 < W ^ (u + 2 * d + 1) := by
  rw [Nat.pow_succ];exact Nat.mul_lt_mul_of_pos_left (by unfold W; omega) (pw_pos _)
 omega
theorem meetA_bound {c : Nat} {R : List Hd} (hs : Sh c R) {k n j δ u : Nat} (hk : k < R.length) (hn : n < R.length) (hp : 0 < ent R k j) (hbk : ∀ b, (ent R k b).natAbs < W ^ δ) (hbn : ∀ b, (ent R n b).natAbs < W ^ u) (b : Nat) : (ent (meetA R k n j) n b).natAbs < W ^ (u + δ) := by
 rw [meetA_ent hs hk hn, if_pos rfl];refine Nat.lt_of_le_of_lt (natAbs_muladd _ _ _) ?_;rw [Int.natAbs_neg];exact pw_muladd (Nat.lt_of_le_of_lt (fdiv_le hp) (hbn j)) (hbk b) (hbn b)
theorem blk_meetT (R : List Hd) (k n j : Nat) : (meetT R k n j).map Hd.blk = R.map Hd.blk := by
 unfold meetT meetA; split
 · exact blk_addT ..
 · rw [blk_mixT]; exact blk_addT ..
theorem meet_ok {c k n j δ u : Nat} {R : List Hd} (hs : Sh c R) (hk : k < R.length) (hn : n < R.length) (hkn : k ≠ n) (hp : 0 < ent R k j) (h0 : ∀ b, b < j -> ent R k b = 0) (h1 : ∀ b, b < j -> ent R n b = 0)
 (hbk : ∀ b, (ent R k b).natAbs < W ^ δ) (hbn : ∀ b, (ent R n b).natAbs < W ^ u) : MeetOk c k n j δ u R (meetT R k n j) := by
 have hA := meetA_ent hs hk hn j;have hAn := fun b => (hA n b).trans (if_pos rfl);have hAk := fun b => (hA k b).trans (if_neg hkn);have hAs := fun a b (h : a ≠ n) => (hA a b).trans (if_neg h);have hsA : Sh c (meetA R k n j) := hs.addT_ n k _;have hlA : (meetA R k n j).length = R.length := addT_length ..;have hbA := meetA_bound hs hk hn hp hbk hbn;have hr : ent (meetA R k n j) n j = (ent R n j).fmod (ent R k j) := by rw [hAn, fmod_def' hp]
 have hrr := fmod_lt' (x := ent R n j) hp;by_cases hz : (ent R n j).fmod (ent R k j) = 0
 · have e : meetT R k n j = meetA R k n j := by unfold meetT; rw [if_pos hz]
   rw [e];refine ⟨fun a _ h b => hAs a b h, fun b hb => (hAk b).trans (h0 b hb), by rw [hAk]; exact hp, fun b hb => ?_, ⟨1, -((ent R n j).fdiv (ent R k j)), by omega, fun b => ?_⟩, fun N hkN hnN => SpEq.add hnN hkN (fun e => hkn e.symm) _ hA, fun b => ?_, fun b => pw_lt (hbA b) (by omega), hsA, hlA, blk_addT ..⟩
   · rcases Nat.lt_or_eq_of_le hb with h | h
     · rw [hAn, h0 b h, h1 b h]; simp
     · subst h; rw [hr, hz]
   · rw [hAn, Int.one_mul]; omega
   · rw [hAk]; exact pw_lt (hbk b) (by omega)
 · obtain ⟨M, hM⟩ : ∃ M, meetA R k n j = M := ⟨_, rfl⟩;rw [hM] at hAn hAk hAs hsA hlA hbA hr;have e : meetT R k n j = mixT M k n (extX (ent M k j) (ent M n j)) (extY (ent M k j) (ent M n j)) (-(ent M n j / extG (ent M k j) (ent M n j))) (ent M k j / extG (ent M k j) (ent M n j)) := by
    unfold meetT; rw [if_neg hz, hM]
   obtain ⟨p, hp'⟩ : ∃ p, ent M k j = p := ⟨_, rfl⟩;obtain ⟨r, hr'⟩ : ∃ r, ent M n j = r := ⟨_, rfl⟩;have hpp : p = ent R k j := hp'.symm.trans (hAk j);rw [hr'] at hr;rw [hp', hr'] at e;have hrne : r ≠ 0 := by rw [hr]; exact hz
   rw [<- hr, <- hpp] at hrr;have hrp : 0 < r := by omega
   have hg := extG_dvd p r;have hx := ext_eq p r hrne;have hxl := extX_le p r;have hyl := extY_le p r;obtain ⟨g, hgd⟩ : ∃ g, extG p r = g := ⟨_, rfl⟩;obtain ⟨x, hxd⟩ : ∃ x, extX p r = x := ⟨_, rfl⟩;obtain ⟨y, hyd⟩ : ∃ y, extY p r = y := ⟨_, rfl⟩;rw [hgd] at hg hx e;rw [hxd] at hx hxl e;rw [hyd] at hx hyl e;have hgp : 0 < g := by have := hg.2.2.1 (by omega); have := hg.2.2.2; omega
   obtain ⟨p', hp1⟩ := hg.1;obtain ⟨r', hr1⟩ := hg.2.1;have hpd : p / g = p' := by rw [hp1, Int.mul_ediv_cancel_left _ (by omega)]
   have hrd : r / g = r' := by rw [hr1, Int.mul_ediv_cancel_left _ (by omega)]
   rw [hpd, hrd] at e;have hk1 : p' * x + r' * y = 1 := by
    have : g * (p' * x + r' * y) = g * 1 := by
     rw [Int.mul_add, <- Int.mul_assoc, <- Int.mul_assoc, <- hp1, <- hr1, hx]; omega
    exact Int.eq_of_mul_eq_mul_left (by omega) this
   have hp0 : p' ≠ 0 := fun h => by rw [h, Int.mul_zero] at hp1; omega
   have hmix := ent_mixT hsA (by omega : k < M.length) (by omega : n < M.length) hkn x y (-r') p';rw [<- e] at hmix;have hmk := fun b => (hmix k b).trans (if_pos rfl);have hmn := fun b => ((hmix n b).trans (if_neg (fun h => hkn h.symm))).trans (if_pos rfl);have hms := fun a b (h : a ≠ k) (h' : a ≠ n) => ((hmix a b).trans (if_neg h)).trans (if_neg h');have hM0 : ∀ b, b < j -> ent M n b = 0 := fun b hb => by rw [hAn, h0 b hb, h1 b hb]; simp
   have hpD : p.natAbs < W ^ δ := by rw [hpp]; exact hbk j
   have hrD : r.natAbs < W ^ δ := by omega
   have hp'D : p'.natAbs <= W ^ δ := by
    have h2 : p'.natAbs <= p.natAbs := by
     rw [hp1, Int.natAbs_mul];have := Nat.mul_le_mul_right p'.natAbs (show 1 <= g.natAbs by omega);omega
    omega
   have hr'D : r'.natAbs <= W ^ δ := by
    have h2 : r'.natAbs <= r.natAbs := by
     rw [hr1, Int.natAbs_mul];have := Nat.mul_le_mul_right r'.natAbs (show 1 <= g.natAbs by omega);omega
    omega
   have bnd : ∀ (s t : Int) b, s.natAbs <= W ^ δ -> t.natAbs <= W ^ δ -> (s * ent M k b + t * ent M n b).natAbs < W ^ (u + 2 * δ + 1) := by
    intro s t b hs' ht';refine Nat.lt_of_le_of_lt (Int.natAbs_add_le _ _) ?_;rw [Int.natAbs_mul, Int.natAbs_mul];exact pw_two hs' (by rw [hAk]; exact hbk b) ht' (hbA b)
   have hspA : ∀ N, k < N -> n < N -> SpEq N (ent R) N (ent M) := fun N hkN hnN => by
    rw [<- hM]; exact SpEq.add hnN hkN (fun e => hkn e.symm) _ hA
   refine ⟨fun a h h' b => ?_, fun b hb => ?_, ?_, fun b hb => ?_, ?_, fun N hkN hnN => ?_, fun b => ?_, fun b => ?_, ?_, ?_, blk_meetT ..⟩
   · rw [hms a b h h', hAs a b h']
   · rw [hmk, hAk, h0 b hb, hM0 b hb]; simp
   · rw [hmk, hp', hr', Int.mul_comm x, Int.mul_comm y, hx]; exact hgp
   · rw [hmn];rcases Nat.lt_or_eq_of_le hb with h | h
     · rw [hAk, h0 b h, hM0 b h]; simp
     · subst h;rw [hp', hr', hp1, hr1, Int.neg_mul, Int.mul_left_comm r', Int.mul_left_comm p', Int.mul_comm r' p']; omega
   · refine ⟨p', -r' + p' * (-((ent R n j).fdiv (ent R k j))), hp0, fun b => ?_⟩;rw [hmn, hAk, hAn, Int.mul_add, Int.add_mul, <- Int.mul_assoc]; omega
   · refine (hspA N hkN hnN).trans (SpEq.two hkN hnN hkn (fun a h h' b => hms a b h h') hmk hmn (x' := p') (y' := -y) (z' := r') (t' := x) (fun b => ?_) (fun b => ?_))
     · rw [hmk, hmn];have : p' * (x * ent M k b + y * ent M n b) + -y * (-r' * ent M k b + p' * ent M n b) = (p' * x + r' * y) * ent M k b := by
        simp only [Int.mul_add, Int.add_mul, Int.neg_mul, Int.mul_neg, Int.neg_neg];have a1 : p' * (y * ent M n b) = y * (p' * ent M n b) := Int.mul_left_comm ..;have a2 : y * (r' * ent M k b) = r' * y * ent M k b := by rw [<- Int.mul_assoc, Int.mul_comm y]
        have a3 : p' * (x * ent M k b) = p' * x * ent M k b := (Int.mul_assoc ..).symm;omega
       rw [this, hk1, Int.one_mul]
     · rw [hmk, hmn];have : r' * (x * ent M k b + y * ent M n b) + x * (-r' * ent M k b + p' * ent M n b) = (p' * x + r' * y) * ent M n b := by
        simp only [Int.mul_add, Int.add_mul, Int.neg_mul, Int.mul_neg];have a1 : r' * (x * ent M k b) = x * (r' * ent M k b) := Int.mul_left_comm ..;have a2 : r' * (y * ent M n b) = r' * y * ent M n b := (Int.mul_assoc ..).symm;have a3 : x * (p' * ent M n b) = p' * x * ent M n b := by rw [<- Int.mul_assoc, Int.mul_comm x]
        omega
       rw [this, hk1, Int.one_mul]
   · rw [hmk]; exact bnd x y b (by omega) (by omega)
   · rw [hmn]; exact bnd (-r') p' b (by rw [Int.natAbs_neg]; exact hr'D) hp'D
   · rw [e]; exact hsA.mixT_ k n _ _ _ _
   · exact meetT_length ..
/-! put. -/
theorem leadsOf_get (R : List Hd) {n k : Nat} (hk : k < n) : (leadsOf R n).getD k 0 = leadOf R k := by
 unfold leadsOf; simp [hk]
theorem settle_ok {c n B δ u : Nat} {l : Nat -> Nat} {R : List Hd} (hs : Sh c R) (hn : n <= R.length) (hE : Ech n c (ent R) l) (hu : ∀ a b, (ent R a b).natAbs < W ^ u) (hb : u + n * δ <= B)
 (hD : ∀ E', Herm n c E' l -> SpEq n (ent R) n E' -> ∀ i, i < n -> ∀ j, (E' i j).natAbs < W ^ δ) : ∃ R', SOut B c (leadsOf R n) n n R R' /\ SoutOk n c n l R R' := by
 have hls : ∀ k, k < n -> (leadsOf R n).getD k 0 = l k := fun k hk => by
  rw [leadsOf_get R hk];exact leadOf_at (by omega) hs (hE.zero k hk) (by have := hE.pos k hk; omega)
 have h1 := soutF_ok hls n R (Nat.le_refl _) hs hn hE (fun i k h1 h2 h3 => by omega);exact ⟨_, SOut_of (δ := δ) (u := u) hls hb n R (Nat.le_refl _) hs hn hE (fun i k h1 h2 h3 => by omega) (fun a b => pw_lt (hu a b) (by omega)) (fun a _ b => hu a b) (hD _ h1.herm h1.sp), h1⟩
theorem ent_swapsT {a : Nat} : ∀ (n : Nat) (R : List Hd), a <= n -> n < R.length -> ∀ i b, ent (swapsT a n R) i b = if i < a then ent R i b else if i = a then ent R n b else if i <= n then ent R (i - 1) b else ent R i b
 | 0, R, ha, hn, i, b => by
  obtain rfl : a = 0 := by omega
  unfold swapsT;by_cases h : i = 0
  · subst h; simp
  · rw [if_neg (by omega), if_neg h, if_neg (by omega)]
 | n + 1, R, ha, hn, i, b => by
  unfold swapsT;by_cases h : n + 1 <= a
  · obtain rfl : a = n + 1 := by omega
    rw [if_pos h];by_cases h1 : i < n + 1
    · rw [if_pos h1]
    · rw [if_neg h1];by_cases h2 : i = n + 1
      · subst h2; rw [if_pos rfl]
      · rw [if_neg h2, if_neg (by omega)]
  · rw [if_neg h, ent_swapsT n _ (by omega) (by rw [swapT_length]; omega)];have hsw := fun x => ent_swapT (R := R) (i := n + 1) (j := n) hn (by omega) x b;rw [hsw, hsw, hsw];by_cases h1 : i < a
    · rw [if_pos h1, if_pos h1];unfold swp; rw [if_neg (by omega), if_neg (by omega)]
    · rw [if_neg h1, if_neg h1];by_cases h2 : i = a
      · rw [if_pos h2, if_pos h2];unfold swp; rw [if_pos rfl]
      · rw [if_neg h2, if_neg h2];by_cases h3 : i <= n
        · rw [if_pos h3, if_pos (by omega)];unfold swp; rw [if_neg (by omega), if_neg (by omega)]
        · rw [if_neg h3];by_cases h4 : i = n + 1
          · subst h4; rw [if_pos (by omega)];unfold swp; rw [if_neg (by omega), if_pos rfl]; rfl
          · rw [if_neg (by omega : ¬ i <= n + 1)];unfold swp; rw [if_neg (by omega), if_neg h4]
theorem shSwapsT {c a : Nat} : ∀ (n : Nat) (R : List Hd), Sh c R -> Sh c (swapsT a n R)
 | 0, R, h => h
 | n + 1, R, h => by
  unfold swapsT; split
  · exact h
  · exact shSwapsT n _ (h.swapT_ _ _)
structure PI (c n δ u s : Nat) (l : Nat -> Nat) (last : Int) (E0 : Nat -> Nat -> Int) (v0 : Nat -> Int) (Ro R : List Hd) : Prop where
 sh : Sh c R
 len : R.length = Ro.length
 ech : Ech n c (ent R) l
 sn : s <= n
 lo : ∀ i, i < s -> (l i : Int) <= last
 hi : ∀ i, s <= i -> i < n -> last < (l i : Int)
 un : ∀ i, s <= i -> i < n -> ∀ b, ent R i b = E0 i b
 z : ∀ b : Nat, (b : Int) <= last -> ent R n b = 0
 bd : ∀ a b, (ent R a b).natAbs < W ^ u
 cb : ∃ (t : Int) (w : Nat -> Int), t ≠ 0 /\ Sp n E0 w /\ ∀ b, ent R n b = t * v0 b + w b
 sp : SpEq (n + 1) (ent Ro) (n + 1) (ent R)
 oth : ∀ a, n < a -> ∀ b, ent R a b = ent Ro a b
structure PutOk (c n : Nat) (E0 : Nat -> Nat -> Int) (v0 : Nat -> Int) (Ro : List Hd) (b : Bool) (R' : List Hd) : Prop where
 sh : Sh c R'
 len : R'.length = Ro.length
 oth : ∀ a, n < a -> ∀ b, ent R' a b = ent Ro a b
 no : b = false -> (∃ l', Herm n c (ent R') l') /\ (∀ b, ent R' n b = 0) /\ SpEq (n + 1) (ent Ro) n (ent R')
 yes : b = true -> (∃ l', Herm (n + 1) c (ent R') l') /\ SpEq (n + 1) (ent Ro) (n + 1) (ent R') /\ ∀ s : Int, Sp n E0 (fun j => s * v0 j) -> s = 0
theorem first_at {n s j : Nat} {l : Nat -> Nat} (h : s <= n) : ∃ a, s <= a /\ a <= n /\ (∀ i, s <= i -> i < a -> l i < j) /\ (a = n ∨ (a < n /\ j <= l a)) := by
 obtain ⟨f, hf⟩ : ∃ f, n - s = f := ⟨_, rfl⟩;induction f generalizing s with
 | zero => exact ⟨s, Nat.le_refl _, h, fun i h1 h2 => by omega, .inl (by omega)⟩
 | succ f ih =>
  by_cases hj : j <= l s
  · exact ⟨s, Nat.le_refl _, h, fun i h1 h2 => by omega, .inr ⟨by omega, hj⟩⟩
  · obtain ⟨a, h1, h2, h3, h4⟩ := ih (s := s + 1) (by omega) (by omega);refine ⟨a, by omega, h2, fun i hi hia => ?_, h4⟩;by_cases e : i = s
    · subst e; omega
    · exact h3 i (by omega) hia
theorem ech_insert {c n a j : Nat} {l : Nat -> Nat} {E F : Nat -> Nat -> Int} (h : Ech n c E l) (ha : a <= n) (hlo : ∀ i, i < a -> l i < j) (hhi : ∀ i, a <= i -> i < n -> j < l i) (hj : j < c) (h0 : ∀ b, b < j -> E n b = 0) (hp : 0 < E n j)
 (hF : ∀ i b, i <= n -> F i b = if i < a then E i b else if i = a then E n b else E (i - 1) b) : Ech (n + 1) c F (fun i => if i < a then l i else if i = a then j else l (i - 1)) := by
 refine ⟨fun i k hik hk => ?_, fun i hi => ?_, fun i hi b hb => ?_, fun i hi => ?_⟩
 · show (if i < a then l i else if i = a then j else l (i - 1)) < (if k < a then l k else if k = a then j else l (k - 1));by_cases h1 : k < a
   · rw [if_pos h1, if_pos (by omega)]; exact h.inc i k hik (by omega)
   · rw [if_neg h1];by_cases h2 : k = a
     · rw [if_pos h2, if_pos (by omega)]; exact hlo i (by omega)
     · rw [if_neg h2];by_cases h3 : i < a
       · rw [if_pos h3]; exact h.inc i (k - 1) (by omega) (by omega)
       · rw [if_neg h3];by_cases h4 : i = a
         · rw [if_pos h4]; exact hhi (k - 1) (by omega) (by omega)
         · rw [if_neg h4]; exact h.inc (i - 1) (k - 1) (by omega) (by omega)
 · show (if i < a then l i else if i = a then j else l (i - 1)) < c;split
   · exact h.lt i (by omega)
   · split
     · exact hj
     · exact h.lt (i - 1) (by omega)
 · rw [hF i b (by omega)];have hb : b < (if i < a then l i else if i = a then j else l (i - 1)) := hb;split at hb
   · rename_i h1; rw [if_pos h1]; exact h.zero i (by omega) b hb
   · rename_i h1; rw [if_neg h1];split at hb
     · rename_i h2; rw [if_pos h2]; exact h0 b hb
     · rename_i h2; rw [if_neg h2]; exact h.zero (i - 1) (by omega) b hb
 · rw [hF i _ (by omega)];show 0 < (if i < a then E i (if i < a then l i else if i = a then j else l (i - 1)) else if i = a then E n (if i < a then l i else if i = a then j else l (i - 1)) else E (i - 1) (if i < a then l i else if i = a then j else l (i - 1)));split
   · exact h.pos i (by omega)
   · split
     · exact hp
     · exact h.pos (i - 1) (by omega)
theorem SpEq.perm {n a : Nat} {E F : Nat -> Nat -> Int} (ha : a <= n) (hF : ∀ i b, i <= n -> F i b = if i < a then E i b else if i = a then E n b else E (i - 1) b) : SpEq (n + 1) E (n + 1) F := by
 refine ⟨fun k hk => ?_, fun k hk => ?_⟩
 · by_cases h1 : k < a
   · exact (Sp.row F hk).congr (fun b => by rw [hF k b (by omega), if_pos h1])
   · by_cases h2 : k = n
     · subst h2;exact (Sp.row F (show a < k + 1 by omega)).congr (fun b => by rw [hF a b (by omega), if_neg (by omega), if_pos rfl])
     · exact (Sp.row F (show k + 1 < n + 1 by omega)).congr (fun b => by rw [hF (k + 1) b (by omega), if_neg (by omega), if_neg (by omega)]; rfl)
 · by_cases h1 : k < a
   · exact (Sp.row E hk).congr (fun b => by rw [hF k b (by omega), if_pos h1])
   · by_cases h2 : k = a
     · exact (Sp.row E (show n < n + 1 by omega)).congr (fun b => by rw [hF k b (by omega), if_neg h1, if_pos h2])
     · exact (Sp.row E (show k - 1 < n + 1 by omega)).congr (fun b => by rw [hF k b (by omega), if_neg h1, if_neg h2])
theorem SpEq.neg {N n : Nat} {E F : Nat -> Nat -> Int} (hn : n < N) (hs : ∀ a, a ≠ n -> ∀ b, F a b = E a b) (h : ∀ b, F n b = - E n b) : SpEq N E N F := by
 refine ⟨fun k hk => ?_, fun k hk => ?_⟩
 · by_cases e : k = n
   · subst e; exact ((Sp.row F hk).smul (-1)).congr (fun b => by rw [h]; omega)
   · exact (Sp.row F hk).congr (fun b => (hs k e b).symm)
 · by_cases e : k = n
   · subst e; exact ((Sp.row E hk).smul (-1)).congr (fun b => by rw [h]; omega)
   · exact (Sp.row E hk).congr (fun b => hs k e b)
theorem putLoop_end {c n δ B U : Nat} {l : Nat -> Nat} {E0 : Nat -> Nat -> Int} {v0 : Nat -> Int} {Ro : List Hd} (hn : n < Ro.length) (hH0 : Ech n c E0 l) (hδ : ∀ a, a < n -> ∀ b, (E0 a b).natAbs < W ^ δ) (hUB : U + (n + 1) * δ <= B)
 (hZ : ∀ E' l', Herm n c E' l' -> SpEq (n + 1) (ent Ro) n E' -> ∀ i, i < n -> ∀ j, (E' i j).natAbs < W ^ δ)
 (hS : (∀ s : Int, Sp n E0 (fun j => s * v0 j) -> s = 0) -> ∀ E' l', Herm (n + 1) c E' l' -> SpEq (n + 1) (ent Ro) (n + 1) E' -> ∀ i, i < n + 1 -> ∀ j, (E' i j).natAbs < W ^ δ)
 (s u at_ : Nat) (last : Int) (R : List Hd) (hI : PI c n δ u s l last E0 v0 Ro R) (hat : at_ <= s) (hu : u + (n - s) * (2 * δ + 1) <= U)
 (hnext : ∀ a, s <= a -> a < n -> ∀ R1 u1, PI c n δ u1 (a + 1) l (l a) E0 v0 Ro R1 -> u1 + (n - (a + 1)) * (2 * δ + 1) <= U -> ∃ b R', PutT B c n a (l a) R1 b R' /\ PutOk c n E0 v0 Ro b R') :
 ∃ b R', PutT B c n at_ last R b R' /\ PutOk c n E0 v0 Ro b R' := by
 have hnR : n < R.length := by rw [hI.len]; exact hn
 have hle := lead_ent hnR hI.sh;have huB : u <= B := by have := Nat.zero_le ((n - s) * (2 * δ + 1)); have := Nat.zero_le ((n + 1) * δ); omega
 have hFit : Fit B c R := Fit.of hI.sh (fun a b => pw_lt (hI.bd a b) huB);have hnδ : n * δ <= (n + 1) * δ := Nat.mul_le_mul_right _ (by omega);have huU : u <= U := by have := Nat.zero_le ((n - s) * (2 * δ + 1)); omega
 by_cases hc : leadOf R n = c
 · -- nothing is left
   have hz : ∀ b, ent R n b = 0 := fun b => by
    by_cases h : b < c
    · exact hle.2.1 b (by omega)
    · exact hI.sh.wide n (by omega)
   have hspz : SpEq (n + 1) (ent R) n (ent R) := by
    refine ⟨fun k hk => ?_, fun k hk => Sp.row _ (by omega)⟩;by_cases e : k = n
    · subst e; exact (Sp.zero _ _).congr hz
    · exact Sp.row _ (by omega)
   obtain ⟨R', h1, h2⟩ := settle_ok (B := B) (δ := δ) hI.sh (by omega : n <= R.length) hI.ech hI.bd (by omega) (fun E' hE' hsp => hZ E' l hE' (hI.sp.trans (hspz.trans hsp)));exact ⟨false, R', .zero hFit (.inl hc) h1, h2.sh, h2.len.trans hI.len, fun a ha b => (h2.same a (by omega) b).trans (hI.oth a ha b), fun _ => ⟨⟨l, h2.herm⟩, fun b => (h2.same n (Nat.le_refl _) b).trans (hz b), hI.sp.trans (hspz.trans h2.sp)⟩, fun h => by cases h⟩
 · have hjc : leadOf R n < c := by have := hle.1; omega
   obtain ⟨j, hj⟩ : ∃ j, leadOf R n = j := ⟨_, rfl⟩;rw [hj] at hjc hc hle;have hvj := hle.2.2 hjc;have hlast : last < (j : Int) := by
    by_cases h : last < (j : Int)
    · exact h
    · exact absurd (hI.z j (by omega)) hvj
   obtain ⟨a, hsa, han, hlt, hend⟩ := first_at (l := l) (j := j) hI.sn;have hlead : ∀ i, i < n -> leadOf R i = l i := fun i hi => leadOf_at (by omega) hI.sh (hI.ech.zero i hi) (by have := hI.ech.pos i hi; omega);have hlo : ∀ i, i < a -> l i < j := fun i hi => by
    by_cases h : s <= i
    · exact hlt i h hi
    · have := hI.lo i (by omega); omega
   by_cases hm : a < n /\ l a = j
   · obtain ⟨ha, hla⟩ := hm;have hrow : ∀ b, (ent R a b).natAbs < W ^ δ := fun b => by rw [hI.un a hsa ha]; exact hδ a ha b
     have hp : 0 < ent R a j := by rw [<- hla]; exact hI.ech.pos a ha
     have h0a : ∀ b, b < j -> ent R a b = 0 := fun b hb => hI.ech.zero a ha b (by omega);have hok := meet_ok (j := j) hI.sh (by omega : a < R.length) hnR (by omega) hp h0a hle.2.1 hrow (hI.bd n);have hA := meetA_ent hI.sh (by omega : a < R.length) hnR j;have hbA := meetA_bound (j := j) hI.sh (by omega : a < R.length) hnR hp hrow (hI.bd n);have h2n : (n - s) * (2 * δ + 1) = (n - (a + 1)) * (2 * δ + 1) + (a + 1 - s) * (2 * δ + 1) := by rw [<- Nat.add_mul]; congr 1; omega
     have h2a : 2 * δ + 1 <= (a + 1 - s) * (2 * δ + 1) := by have := Nat.mul_le_mul_right (2 * δ + 1) (show 1 <= a + 1 - s by omega); omega
     have hbud : u + 2 * δ + 1 + (n - (a + 1)) * (2 * δ + 1) <= U := by omega
     have hudB : u + 2 * δ + 1 <= B := by
      have := Nat.zero_le ((n - (a + 1)) * (2 * δ + 1)); have := Nat.zero_le ((n + 1) * δ); omega
     have hFitA : Fit B c (meetA R a n j) := Fit.of (hI.sh.addT_ n a _) (fun x b => by
      by_cases e : x = n
      · subst e; exact pw_lt (hbA b) (by omega)
      · rw [hA, if_neg e]; exact pw_lt (hI.bd x b) huB)
     have hpA : ent (meetA R a n j) a j ≠ 0 := by rw [hA, if_neg (by omega)]; omega
     have hPI : PI c n δ (u + 2 * δ + 1) (a + 1) l (l a) E0 v0 Ro (meetT R a n j) := by
      refine ⟨hok.sh, hok.len.trans hI.len, ?_, by omega, ?_, ?_, ?_, ?_, ?_, ?_, hI.sp.trans (hok.sp (n + 1) (by omega) (by omega)), ?_⟩
      · refine ⟨hI.ech.inc, hI.ech.lt, fun i hi b hb => ?_, fun i hi => ?_⟩
        · by_cases e : i = a
          · subst e; exact hok.low b (by omega)
          · rw [hok.same i e (by omega)]; exact hI.ech.zero i hi b hb
        · by_cases e : i = a
          · subst e; rw [hla]; exact hok.piv
          · rw [hok.same i e (by omega)]; exact hI.ech.pos i hi
      · intro i hi;by_cases e : i = a
        · subst e; exact Int.le_refl _
        · have := hI.ech.inc i a (by omega) ha; omega
      · intro i hi hin;have := hI.ech.inc a i (by omega) hin; omega
      · intro i hi hin b;rw [hok.same i (by omega) (by omega)]; exact hI.un i (by omega) hin b
      · intro b hb;exact hok.gone b (by omega)
      · intro x b;by_cases e : x = a
        · subst e; exact hok.bk b
        · by_cases e' : x = n
          · subst e'; exact hok.bn b
          · rw [hok.same x e e']; exact pw_lt (hI.bd x b) (by omega)
      · obtain ⟨t, w, ht, hw, hv⟩ := hI.cb;obtain ⟨t', s', ht', hv'⟩ := hok.comb;refine ⟨t' * t, fun b => t' * w b + s' * E0 a b, fun e => ?_, (hw.smul t').add ((Sp.row E0 ha).smul s'), fun b => ?_⟩
        · rcases Int.mul_eq_zero.1 e with e | e
          · exact ht' e
          · exact ht e
        · show ent (meetT R a n j) n b = t' * t * v0 b + (t' * w b + s' * E0 a b);rw [hv', hv, hI.un a hsa ha, Int.mul_add, Int.mul_assoc]; omega
      · intro x hx b;rw [hok.same x (by omega) (by omega)]; exact hI.oth x hx b
     obtain ⟨b, R', h1, h2⟩ := hnext a hsa ha (meetT R a n j) (u + 2 * δ + 1) hPI hbud;refine ⟨b, R', .meet hFit (by rw [hj]; exact hjc) (by rw [hj]; exact hlast) a (by omega) ha (fun i h3 h4 => ?_) ?_ ?_ ?_ ?_ ?_, h2⟩
     · rw [hj, hlead i (by omega)]; exact hlo i h4
     · rw [hj, hlead a ha, hla]
     · rw [hj]; omega
     · rw [hj]; exact hFitA
     · rw [hj]; exact hpA
     · rw [hj]; rw [hla] at h1; exact h1
   · have hhi : ∀ i, a <= i -> i < n -> j < l i := fun i h1 h2 => by
      rcases hend with h3 | ⟨h3, h4⟩
      · omega
      · by_cases e : i = a
        · subst e;have : l i ≠ j := fun h => hm ⟨h3, h⟩;omega
        · have := hI.ech.inc a i (by omega) h2; omega
     obtain ⟨R1, hR1⟩ : ∃ R1, (if ent R n (leadOf R n) < 0 then turnT R n else R) = R1 := ⟨_, rfl⟩;have hR1e : ∀ x, x ≠ n -> ∀ b, ent R1 x b = ent R x b := fun x hx b => by
      rw [<- hR1]; split
      · rw [ent_turnT hnR, if_neg hx]
      · rfl
     have hR1n : (∀ b, (ent R1 n b).natAbs = (ent R n b).natAbs) /\ 0 < ent R1 n j /\ ((∀ b, ent R1 n b = ent R n b) ∨ (∀ b, ent R1 n b = - ent R n b)) := by
      rw [<- hR1]; split
      · rename_i h;rw [hj] at h;have h1 := fun b => (ent_turnT hnR n b).trans (if_pos rfl);exact ⟨fun b => by rw [h1, Int.natAbs_neg], by rw [h1]; omega, .inr h1⟩
      · rename_i h;rw [hj] at h;exact ⟨fun b => rfl, by omega, .inl (fun b => rfl)⟩
     have hR1s : Sh c R1 := by
      rw [<- hR1]; split
      · exact hI.sh.turnT_ n
      · exact hI.sh
     have hR1l : R1.length = R.length := by
      rw [<- hR1]; split
      · exact turnT_length ..
      · rfl
     have hR1b : ∀ x b, (ent R1 x b).natAbs < W ^ u := fun x b => by
      by_cases e : x = n
      · subst e; rw [hR1n.1]; exact hI.bd x b
      · rw [hR1e x e]; exact hI.bd x b
     have hsp1 : SpEq (n + 1) (ent R) (n + 1) (ent R1) := by
      rcases hR1n.2.2 with h | h
      · exact SpEq.of_eq (fun k hk b => by
         by_cases e : k = n
         · subst e; exact (h b).symm
         · exact (hR1e k e b).symm)
      · exact SpEq.neg (by omega) hR1e h
     have hsw := ent_swapsT (a := a) n R1 han (by omega);obtain ⟨R2, hR2⟩ : ∃ R2, swapsT a n R1 = R2 := ⟨_, rfl⟩;have hs2 : Sh c R2 := hR2 ▸ shSwapsT n R1 hR1s;have hl2 : R2.length = R.length := by rw [<- hR2, swapsT_length, hR1l]
     rw [hR2] at hsw;have hsw2 : ∀ i b, i <= n -> ent R2 i b = if i < a then ent R1 i b else if i = a then ent R1 n b else ent R1 (i - 1) b := fun i b hi => by
      rw [hsw];by_cases h1 : i < a
      · rw [if_pos h1, if_pos h1]
      · rw [if_neg h1, if_neg h1];by_cases h2 : i = a
        · rw [if_pos h2, if_pos h2]
        · rw [if_neg h2, if_neg h2, if_pos hi]
     have hb2 : ∀ x b, (ent R2 x b).natAbs < W ^ u := fun x b => by
      rw [hsw]; split
      · exact hR1b ..
      · split
        · exact hR1b ..
        · split <;> exact hR1b ..
     have hE1 : Ech n c (ent R1) l := hI.ech.congr (fun x hx b => hR1e x (by omega) b);have h10 : ∀ b, b < j -> ent R1 n b = 0 := fun b hb => by
      have h1 := hR1n.1 b;rw [hle.2.1 b hb] at h1; omega
     have hE2 := ech_insert hE1 han hlo hhi hjc h10 hR1n.2.1 hsw2;have hsp2 := SpEq.perm han hsw2;have hind : ∀ t : Int, Sp n E0 (fun b => t * v0 b) -> t = 0 := by
      intro t ht;obtain ⟨t', w, ht', hw, hv⟩ := hI.cb;by_cases h0 : t = 0
      · exact h0
      · exfalso;have hin : Sp n E0 (fun b => t * ent R n b) := ((ht.smul t').add (hw.smul t)).congr (fun b => by
         rw [hv, Int.mul_add, <- Int.mul_assoc, <- Int.mul_assoc, Int.mul_comm t' t])
        obtain ⟨k, hk, hlk, _⟩ := hH0.lead hin (q := j) (fun e => by
         rcases Int.mul_eq_zero.1 e with e | e
         · exact h0 e
         · exact hvj e) (fun b hb => by
           show t * ent R n b = 0;rw [hle.2.1 b hb, Int.mul_zero])
        by_cases hka : k < a
        · have := hlo k hka; omega
        · have := hhi k (by omega) hk; omega
     obtain ⟨R', h1, h2⟩ := settle_ok (B := B) (δ := δ) (n := n + 1) hs2 (by omega) hE2 hb2 (by omega) (fun E' hE' hsp => hS hind E' _ hE' (hI.sp.trans (hsp1.trans (hsp2.trans hsp))));refine ⟨true, R', .stop hFit (by rw [hj]; exact hjc) (by rw [hj]; exact hlast) a (by omega) han (fun i h3 h4 => ?_) ?_ ?_ ?_, h2.sh, h2.len.trans (hl2.trans hI.len), fun x hx b => ?_, fun h => (by cases h), fun _ => ⟨⟨_, h2.herm⟩, hI.sp.trans (hsp1.trans (hsp2.trans h2.sp)), hind⟩⟩
     · rw [hj, hlead i (by omega)]; exact hlo i h4
     · rcases Nat.lt_or_eq_of_le han with h | h
       · refine .inr ?_;rw [hj, hlead a h]; exact hhi a (Nat.le_refl _) h
       · exact .inl h
     · rw [hR1, hR2]; exact Fit.of hs2 (fun a b => pw_lt (hb2 a b) huB)
     · rw [hR1, hR2]; exact h1
     · rw [h2.same x (by omega), hsw, if_neg (by omega), if_neg (by omega), if_neg (by omega), hR1e x (by omega)];exact hI.oth x hx b
theorem putLoop {c n δ B U : Nat} {l : Nat -> Nat} {E0 : Nat -> Nat -> Int} {v0 : Nat -> Int} {Ro : List Hd} (hn : n < Ro.length) (hH0 : Ech n c E0 l) (hδ : ∀ a, a < n -> ∀ b, (E0 a b).natAbs < W ^ δ) (hUB : U + (n + 1) * δ <= B)
 (hZ : ∀ E' l', Herm n c E' l' -> SpEq (n + 1) (ent Ro) n E' -> ∀ i, i < n -> ∀ j, (E' i j).natAbs < W ^ δ)
 (hS : (∀ s : Int, Sp n E0 (fun j => s * v0 j) -> s = 0) -> ∀ E' l', Herm (n + 1) c E' l' -> SpEq (n + 1) (ent Ro) (n + 1) E' -> ∀ i, i < n + 1 -> ∀ j, (E' i j).natAbs < W ^ δ) :
 ∀ (f s u at_ : Nat) (last : Int) (R : List Hd), n - s <= f -> PI c n δ u s l last E0 v0 Ro R -> at_ <= s -> u + (n - s) * (2 * δ + 1) <= U -> ∃ b R', PutT B c n at_ last R b R' /\ PutOk c n E0 v0 Ro b R' := by
 intro f;induction f with
 | zero =>
  intro s u at_ last R hf hI hat hu;exact putLoop_end hn hH0 hδ hUB hZ hS s u at_ last R hI hat hu (fun a ha1 ha2 => by omega)
 | succ f ih =>
  intro s u at_ last R hf hI hat hu;refine putLoop_end hn hH0 hδ hUB hZ hS s u at_ last R hI hat hu (fun a ha1 ha2 R1 u1 hI1 hu1 => ?_);exact ih (a + 1) u1 a (l a) R1 (by omega) hI1 (by omega) hu1
/-! Reduce. -/
def hermW (N m : Nat) : Nat := 2 * (m + 1) * N + 1
theorem hermD_lt {n N m : Nat} (hn : n <= N) (hN : N <= 1048576) : hermD n (W ^ m) < W ^ hermW N m := by
 unfold hermD hermW;rcases Nat.eq_zero_or_pos n with h | h
 · subst h; simp; exact pw_pos _
 · have h1 : 2 * n * W ^ m + 1 <= W ^ (m + 1) := by
    rw [Nat.pow_succ, Nat.mul_comm (W ^ m)];have h2 : (2 * n + 1) * W ^ m <= W * W ^ m := Nat.mul_le_mul_right _ (by unfold W; omega);have h3 : (2 * n + 1) * W ^ m = 2 * n * W ^ m + W ^ m := by rw [Nat.add_mul, Nat.one_mul]
    have := pw_pos m;omega
   have h2 : (2 * n * W ^ m + 1) ^ (n - 1) <= W ^ ((m + 1) * (n - 1)) := by
    rw [Nat.pow_mul]; exact Nat.pow_le_pow_left h1 _
   have h3 : n * ((2 * n * W ^ m + 1) ^ (n - 1) * W ^ m) <= W ^ ((m + 1) * n) := by
    have h4 : (2 * n * W ^ m + 1) ^ (n - 1) * W ^ m <= W ^ ((m + 1) * (n - 1)) * W ^ m := Nat.mul_le_mul_right _ h2;have h5 : n * ((2 * n * W ^ m + 1) ^ (n - 1) * W ^ m) <= W * (W ^ ((m + 1) * (n - 1)) * W ^ m) := Nat.mul_le_mul (by unfold W; omega) h4;refine Nat.le_trans h5 ?_;have e : W * (W ^ ((m + 1) * (n - 1)) * W ^ m) = W ^ ((m + 1) * (n - 1) + m + 1) := by
     rw [<- Nat.pow_add, Nat.mul_comm W, <- Nat.pow_succ]
    rw [e];have e2 : (m + 1) * (n - 1) + m + 1 = (m + 1) * n := by
     have : n = n - 1 + 1 := by omega
     rw [Nat.add_assoc]
     conv => rhs; rw [this, Nat.mul_add, Nat.mul_one]
    rw [e2]; exact Nat.le_refl _
   obtain ⟨D, hD⟩ : ∃ D, n * ((2 * n * W ^ m + 1) ^ (n - 1) * W ^ m) = D := ⟨_, rfl⟩;rw [hD] at h3 ⊢;have h6 : D * D <= W ^ (2 * (m + 1) * n) := by
    have := Nat.mul_le_mul h3 h3;rw [<- Nat.pow_add] at this;have e : (m + 1) * n + (m + 1) * n = 2 * (m + 1) * n := by rw [Nat.mul_assoc]; omega
    rwa [e] at this
   have h7 : n * D * D < W * W ^ (2 * (m + 1) * n) := by
    rw [Nat.mul_assoc];refine Nat.lt_of_le_of_lt (Nat.mul_le_mul_left n h6) ?_;exact Nat.mul_lt_mul_of_pos_right (by unfold W; omega) (pw_pos _)
   refine Nat.lt_of_lt_of_le h7 ?_;rw [Nat.mul_comm W, <- Nat.pow_succ];refine pw_le ?_;have : 2 * (m + 1) * n <= 2 * (m + 1) * N := Nat.mul_le_mul_left _ hn;omega
def ladW (N m : Nat) : Nat := hermW N m + N * (2 * hermW N m + 1) + (N + 1) * hermW N m
theorem Indep.snoc {n : Nat} {a E0 : Nat -> Nat -> Int} {v : Nat -> Int} (h : Indep n a) (ha : ∀ k, k < n -> Sp n E0 (a k)) (hv : ∀ s : Int, Sp n E0 (fun j => s * v j) -> s = 0) : Indep (n + 1) (fun k => if k < n then a k else v) := by
 intro x hx k hk;have e : ∀ j, sm n (fun k => x k * a k j) + x n * v j = 0 := fun j => by
  have := hx j;unfold sm at this;rw [sm_congr (g := fun k => x k * a k j) (fun k hk => by simp [hk])] at this;simpa using this
 have h0 : x n = 0 := by
  refine hv _ (((Sp.sm (x := fun k => - x k) ha)).congr (fun j => ?_));have h1 := e j;have h2 : sm n (fun k => - x k * a k j) = - sm n (fun k => x k * a k j) := by
   have := sm_mul n (-1) (fun k => x k * a k j);rw [Int.neg_one_mul] at this;rw [<- this]; exact sm_congr (fun k _ => by rw [Int.neg_mul, Int.neg_one_mul])
  rw [h2]; omega
 by_cases hkn : k = n
 · subst hkn; exact h0
 · refine h x (fun j => ?_) k (by omega);have := e j;rw [h0] at this; simpa using this
theorem ent_rotT : ∀ (k i : Nat) (R : List Hd), i + k < R.length -> ∀ a b, ent (rotT k i R) a b = if a < i then ent R a b else if a < i + k then ent R (a + 1) b else if a = i + k then ent R i b else ent R a b
 | 0, i, R, h, a, b => by
  unfold rotT;by_cases h1 : a < i
  · rw [if_pos h1]
  · rw [if_neg h1, if_neg (by omega)];by_cases h2 : a = i + 0
    · rw [if_pos h2]; subst h2; rfl
    · rw [if_neg h2]
 | k + 1, i, R, h, a, b => by
  unfold rotT;rw [ent_rotT k (i + 1) _ (by rw [swapT_length]; omega)];have hsw := fun x => ent_swapT (R := R) (i := i) (j := i + 1) (by omega) (by omega) x b;rw [hsw, hsw, hsw];by_cases h1 : a < i
  · rw [if_pos (by omega), if_pos h1];unfold swp; rw [if_neg (by omega), if_neg (by omega)]
  · rw [if_neg h1];by_cases h2 : a = i
    · rw [if_pos (by omega), if_pos (by omega)];unfold swp; rw [if_neg (by omega), if_pos h2, h2]
    · rw [if_neg (by omega)];by_cases h3 : a < i + (k + 1)
      · rw [if_pos (by omega), if_pos h3];unfold swp; rw [if_neg (by omega), if_neg (by omega)]
      · rw [if_neg (by omega), if_neg h3];by_cases h4 : a = i + (k + 1)
        · rw [if_pos (by omega), if_pos h4];unfold swp; rw [if_pos rfl]
        · rw [if_neg (by omega), if_neg h4];unfold swp; rw [if_neg (by omega), if_neg (by omega)]
theorem shRotT {c : Nat} : ∀ (k i : Nat) (R : List Hd), Sh c R -> Sh c (rotT k i R)
 | 0, i, R, h => h
 | k + 1, i, R, h => shRotT k (i + 1) _ (h.swapT_ _ _)
theorem rotT_length : ∀ (k i : Nat) (R : List Hd), (rotT k i R).length = R.length
 | 0, i, R => rfl
 | k + 1, i, R => (rotT_length k (i + 1) _).trans (swapT_length ..)
theorem Herm.congr {n c : Nat} {E F : Nat -> Nat -> Int} {l : Nat -> Nat} (h : Herm n c E l) (e : ∀ a, a < n -> ∀ b, F a b = E a b) : Herm n c F l :=
 ⟨h.toEch.congr e, fun i k hik hk => by rw [e i (by omega), e k hk]; exact h.red i k hik hk⟩
structure RI (c m : Nat) (Ro : List Hd) (d e : Nat) (R : List Hd) : Prop where
 sh : Sh c R
 len : R.length = Ro.length
 de : d <= e
 el : e <= Ro.length
 herm : ∃ l, Herm d c (ent R) l
 raw : ∀ i, d <= i -> i < e -> ∀ b, (ent R i b).natAbs < W ^ m
 zero : ∀ i, e <= i -> ∀ b, ent R i b = 0
 sp : SpEq Ro.length (ent Ro) e (ent R)
 ind : ∃ a : Nat -> Nat -> Int, (∀ k, k < d -> Sp d (ent R) (a k)) /\ Indep d a /\ ∀ k b, k < d -> (a k b).natAbs <= W ^ m
structure RedOk (c D : Nat) (Ro : List Hd) (k : Nat) (R' : List Hd) : Prop where
 sh : Sh c R'
 len : R'.length = Ro.length
 kl : k <= Ro.length
 herm : ∃ l, Herm k c (ent R') l
 zero : ∀ i, k <= i -> ∀ b, ent R' i b = 0
 sp : SpEq Ro.length (ent Ro) k (ent R')
 bd : ∀ i b, (ent R' i b).natAbs < W ^ D
theorem RI.done {c m N d : Nat} {Ro R : List Hd} (hI : RI c m Ro d d R) (hN : Ro.length <= N) (hN1 : N <= 1048576) : RedOk c (hermW N m) Ro d R := by
 refine ⟨hI.sh, hI.len, hI.el, hI.herm, hI.zero, hI.sp, fun i b => ?_⟩;obtain ⟨l, hH⟩ := hI.herm;obtain ⟨a, ha1, ha2, ha3⟩ := hI.ind;by_cases h : i < d
 · exact Nat.lt_of_le_of_lt (hH.bound ha1 ha2 (fun k j hk => ha3 k j hk) i b h) (hermD_lt (by have := hI.el; omega) hN1)
 · rw [hI.zero i (by omega)]; simpa using pw_pos _
theorem red_ok {c m N B : Nat} {Ro : List Hd} (hN : Ro.length <= N) (hN1 : N <= 1048576) (hB : ladW N m <= B) : ∀ (f d e : Nat) (R : List Hd), e - d <= f -> RI c m Ro d e R -> ∃ k R', RedT B c d e R k R' /\ RedOk c (hermW N m) Ro k R'
 | 0, d, e, R, hf, hI => by
  have : d = e := by have := hI.de; omega
  subst this;exact ⟨d, R, .fin (Nat.le_refl _), hI.done hN hN1⟩
 | f + 1, d, e, R, hf, hI => by
  by_cases hde : d < e
  · obtain ⟨δ, hδ⟩ : ∃ δ, hermW N m = δ := ⟨_, rfl⟩;unfold ladW at hB;rw [hδ] at hB;obtain ⟨l, hH⟩ := hI.herm;obtain ⟨a, ha1, ha2, ha3⟩ := hI.ind;have hdl : d < Ro.length := by have := hI.el; omega
    have hmδ : m <= δ := by
     have h1 : (m + 1) * 1 <= (m + 1) * (2 * N) := Nat.mul_le_mul_left _ (by omega);rw [<- hδ]; unfold hermW;have h2 : 2 * (m + 1) * N = (m + 1) * (2 * N) := by rw [Nat.mul_comm 2, Nat.mul_assoc]
     omega
    have hbnd : ∀ i, i < d -> ∀ b, (ent R i b).natAbs < W ^ δ := fun i hi b => by
     have := hH.bound ha1 ha2 (fun k j hk => ha3 k j hk) i b hi;exact Nat.lt_of_le_of_lt this (hδ ▸ hermD_lt (by omega) hN1)
    have hall : ∀ x b, (ent R x b).natAbs < W ^ δ := fun x b => by
     by_cases h1 : x < d
     · exact hbnd x h1 b
     · by_cases h2 : x < e
       · exact pw_lt (hI.raw x (by omega) h2 b) hmδ
       · rw [hI.zero x (by omega)]; simpa using pw_pos δ
    have hsub : ∀ {M : Nat} {E' : Nat -> Nat -> Int}, SpEq (d + 1) (ent R) M E' -> ∀ k, k < d -> Sp M E' (a k) := fun hsp k hk =>
     (ha1 k hk).trans (fun i hi => hsp.1 i (by omega))
    have hZ : ∀ E' l', Herm d c E' l' -> SpEq (d + 1) (ent R) d E' -> ∀ i, i < d -> ∀ j, (E' i j).natAbs < W ^ δ := fun E' l' hE' hsp i hi j =>
     Nat.lt_of_le_of_lt (hE'.bound (hsub hsp) ha2 (fun k j hk => ha3 k j hk) i j hi) (hδ ▸ hermD_lt (by omega) hN1)
    have hS : (∀ s : Int, Sp d (ent R) (fun j => s * ent R d j) -> s = 0) -> ∀ E' l', Herm (d + 1) c E' l' -> SpEq (d + 1) (ent R) (d + 1) E' -> ∀ i, i < d + 1 -> ∀ j, (E' i j).natAbs < W ^ δ := fun hv E' l' hE' hsp i hi j => by
     have hb := hE'.bound (a := fun k => if k < d then a k else ent R d) (M := W ^ m) (fun k hk => by
      by_cases h : k < d
      · simp only [if_pos h]; exact hsub hsp k h
      · simp only [if_neg h]; exact hsp.1 d (by omega)) (ha2.snoc ha1 hv) (fun k j hk => by
      by_cases h : k < d
      · simp only [if_pos h]; exact ha3 k j h
      · simp only [if_neg h]; exact Nat.le_of_lt (hI.raw d (Nat.le_refl _) hde j)) i j hi
     exact Nat.lt_of_le_of_lt hb (hδ ▸ hermD_lt (by omega) hN1)
    have hmulN : (d - 0) * (2 * δ + 1) <= N * (2 * δ + 1) := Nat.mul_le_mul_right _ (by omega);have hmulN2 : (d + 1) * δ <= (N + 1) * δ := Nat.mul_le_mul_right _ (by omega);obtain ⟨b, R1, hput, hok⟩ := putLoop (δ := δ) (B := B) (U := δ + N * (2 * δ + 1)) (v0 := ent R d) (by rw [hI.len]; exact hdl : d < R.length) hH.toEch hbnd (by omega) hZ hS d 0 δ 0 (-1) R (by omega)
     ⟨hI.sh, rfl, hH.toEch, Nat.zero_le _, fun i hi => by omega, fun i _ _ => by omega, fun i _ _ _ => rfl, fun b hb => by omega, hall, ⟨1, fun _ => 0, by omega, Sp.zero _ _, fun b => by simp⟩, SpEq.refl _ _, fun _ _ _ => rfl⟩ (Nat.le_refl _) (by omega)
    cases b
    · obtain ⟨⟨l', hH'⟩, hz, hsp⟩ := hok.no rfl;have hl1 : R1.length = R.length := hok.len;have hrot := ent_rotT (e - 1 - d) d R1 (by rw [hl1, hI.len]; have := hI.el; omega);have e1 : d + (e - 1 - d) = e - 1 := by omega
      rw [e1] at hrot;obtain ⟨R2, hR2⟩ : ∃ R2, rotT (e - 1 - d) d R1 = R2 := ⟨_, rfl⟩;have hlo : ∀ i, i < d -> ∀ b, ent R2 i b = ent R1 i b := fun i hi b => by rw [<- hR2, hrot, if_pos hi]
      have hmid : ∀ i, d <= i -> i < e - 1 -> ∀ b, ent R2 i b = ent R (i + 1) b := fun i h1 h2 b => by
       rw [<- hR2, hrot, if_neg (by omega), if_pos h2, hok.oth (i + 1) (by omega)]
      have hsp2 : SpEq Ro.length (ent Ro) (e - 1) (ent R2) := by
       refine hI.sp.trans ⟨fun k hk => ?_, fun k hk => ?_⟩
       · by_cases h1 : k <= d
         · refine (hsp.1 k (by omega)).trans (fun i hi => ?_);exact (Sp.row (ent R2) (by omega : i < e - 1)).congr (fun b => (hlo i hi b).symm)
         · refine (Sp.row (ent R2) (by omega : k - 1 < e - 1)).congr (fun b => ?_);rw [hmid (k - 1) (by omega) (by omega)]; congr 1; omega
       · by_cases h1 : k < d
         · refine ((hsp.2 k h1).congr (hlo k h1)).trans (fun i hi => Sp.row _ (by omega))
         · exact (Sp.row (ent R) (by omega : k + 1 < e)).congr (hmid k (by omega) hk)
      have hRI : RI c m Ro d (e - 1) R2 := by
       refine ⟨hR2 ▸ shRotT _ _ _ hok.sh, by rw [<- hR2, rotT_length, hl1, hI.len], by omega, by have := hI.el; omega, ⟨l', hH'.congr hlo⟩, fun i h3 h4 b => ?_, fun i h3 b => ?_, hsp2, ⟨a, fun k hk => ?_, ha2, ha3⟩⟩
       · rw [hmid i h3 h4]; exact hI.raw (i + 1) (by omega) (by omega) b
       · rw [<- hR2, hrot, if_neg (by omega), if_neg (by omega)];by_cases h4 : i = e - 1
         · rw [if_pos h4]; exact hz b
         · rw [if_neg h4, hok.oth i (by omega)]; exact hI.zero i (by omega) b
       · refine (hsub hsp k hk).trans (fun i hi => ?_);exact (Sp.row (ent R2) hi).congr (fun b => (hlo i hi b).symm)
      obtain ⟨k, R', h1, h2⟩ := red_ok hN hN1 (by unfold ladW; rw [hδ]; exact hB) f d (e - 1) R2 (by omega) hRI;exact ⟨k, R', .zero hde hput (by rw [hR2]; exact h1), h2⟩
    · obtain ⟨⟨l', hH'⟩, hsp, hv⟩ := hok.yes rfl;have hl1 : R1.length = R.length := hok.len;have hsp2 : SpEq Ro.length (ent Ro) e (ent R1) := by
       refine hI.sp.trans ⟨fun k hk => ?_, fun k hk => ?_⟩
       · by_cases h1 : k < d + 1
         · exact (hsp.1 k h1).trans (fun i hi => Sp.row _ (by omega))
         · exact (Sp.row (ent R1) hk).congr (fun b => (hok.oth k (by omega) b).symm)
       · by_cases h1 : k < d + 1
         · exact (hsp.2 k h1).trans (fun i hi => Sp.row _ (by omega))
         · exact (Sp.row (ent R) hk).congr (fun b => hok.oth k (by omega) b)
      have hRI : RI c m Ro (d + 1) e R1 := by
       refine ⟨hok.sh, hl1.trans hI.len, by omega, hI.el, ⟨l', hH'⟩, fun i h3 h4 b => ?_, fun i h3 b => ?_, hsp2, ⟨fun k => if k < d then a k else ent R d, fun k hk => ?_, ha2.snoc ha1 hv, fun k b hk => ?_⟩⟩
       · rw [hok.oth i (by omega)]; exact hI.raw i (by omega) h4 b
       · rw [hok.oth i (by omega)]; exact hI.zero i h3 b
       · by_cases h : k < d
         · simp only [if_pos h]; exact hsub hsp k h
         · simp only [if_neg h]; exact hsp.1 d (by omega)
       · by_cases h : k < d
         · simp only [if_pos h]; exact ha3 k b h
         · simp only [if_neg h]; exact Nat.le_of_lt (hI.raw d (Nat.le_refl _) hde b)
      obtain ⟨k, R', h1, h2⟩ := red_ok hN hN1 (by unfold ladW; rw [hδ]; exact hB) f (d + 1) e R1 (by omega) hRI;exact ⟨k, R', .ok hde hput h1, h2⟩
  · have : d = e := by have := hI.de; omega
    subst this;exact ⟨d, R, .fin (Nat.le_refl _), hI.done hN hN1⟩
theorem reduce_ok {c m N B : Nat} {Ro : List Hd} (hs : Sh c Ro) (hm : ∀ i b, (ent Ro i b).natAbs < W ^ m) (hN : Ro.length <= N) (hN1 : N <= 1048576) (hB : ladW N m <= B) : ∃ k R', RedT B c 0 Ro.length Ro k R' /\ RedOk c (hermW N m) Ro k R' :=
 red_ok hN hN1 hB Ro.length 0 Ro.length Ro (by omega)
  ⟨hs, rfl, Nat.zero_le _, Nat.le_refl _, ⟨fun _ => 0, ⟨fun i k _ h => by omega, fun i h => by omega, fun i h => by omega, fun i h => by omega⟩, fun i k _ h => by omega⟩, fun i _ _ b => hm i b, fun i hi b => ent_out hi b, SpEq.refl _ _, ⟨fun _ _ => 0, fun k h => by omega, fun x _ k h => by omega, fun k b h => by omega⟩⟩
end Go.Proofs.YtdgfhcaokigieaaGreat
namespace Go.Proofs.YtdgfhcaokigieaaGreat
open Go.RowKit
structure KeepS (B : Nat) (S : Nat -> Prop) (w w' : World) : Prop where
 os : w'.os = w.os
 tape : w'.tape = w.tape
 output : w'.output = w.output
 size : w.heap.size <= w'.heap.size
 block : ∀ k, k < B -> ¬ S k -> w'.heap[k]? = w.heap[k]?
theorem KeepS.trans {B : Nat} {S : Nat -> Prop} {a b c : World} (h : KeepS B S a b) (k : KeepS B S b c) : KeepS B S a c :=
 ⟨k.os.trans h.os, k.tape.trans h.tape, k.output.trans h.output, Nat.le_trans h.size k.size, fun i hi hs => (k.block i hi hs).trans (h.block i hi hs)⟩
theorem KeepS.putObj {B : Nat} {S : Nat -> Prop} (w : World) {l : Nat} (o : Obj) (hl : B <= l) : KeepS B S w (w.putObj l o) :=
 ⟨rfl, rfl, rfl, by simp, fun k hk _ => World.putObj_heap_other (by omega)⟩
theorem KeepS.of_below {B : Nat} {S : Nat -> Prop} {w w' : World} (h : Below B w w') : KeepS B S w w' := ⟨h.os, h.tape, h.output, h.size, fun k hk _ => h.block k hk⟩
def handPost {α : Type} (B : Nat) (S : Nat -> Prop) (I : List α -> World -> Prop) (xs : List α) (W : World) : Exit -> Act -> World -> Prop
 | .normal, _, W' => KeepsOthers W W' /\ KeepS B S W W' /\ I xs W'
 | _, _, _ => False
theorem range_hand {α : Type} {P : Program} {n : Nat} {g : Operand} {ps : Array Tmp} {assign body : Code} {Q : Exit -> Act -> World -> Prop} {a : Act} {w : World}
 {gf : Nat} {lb : Array Value} (hg : a.eval g = .func (.func gf) #[] lb) (eg : ∀ args w, (callFunc gf args).run P w = .ok (.enter gf args) w)
 {encs : α -> Array Value} (hps : ∀ x, (encs x).size = ps.size) (S : Nat -> Prop) (N : Nat) (Sx : List α -> Prop)
 (E : List α -> α -> World -> Prop) (I : List α -> World -> Prop)
 (hE : ∀ s x W l o o', E s x W -> w.heap.size <= l -> W.heap[l]? = some o -> o.isCells = false -> E s x (W.putObj l o'))
 (hIl : ∀ s W l o o', I s W -> w.heap.size <= l -> W.heap[l]? = some o -> o.isCells = false -> I s (W.putObj l o'))
 (hIb : ∀ s A B, I s A -> Below A.heap.size A B -> I s B) (h0 : I [] w) (a₁ : α -> Act)
 (hseq : ∀ (l : Nat) (J : List α -> World -> Prop) (W : World), Below w.heap.size w W -> (∀ s A B, J s A -> Below A.heap.size A B -> J s B) ->
  (∀ pre x W1, J pre W1 -> E pre x W1 -> pre.length < N -> YieldAt Fence.wide (n - 1 - 1) P l (encs x) W1 fun e W' => e = .returned (.bool true) /\ J (pre ++ [x]) W' /\ KeepS w.heap.size S W1 W') ->
  J [] W -> CallsIn Fence.wide (n - 1) P gf (#[.func (.yield l) #[] #[]] ++ lb) W fun e W' => (∃ v, e = .returned v) /\ ∃ xs, Sx xs /\ J xs W')
 (hassign : ∀ (l : Nat) (x : α) (W : World) (K : Act -> World -> Prop), K (a₁ x) W ->
  assign.wpIn (Fence.wide.inRound l) (n - 1 - 1) P (Exit.then K (fun _ _ _ => False)) { tmps := (ps.zip (encs x)).foldl (fun t (p, v) => t.setIfInBounds p v) a.tmps, defers := [] } W)
 (hbody : ∀ (l : Nat) (pre : List α) (x : α) (W : World), I pre W -> E pre x W -> pre.length < N -> body.wpIn (Fence.wide.inRound l) (n - 1 - 1) P (handPost w.heap.size S I (pre ++ [x]) W) (a₁ x) W)
 (hdone : ∀ (D : Nat) (xs : List α) (W : World), w.heap.size <= D -> Sx xs -> I xs W -> W.heap[D]? = some (.deferred (some [])) -> Q .normal { a with defers := { target := .collected D, args := #[] } :: a.defers } W) :
 (Code.rangeFunc g ps assign body).wpIn Fence.wide n P Q a w := by
 refine wpIn_rangeFunc ?_;intro fn hfn;obtain ⟨R, hR⟩ : ∃ R : LoopState -> Option Code -> Loop, R = fun st pe => { state := st, pending := pe, fn, tmps := a.tmps, params := ps, assign, body, defers := w.heap.size } := ⟨_, rfl⟩;have hz0 : (w.alloc (.deferred (some []))).heap.size = w.heap.size + 1 := by simp
 have hbA : Below w.heap.size w (w.alloc (.deferred (some []))) := (Below.refl _ _).alloc (Nat.le_refl _) _;have hbB : Below (w.heap.size + 1) (w.alloc (.deferred (some []))) ((w.alloc (.deferred (some []))).alloc (.loop (R .ready none))) := (Below.refl _ _).alloc (by simp) _;have hl0 : ((w.alloc (.deferred (some []))).alloc (.loop (R .ready none))).heap[w.heap.size + 1]? = some (.loop (R .ready none)) := by
  have := World.alloc_heap_new (w.alloc (.deferred (some []))) (.loop (R .ready none)); rwa [World.size_alloc] at this
 have hd0 : ((w.alloc (.deferred (some []))).alloc (.loop (R .ready none))).heap[w.heap.size]? = some (.deferred (some [])) :=
  (hbB.block _ (by omega)).trans (World.alloc_heap_new w _)
 have hen := run_enterLoop_outer (P := P) (w := w) fn a.tmps ps assign body;have hI1 : I [] ((w.alloc (.deferred (some []))).alloc (.loop (R .ready none))) := hIb _ _ _ (hIb _ _ _ h0 hbA) (by rw [hz0]; exact hbB);have hbw : Below w.heap.size w ((w.alloc (.deferred (some []))).alloc (.loop (R .ready none))) := hbA.trans (hbB.mono (by omega));rw [show ({ state := .ready, pending := none, fn, tmps := a.tmps, params := ps, assign, body, defers := w.heap.size } : Loop) = R .ready none by rw [hR]] at hen;generalize (w.alloc (.deferred (some []))).alloc (.loop (R .ready none)) = W0 at *;refine ⟨w.heap.size + 1, [{ target := .collected w.heap.size, args := #[] }], W0, { target := .fn (.func gf) lb, args := #[.func (.yield (w.heap.size + 1)) #[] #[]] }, W0, gf,
  #[.func (.yield (w.heap.size + 1)) #[] #[]] ++ lb, W0, hen, ?_, fun _ _ => trivial, by simp [invoke, go_sem, eg], fun h => absurd h (by decide), ?_⟩
 · simp only [resolve, hg];simp [go_sem]
 have hlp : ∀ st pe, (Obj.loop (R st pe)).isCells = false := fun _ _ => rfl;refine (hseq (w.heap.size + 1) (fun pre W => I pre W /\ W.heap[w.heap.size + 1]? = some (.loop (R .ready none)) /\ W.heap[w.heap.size]? = some (.deferred (some []))) W0 hbw ?_ ?_ ⟨hI1, hl0, hd0⟩).mono ?_
 · rintro s A B ⟨h1, h2, h3⟩ hb;exact ⟨hIb _ _ _ h1 hb, (hb.block _ (Array.getElem?_eq_some_iff.1 h2).1).trans h2, (hb.block _ (Array.getElem?_eq_some_iff.1 h3).1).trans h3⟩
 · rintro pre x W ⟨hi, hl, hd⟩ hx hlen;have hlt : w.heap.size + 1 < W.heap.size := (Array.getElem?_eq_some_iff.1 hl).1;have hy := run_yield (P := P) (args := encs x) hl (by rw [hR]; exact hps x);have hbg := run_beginRound (P := P) hl (by rw [hR]);have hle : w.heap.size <= w.heap.size + 1 := by omega
   rw [hR] at hy hbg;refine ⟨fn, _, assign, body, hy, roundIn_of_wpIn hfn (hassign _ x W _ ⟨_, hbg, ?_⟩)⟩;have hl2 : (W.putObj (w.heap.size + 1) (.loop (R .busy none))).heap[w.heap.size + 1]? = some (.loop (R .busy none)) := World.putObj_heap_same hlt;have hd2 : (W.putObj (w.heap.size + 1) (.loop (R .busy none))).heap[w.heap.size]? = some (.deferred (some [])) := (World.putObj_heap_other (by omega)).trans hd;have hk2 : KeepS w.heap.size S W (W.putObj (w.heap.size + 1) (.loop (R .busy none))) := KeepS.putObj W _ hle;have hi2 := hIl pre W (w.heap.size + 1) _ (.loop (R .busy none)) hi hle hl rfl;have hx2 := hE pre x W (w.heap.size + 1) _ (.loop (R .busy none)) hx hle hl rfl;rw [show ({ state := .busy, pending := none, fn, tmps := a.tmps, params := ps, assign, body, defers := w.heap.size } : Loop) = R .busy none by rw [hR]];generalize W.putObj (w.heap.size + 1) (.loop (R .busy none)) = W2 at *;refine wpIn_mono (hbody (w.heap.size + 1) pre x W2 hi2 hx2 hlen) ?_;intro e a3 W3 hp;cases e with
   | normal =>
    obtain ⟨hk3, hkp3, hi3⟩ := hp;have hl3 := hk3.same _ _ hl2 rfl;have hd3 := hk3.same _ _ hd2 rfl;have hend := run_endRound (P := P) none hl3;rw [hR] at hend;refine ⟨_, _, hend, rfl, ⟨hIl _ _ _ _ _ hi3 hle hl3 rfl, ?_, ?_⟩, ?_⟩
    · rw [World.putObj_heap_same (Array.getElem?_eq_some_iff.1 hl3).1, hR]; rfl
    · exact (World.putObj_heap_other (by omega)).trans hd3
    · exact hk2.trans (hkp3.trans (KeepS.putObj _ _ hle))
   | ret => exact hp.elim
   | exit id => exact hp.elim
   | goto t => exact hp.elim
   | panic ch => exact hp.elim
   | outgrown => exact hp.elim
 · rintro e W2 ⟨⟨v, rfl⟩, xs, hS, hi, hl, hd⟩;have hle : w.heap.size <= w.heap.size + 1 := by omega
   have hend := run_endLoop (P := P) hl (by rw [hR]; simp);rw [hR] at hend;exact ⟨none, _, hend, hdone _ xs _ (Nat.le_refl _) hS (hIl _ _ _ _ _ hi hle hl rfl) ((World.putObj_heap_other (by omega)).trans hd)⟩
attribute [local go_sem] Oper.semAt_some
abbrev NR := Nat × Hd
def NR.enc (x : NR) : Array Value := #[.int .i64 (x.1 : Int), .slice (some ⟨x.2.blk, 0, none⟩) x.2.xs.length x.2.cap]
def rowOf (xs : List Int) (c k : Nat) : List Int := (xs.drop (k * c)).take c
theorem rowOf_length {xs : List Int} {r c k : Nat} (hl : xs.length = r * c) (hk : k < r) : (rowOf xs c k).length = c := by
 have h1 : (k + 1) * c <= r * c := Nat.mul_le_mul_right _ (by omega);have h2 : (k + 1) * c = k * c + c := Nat.succ_mul k c;simp [rowOf, hl]; omega
def HandE (B : Nat) (pre : List NR) (x : NR) (W : World) : Prop := RowN W x.2.blk x.2.xs /\ B <= x.2.blk /\ ∀ y ∈ pre, y.2.blk ≠ x.2.blk
def HandS (r c : Nat) (xs : List Int) (zs : List NR) : Prop := zs.length = r /\ ∀ k (h : k < zs.length), zs[k] = (k, ⟨(zs[k]).2.blk, c, rowOf xs c k⟩)
theorem LsAt.piece {w : World} {b : Nat} {xs : List Int} (h : RowN w b xs) (L : Nat) (hL : ∀ x ∈ xs, wlen x.natAbs <= L) (k c : Nat) : LsAt w L (some ⟨b, k * c * 2, none⟩) (rowOf xs c k) := by
 intro hp;refine ⟨b, k * c * 2, rfl, h.lt, fun i hi => ?_⟩;have h0 : i < c := by simp [rowOf] at hi; omega
 have h1 : k * c + i < xs.length := by simp [rowOf] at hi; omega
 obtain ⟨p, h2, h3, h4⟩ := h.get h1;have e : (k * c + i) * 2 = k * c * 2 + i * 2 := by omega
 rw [e] at h2 h3;refine ⟨p, h2, h3, ?_⟩;have e2 : (rowOf xs c k)[i] = xs[k * c + i] := by simp [rowOf]
 rw [e2];exact h4.int (hL _ (List.getElem_mem _))
set_option maxRecDepth 100000 in
set_option maxHeartbeats 4000000 in
theorem Lines1_hand (n g b r c : Nat) (xs : List Int) (w : World) (S : Nat -> Prop) (hS : Wordless S w) (hg : RowAt w g 24 [.int .i64 (r : Int), .int .i64 (c : Int), .slice (some ⟨b, 0, none⟩) xs.length xs.length]) (hgS : ¬ S g) (hb : RowN w b xs) (hbS : ¬ S b) (hl : xs.length = r * c) (hr : r <= 100000) (hc : c <= 100000)
 (hL : ∀ x ∈ xs, wlen x.natAbs <= 17592186044415)
 (l : Nat) (J : List NR -> World -> Prop) (W : World) (hW : Below w.heap.size w W) (hJ : ∀ s A B, J s A -> Below A.heap.size A B -> J s B)
 (hY : ∀ pre x W1, J pre W1 -> HandE w.heap.size pre x W1 -> pre.length < r -> YieldAt Fence.wide (n - 1) Tryz.prog l (NR.enc x) W1 fun e W' => e = .returned (.bool true) /\ J (pre ++ [x]) W' /\ KeepS w.heap.size S W1 W')
 (h0 : J [] W) (hn : 1 <= n) :
 CallsIn Fence.wide n Tryz.prog 54 (#[.func (.yield l) #[] #[]] ++ #[.pointer (some ⟨g, 0, none⟩)]) W fun e W' => (∃ v, e = .returned v) /\ ∃ zs, HandS r c xs zs /\ J zs W' := by
 have HG := Lib.hid hg; clear hg;have HB := Lib.hid hb; clear hb;have HL := Lib.hid hl; clear hl;have HW := Lib.hid hW; clear hW;have HY := Lib.hid hY; clear hY;have HWL := Lib.hid hS; clear hS;have g0 := (HG.out.below HW.out HG.out.lt).cell 0;refine callsIn_of_wp Tryz.func54 rfl trivial ?_ rfl;simp only [Tryz.ntmps54, List.size_toArray, List.length_cons, List.length_nil, Nat.reduceAdd, Nat.reduceSub, Array.replicate_succ, Array.replicate_zero, List.push_toArray, List.append_toArray, List.nil_append, List.cons_append];simp only [List.getElem?_cons_zero] at g0
 gi_wp2
 clear g0
 gi_loopw [6] (fun i wr => ∃ (k : Nat) (zs : List NR), k <= r /\ i = .int .i64 (k : Int) /\ Hid (zs.length = k /\ (∀ j (h : j < zs.length), zs[j] = (j, ⟨(zs[j]).2.blk, c, rowOf xs c j⟩)) /\ (∀ y ∈ zs, y.2.blk < wr.heap.size) /\ J zs wr /\ Chg S w wr))
  (fun i _ => r - (intOf i).toNat)
 case atStart => exact ⟨0, [], Nat.zero_le _, rfl, Lib.hid ⟨rfl, fun j h => absurd h (by simp), fun y h => absurd h (by simp), h0, Chg.of_below HW.out⟩⟩
 case round =>
  obtain ⟨k, zs, hk, rfl, HI⟩ := hrel;by_cases hlt : k < r
  · have hlt' : (k : Int) < (r : Int) := by omega
    have g0 := (HI.out.2.2.2.2.row HG.out hgS).cell 0;have g1 := (HI.out.2.2.2.2.row HG.out hgS).cell 1;have g2 := (HI.out.2.2.2.2.row HG.out hgS).cell 2;simp only [List.getElem?_cons_zero, List.getElem?_cons_succ] at g0 g1 g2;obtain ⟨q, hq⟩ : ∃ q, k * c = q := ⟨_, rfl⟩;have hq2 : (k + 1) * c = q + c := by rw [Nat.succ_mul, hq]
    have hq3 : q + c <= xs.length := by rw [<- hq2, HL.out]; exact Nat.mul_le_mul_right _ hlt
    have hxl : xs.length <= 10000000000 := by rw [HL.out]; exact Nat.mul_le_mul hr hc
    have hw1 : wrap64 ((k : Int) * (c : Int)) = (q : Int) := by
     rw [<- Int.natCast_mul, hq]; unfold wrap64; omega
    have hw2 : wrap64 (((k : Int) + 1) * (c : Int)) = (q : Int) + (c : Int) := by
     have : ((k : Int) + 1) * (c : Int) = ((q + c : Nat) : Int) := by rw [<- hq2]; push_cast; rfl
     rw [this]; push_cast; unfold wrap64; omega
    have hpc : LsAt wr 17592186044415 (some ⟨b, q * 2, none⟩) (rowOf xs c k) := by
     rw [<- hq]; exact LsAt.piece (HI.out.2.2.2.2.rowN HWL.out HB.out hbS) _ hL k c
    have hrl : (rowOf xs c k).length = c := rowOf_length HL.out hlt;have HP := Lib.hid hpc; clear hpc;have HQ := Lib.hid hq; clear hq;have HQ2 := Lib.hid hq2; clear hq2;have hle1 : (q : Int) + (c : Int) <= (xs.length : Int) := by omega
    have hle2 : (q : Int) <= (q : Int) + (c : Int) := by omega
    have hcap : xs.length - q ≠ 0 ∨ c = 0 := by omega
    gi_wp2_with fail
    · refine ⟨trivial, ?_⟩;have hE := EachLeast_c (some ⟨b, 0, none⟩) 0 (rowOf xs c k) wr (fun h => by rw [hrl] at h; omega) (by rw [hrl]; omega);rw [hrl] at hE;refine (callsIn_wide.2 hE).mono ?_;rintro e w3 ⟨⟨bn, rfl, hbn, hrow⟩, hb3⟩;have hs3 := hb3.size;have hJ3 : J zs w3 := hJ _ _ _ HI.out.2.2.2.1 hb3;have hlt3 : bn < w3.heap.size := hrow.lt;obtain ⟨fn, tmps, assign, body, hy, hR⟩ := HY.out zs (k, ⟨bn, c, rowOf xs c k⟩) w3 hJ3 ⟨hrow, by have := HI.out.2.2.2.2.size; show w.heap.size <= bn; omega, fun y hy => by have := HI.out.2.2.1 y hy; show y.2.blk ≠ bn; omega⟩ (by rw [HI.out.1]; exact hlt);simp only [NR.enc] at hy;rw [hrl] at hy;have HI3 : Hid (Chg S w w3) := Lib.hid (HI.out.2.2.2.2.below hb3);have HZ := Lib.hid (And.intro HI.out.1 (And.intro HI.out.2.1 HI.out.2.2.1));have HB3 := Lib.hid hb3;clear hb3 HI HP hrow hJ3 g0 g1 g2
      gi_wp2
      refine hR.mono ?_;rintro e W' ⟨rfl, hJ', hk'⟩;have HJ' := Lib.hid hJ';have HK' := Lib.hid hk';clear hJ' hk' hy hR
      gi_wp2
      go_roundw
      case rel =>
       refine ⟨k + 1, zs ++ [(k, ⟨bn, c, rowOf xs c k⟩)], by omega, by go_num, Lib.hid ⟨by simp [HZ.out.1], fun j hj => ?_, fun y hy => ?_, HJ'.out, ?_⟩⟩
       · by_cases hjk : j < zs.length
         · rw [List.getElem_append_left hjk];exact HZ.out.2.1 j hjk
         · have hjl : j = zs.length := by simp at hj; omega
           subst hjl;simp [HZ.out.1]
       · have hsz := HK'.out.size;rcases List.mem_append.1 hy with hy | hy
         · have := HZ.out.2.2 y hy; have := HB3.out.size; omega
         · simp only [List.mem_singleton] at hy; subst hy; show bn < _; omega
       · exact ⟨HK'.out.os.trans HI3.out.os, HK'.out.tape.trans HI3.out.tape, HK'.out.output.trans HI3.out.output, Nat.le_trans HI3.out.size HK'.out.size, fun i hi hs => (HK'.out.block i hi hs).trans (HI3.out.block i hi hs)⟩
      case measure => simp [intOf]; omega
    · refine ⟨trivial, ?_⟩;have hE := EachLeast_c (some ⟨b, q * 2, none⟩) (xs.length - q) (rowOf xs c k) wr HP.out (by rw [hrl]; omega);rw [hrl] at hE;refine (callsIn_wide.2 hE).mono ?_;rintro e w3 ⟨⟨bn, rfl, hbn, hrow⟩, hb3⟩;have hs3 := hb3.size;have hJ3 : J zs w3 := hJ _ _ _ HI.out.2.2.2.1 hb3;have hlt3 : bn < w3.heap.size := hrow.lt;obtain ⟨fn, tmps, assign, body, hy, hR⟩ := HY.out zs (k, ⟨bn, c, rowOf xs c k⟩) w3 hJ3 ⟨hrow, by have := HI.out.2.2.2.2.size; show w.heap.size <= bn; omega, fun y hy => by have := HI.out.2.2.1 y hy; show y.2.blk ≠ bn; omega⟩ (by rw [HI.out.1]; exact hlt);simp only [NR.enc] at hy;rw [hrl] at hy;have HI3 : Hid (Chg S w w3) := Lib.hid (HI.out.2.2.2.2.below hb3);have HZ := Lib.hid (And.intro HI.out.1 (And.intro HI.out.2.1 HI.out.2.2.1));have HB3 := Lib.hid hb3;clear hb3 HI HP hrow hJ3 g0 g1 g2
      gi_wp2
      refine hR.mono ?_;rintro e W' ⟨rfl, hJ', hk'⟩;have HJ' := Lib.hid hJ';have HK' := Lib.hid hk';clear hJ' hk' hy hR
      gi_wp2
      go_roundw
      case rel =>
       refine ⟨k + 1, zs ++ [(k, ⟨bn, c, rowOf xs c k⟩)], by omega, by go_num, Lib.hid ⟨by simp [HZ.out.1], fun j hj => ?_, fun y hy => ?_, HJ'.out, ?_⟩⟩
       · by_cases hjk : j < zs.length
         · rw [List.getElem_append_left hjk];exact HZ.out.2.1 j hjk
         · have hjl : j = zs.length := by simp at hj; omega
           subst hjl;simp [HZ.out.1]
       · have hsz := HK'.out.size;rcases List.mem_append.1 hy with hy | hy
         · have := HZ.out.2.2 y hy; have := HB3.out.size; omega
         · simp only [List.mem_singleton] at hy; subst hy; show bn < _; omega
       · exact ⟨HK'.out.os.trans HI3.out.os, HK'.out.tape.trans HI3.out.tape, HK'.out.output.trans HI3.out.output, Nat.le_trans HI3.out.size HK'.out.size, fun i hi hs => (HK'.out.block i hi hs).trans (HI3.out.block i hi hs)⟩
      case measure => simp [intOf]; omega
  · obtain rfl : k = r := by omega
    gi_wp2
    go_end0
    exact ⟨⟨_, rfl⟩, zs, ⟨HI.out.1, HI.out.2.1⟩, HI.out.2.2.2.1⟩
end Go.Proofs.YtdgfhcaokigieaaGreat
namespace Go.Proofs.YtdgfhcaokigieaaGreat
def matE (xs : List Int) (r c i j : Nat) : Int := if i < r /\ j < c then xs.getD (i * c + j) 0 else 0
theorem idx_lt {r c i j : Nat} (hi : i < r) (hj : j < c) : i * c + j < r * c := by
 have h1 : (i + 1) * c <= r * c := Nat.mul_le_mul_right _ hi;have h2 : (i + 1) * c = i * c + c := Nat.succ_mul i c;omega
theorem idx_of {r c n : Nat} (h : n < r * c) : ∃ i j, i < r /\ j < c /\ n = i * c + j := by
 have hc : 0 < c := by
  rcases Nat.eq_zero_or_pos c with h0 | h0
  · subst h0; simp at h
  · exact h0
 exact ⟨n / c, n % c, (Nat.div_lt_iff_lt_mul hc).2 h, Nat.mod_lt _ hc, by have := Nat.div_add_mod n c; rw [Nat.mul_comm] at this; omega⟩
theorem matE_eq {xs : List Int} {r c i j : Nat} (hi : i < r) (hj : j < c) : matE xs r c i j = xs.getD (i * c + j) 0 := by
 unfold matE; rw [if_pos ⟨hi, hj⟩]
theorem matE_row {xs : List Int} {r c i : Nat} (hi : r <= i) (j : Nat) : matE xs r c i j = 0 := by
 unfold matE; rw [if_neg (by omega)]
theorem matE_col {xs : List Int} {r c j : Nat} (i : Nat) (hj : c <= j) : matE xs r c i j = 0 := by
 unfold matE; rw [if_neg (by omega)]
theorem matE_ext {xs ys : List Int} {r c : Nat} (hx : xs.length = r * c) (hy : ys.length = r * c) (h : ∀ i j, i < r -> j < c -> matE xs r c i j = matE ys r c i j) : xs = ys := by
 refine List.ext_getElem (by omega) fun n h1 h2 => ?_;obtain ⟨i, j, hi, hj, e⟩ := idx_of (by omega : n < r * c);have := h i j hi hj;rw [matE_eq hi hj, matE_eq hi hj, <- e, gd_lt _ _ h1, gd_lt _ _ h2] at this;exact this
theorem matE_bound {xs : List Int} {r c B : Nat} (hB : 0 < B) (h : ∀ x ∈ xs, x.natAbs < B) (i j : Nat) : (matE xs r c i j).natAbs < B := by
 unfold matE;split
 · by_cases hl : i * c + j < xs.length
   · rw [gd_lt _ _ hl]; exact h _ (List.getElem_mem _)
   · rw [gd_ge _ _ (by omega)]; simpa using hB
 · simpa using hB
theorem bound_matE {xs : List Int} {r c B : Nat} (hx : xs.length = r * c) (h : ∀ i j, i < r -> j < c -> (matE xs r c i j).natAbs < B) : ∀ x ∈ xs, x.natAbs < B := by
 intro x hm;obtain ⟨n, hn, rfl⟩ := List.getElem_of_mem hm;obtain ⟨i, j, hi, hj, e⟩ := idx_of (by omega : n < r * c);have := h i j hi hj;rw [matE_eq hi hj, <- e, gd_lt _ _ hn] at this;exact this
theorem getD_rowOf (xs : List Int) (c k j : Nat) (hj : j < c) : (rowOf xs c k).getD j 0 = xs.getD (k * c + j) 0 := by
 unfold rowOf;simp [hj]
theorem getD_flatten : ∀ (xss : List (List Int)) (c : Nat), (∀ x ∈ xss, x.length = c) -> ∀ i j, (hi : i < xss.length) -> j < c -> xss.flatten.getD (i * c + j) 0 = (xss[i]).getD j 0
 | [], c, h, i, j, hi, hj => by simp at hi
 | x :: xss, c, h, 0, j, hi, hj => by
  have hx := h x (List.mem_cons_self ..);rw [List.flatten_cons, Nat.zero_mul, Nat.zero_add, List.getElem_cons_zero];rw [gd_lt _ _ (by rw [List.length_append]; omega), gd_lt _ _ (by omega), List.getElem_append_left]
 | x :: xss, c, h, i + 1, j, hi, hj => by
  have hx := h x (List.mem_cons_self ..);rw [List.flatten_cons, List.getElem_cons_succ, <- getD_flatten xss c (fun y hy => h y (List.mem_cons_of_mem _ hy)) i j (by simpa using hi) hj];have e : (i + 1) * c + j = x.length + (i * c + j) := by rw [Nat.succ_mul, hx]; omega
  rw [e, List.getD_eq_getElem?_getD, List.getElem?_append_right (by omega), List.getD_eq_getElem?_getD];congr 2; omega
structure IsHnf (r c : Nat) (xs hs : List Int) (k : Nat) (l : Nat -> Nat) : Prop where
 len : hs.length = r * c
 kr : k <= r
 herm : Herm k c (matE hs r c) l
 zero : ∀ i, k <= i -> ∀ b, matE hs r c i b = 0
 sp : SpEq r (matE xs r c) k (matE hs r c)
theorem IsHnf.unique {r c : Nat} {xs hs hs' : List Int} {k k' : Nat} {l l' : Nat -> Nat} (h : IsHnf r c xs hs k l) (h' : IsHnf r c xs hs' k' l') : hs = hs' /\ k = k' /\ ∀ i, i < k -> l i = l' i := by
 obtain ⟨h1, h2, h3⟩ := h.herm.unique h'.herm (h.sp.symm.trans h'.sp);refine ⟨matE_ext h.len h'.len fun i j hi hj => ?_, h1, h2⟩;by_cases hk : i < k
 · exact h3 i hk j
 · rw [h.zero i (by omega), h'.zero i (by omega)]
theorem ent_rows {R : List Hd} {xs : List Int} {r c : Nat} (hl : R.length = r) (hx : xs.length = r * c) (h : ∀ k (hk : k < R.length), R[k].xs = rowOf xs c k) : Sh c R /\ ∀ i j, ent R i j = matE xs r c i j := by
 have hlen : ∀ k, k < r -> (rowOf xs c k).length = c := fun k hk => by
  have := idx_lt (c := c + 1) hk (Nat.lt_succ_self c);unfold rowOf;have h1 : (k + 1) * c <= r * c := Nat.mul_le_mul_right _ hk;have h2 : (k + 1) * c = k * c + c := Nat.succ_mul k c;simp [hx]; omega
 have hsh : Sh c R := fun q hq => by
  obtain ⟨k, hk, rfl⟩ := List.getElem_of_mem hq;rw [h k hk]; exact hlen k (by omega)
 refine ⟨hsh, fun i j => ?_⟩;by_cases hi : i < r
 · by_cases hj : j < c
   · rw [ent_get (by omega), h i (by omega), getD_rowOf _ _ _ _ hj, matE_eq hi hj]
   · rw [hsh.wide i (by omega), matE_col _ (by omega)]
 · rw [ent_out (by omega), matE_row (by omega)]
theorem matE_rows {R : List Hd} {r c : Nat} (hl : R.length = r) (hs : Sh c R) : (R.map Hd.xs).flatten.length = r * c /\ ∀ i j, matE (R.map Hd.xs).flatten r c i j = ent R i j := by
 have hc : ∀ x ∈ R.map Hd.xs, x.length = c := fun x hx => by
  obtain ⟨q, hq, rfl⟩ := List.mem_map.1 hx; exact hs q hq
 refine ⟨?_, fun i j => ?_⟩
 · have : ∀ (xss : List (List Int)), (∀ x ∈ xss, x.length = c) -> xss.flatten.length = xss.length * c := by
    intro xss;induction xss with
    | nil => intro _; simp
    | cons x xs ih =>
     intro h;rw [List.flatten_cons, List.length_append, ih (fun y hy => h y (List.mem_cons_of_mem _ hy)), h x (List.mem_cons_self ..), List.length_cons, Nat.succ_mul]; omega
   rw [this _ hc, List.length_map, hl]
 · by_cases hi : i < r
   · by_cases hj : j < c
     · rw [matE_eq hi hj, getD_flatten _ c hc i j (by simp; omega) hj, List.getElem_map, ent_get (by omega)]
     · rw [hs.wide i (by omega), matE_col _ (by omega)]
   · rw [ent_out (by omega), matE_row (by omega)]
theorem SpEq.left {n m : Nat} {E E' F : Nat -> Nat -> Int} (h : SpEq n E m F) (e : ∀ i j, E' i j = E i j) : SpEq n E' m F :=
 (SpEq.of_eq (fun k _ j => e k j)).trans h
theorem SpEq.right {n m : Nat} {E F F' : Nat -> Nat -> Int} (h : SpEq n E m F) (e : ∀ i j, F' i j = F i j) : SpEq n E m F' :=
 h.trans (SpEq.of_eq (fun k _ j => (e k j).symm))
theorem hnf_of {R R' : List Hd} {xs : List Int} {r c D k : Nat} (hl : R.length = r) (he : ∀ i j, ent R i j = matE xs r c i j) (h : RedOk c D R k R') : ∃ l, IsHnf r c xs (R'.map Hd.xs).flatten k l /\ ∀ x ∈ (R'.map Hd.xs).flatten, x.natAbs < W ^ D := by
 obtain ⟨l, hH⟩ := h.herm;have hm := matE_rows (h.len.trans hl) h.sh;refine ⟨l, ⟨hm.1, hl ▸ h.kl, hH.congr (fun a _ b => hm.2 a b), fun i hi b => (hm.2 i b).trans (h.zero i hi b), ?_⟩, bound_matE hm.1 (fun i j _ _ => by rw [hm.2]; exact h.bd i j)⟩;have := h.sp;rw [hl] at this;exact (this.left (fun i j => (he i j).symm)).right hm.2
def fst0 (l : List Int) : Nat := (l.takeWhile fun x => decide (x = 0)).length
theorem fst0_le (l : List Int) : fst0 l <= l.length := (List.takeWhile_sublist _).length_le
theorem fst0_zero : ∀ {l : List Int} {j : Nat}, j < fst0 l -> gi l j = 0
 | [], j, h => by simp [fst0] at h
 | x :: l, j, h => by
  by_cases hx : x = 0
  · cases j with
    | zero => exact hx
    | succ j =>
     have e : fst0 (x :: l) = fst0 l + 1 := by simp [fst0, List.takeWhile_cons, hx]
     have := fst0_zero (l := l) (j := j) (by omega);simpa [gi] using this
  · simp [fst0, List.takeWhile_cons, hx] at h
theorem fst0_ne : ∀ {l : List Int}, fst0 l < l.length -> gi l (fst0 l) ≠ 0
 | [], h => by simp [fst0] at h
 | x :: l, h => by
  by_cases hx : x = 0
  · have e : fst0 (x :: l) = fst0 l + 1 := by simp [fst0, List.takeWhile_cons, hx]
    rw [e];rw [e] at h;have := fst0_ne (l := l) (by simpa using h);simpa [gi] using this
  · have e : fst0 (x :: l) = 0 := by simp [fst0, List.takeWhile_cons, hx]
    rw [e]; exact hx
theorem fst0_all {l : List Int} (h : fst0 l = l.length) (j : Nat) : gi l j = 0 := by
 by_cases hj : j < l.length
 · exact fst0_zero (by omega)
 · exact gi_out (by omega)
structure StI (n c i : Nat) (A : Mx) (R : List (List Int)) (p : List Nat) : Prop where
 rs : ∃ a : Mx, RsI i A R.length (Rts R) a (pts p)
 pl : p.length = R.length
 cl : ∀ t, t < R.length -> (R.getD t []).length = c
 kl : R.length <= i
theorem StI.start (n c : Nat) (A : Mx) : StI n c 0 A [] [] := ⟨⟨fun _ _ => 0, RsI.start A _ _ _⟩, rfl, fun t h => by simp at h, Nat.le_refl _⟩
section
variable {n c i : Nat} {A : Mx} {R : List (List Int)} {p : List Nat} {l : List Int}
theorem getD_app {α : Type} (R : List α) (x d : α) (t : Nat) : (R ++ [x]).getD t d = if t < R.length then R.getD t d else if t = R.length then x else d := by
 by_cases h : t < R.length
 · rw [if_pos h]; simp [List.getElem?_append_left h, h]
 · rw [if_neg h];by_cases e : t = R.length
   · subst e; simp
   · rw [if_neg e];have : (R ++ [x]).length <= t := by simp; omega
     simp [List.getElem?_eq_none this]
theorem StI.skip (h : StI n c i A R p) (hl : l.length = c) (hA : ∀ j, gi l j = A i j) (hz : fst0 (r13 R p l R.length).l = (r13 R p l R.length).l.length) : StI n c (i + 1) A R p := by
 obtain ⟨a, hr⟩ := h.rs;have hR : ∀ t, t < R.length -> (R.getD t []).length = l.length := fun t ht => by rw [h.cl t ht, hl]
 obtain ⟨q, hq⟩ := r13_rel (p := p) (l := l) hR R.length (Nat.le_refl _);have hne := r13_ne (l := l) hr.made.toStair R.length (Nat.le_refl _);exact ⟨⟨a, hr.skip (c := q) (up := (r13 R p l R.length).up) (dn := (r13 R p l R.length).dn) hne.1 fun j => by rw [<- hA, <- hq, fst0_all hz]⟩, h.pl, h.cl, by have := h.kl; omega⟩
theorem StI.put (h : StI n c i A R p) (hl : l.length = c) (hA : ∀ j, gi l j = A i j) (hz : fst0 (r13 R p l R.length).l < c) : StI n c (i + 1) A (R ++ [(r13 R p l R.length).l]) (p ++ [fst0 (r13 R p l R.length).l]) := by
 obtain ⟨a, hr⟩ := h.rs;have hR : ∀ t, t < R.length -> (R.getD t []).length = l.length := fun t ht => by rw [h.cl t ht, hl]
 obtain ⟨q, hq⟩ := r13_rel (p := p) (l := l) hR R.length (Nat.le_refl _);have hne := r13_ne (l := l) hr.made.toStair R.length (Nat.le_refl _);have hz0 := r13_zero (p := p) (l := l) hR hr.made.toStair R.length (Nat.le_refl _);have hlen := r13_length R p l R.length;obtain ⟨o, ho⟩ : ∃ o, r13 R p l R.length = o := ⟨_, rfl⟩;rw [ho] at hq hne hz0 hlen hz ⊢;have e1 : (R ++ [o.l]).length = R.length + 1 := by simp
 refine ⟨⟨fun t => if t < R.length then a t else A i, ?_⟩, by simp [h.pl], fun t ht => ?_, by rw [e1]; have := h.kl; omega⟩
 · rw [e1];refine hr.put (q := fst0 o.l) (l := gi o.l) (c := q) hne.2 hne.1 (fun j => by rw [hq, hA]) hz0 (fst0_ne (by rw [hlen, hl]; exact hz)) (fun j hj => fst0_zero hj) (R' := fun t => if t < R.length then Rts R t else gi o.l) (p' := fun t => if t < R.length then pts p t else fst0 o.l) (fun t => rfl) (fun t => rfl) (fun t => rfl) |> fun hf => ?_;have eR : ∀ t < R.length + 1, Rts (R ++ [o.l]) t = if t < R.length then Rts R t else gi o.l := fun t ht => by
    funext j;unfold Rts;rw [getD_app];by_cases h1 : t < R.length
    · rw [if_pos h1, if_pos h1]
    · rw [if_neg h1, if_neg h1, if_pos (by omega)]
   have ep : ∀ t < R.length + 1, pts (p ++ [fst0 o.l]) t = if t < R.length then pts p t else fst0 o.l := fun t ht => by
    unfold pts;rw [getD_app, h.pl];by_cases h1 : t < R.length
    · rw [if_pos h1, if_pos h1]
    · rw [if_neg h1, if_neg h1, if_pos (by omega)]
   exact hf.congr eR ep
 · rw [e1] at ht;rw [getD_app];by_cases h1 : t < R.length
   · rw [if_pos h1]; exact h.cl t h1
   · rw [if_neg h1, if_pos (by omega), hlen, hl]
theorem StI.bound {m : Nat} (h : StI n c i A R p) (hk : R.length <= 64) (hl : l.length = c) (hA : ∀ s < i, ∀ j, (A s j).natAbs <= W ^ m) (h0 : ∀ j, (gi l j).natAbs <= W ^ m) {t : Nat} (ht : t <= R.length) (j : Nat) : (gi (r13 R p l t).l j).natAbs < W ^ bw m := by
 obtain ⟨a, hr⟩ := h.rs;refine Nat.lt_of_le_of_lt (r13_bound (A := W ^ m) hr.made (fun t ht => by rw [h.cl t ht, hl]) ht (fun t ht j => ?_) h0 j) (bw_big hk);obtain ⟨s, hs, e⟩ := hr.of t ht;rw [e]; exact hA s hs j
theorem StI.stair (h : StI n c i A R p) : Stair R.length (Rts R) (pts p) := by
 obtain ⟨a, hr⟩ := h.rs;exact hr.made.toStair
theorem StI.rank {r k : Nat} {xs hs : List Int} {lc : Nat -> Nat} (h : StI r c r (matE xs r c) R p) (hH : IsHnf r c xs hs k lc) : R.length = k := by
 obtain ⟨a, hr⟩ := h.rs;exact hr.rank hH.herm.toEch ⟨hH.sp.2, hH.sp.1⟩
end
theorem prodN_mul : ∀ (n : Nat) (f g : Nat -> Nat), prodN n (fun i => f i * g i) = prodN n f * prodN n g
 | 0, _, _ => rfl
 | n + 1, f, g => by
  show prodN n (fun i => f i * g i) * (f n * g n) = prodN n f * f n * (prodN n g * g n);rw [prodN_mul n f g, Nat.mul_assoc, Nat.mul_assoc, Nat.mul_left_comm (prodN n g)]
theorem det13 {n : Nat} {A : Mx} {R : List (List Int)} {p : List Nat} {up dn : Nat -> Int} (h : StI n n n A R p) (hk : R.length = n) (hp : ∀ t < n, pts p t < n) (hrel : ∀ t < n, ∃ q : Nat -> Int, ∀ j, dn t * Rts R t j = up t * A t j + sm t fun s => q s * Rts R s j) :
 prodN n (fun t => (Rts R t (pts p t) * dn t).natAbs) = prodN n (fun t => (up t).natAbs) * (det n A).natAbs := by
 have hst := h.stair;rw [hk] at hst;obtain ⟨c, hc⟩ : ∃ c : Nat -> Nat -> Int, ∀ t, t < n -> ∀ j, dn t * Rts R t j = up t * A t j + sm t fun s => c t s * Rts R s j :=
  ⟨fun t => if ht : t < n then (hrel t ht).choose else fun _ => 0, fun t ht j => by simp only [dif_pos ht]; exact (hrel t ht).choose_spec j⟩
 have h1 := congrArg Int.natAbs (rest_det n A (Rts R) up dn c hc);rw [Int.natAbs_mul, Int.natAbs_mul, prodZ_abs, prodZ_abs, det_leads n (Rts R) (pts p) hp hst.inj hst.zero] at h1;rw [<- h1, <- prodN_mul];exact prodN_congr n fun i _ => by rw [Int.natAbs_mul, Nat.mul_comm]
theorem det_hnf {n : Nat} {xs hs : List Int} {lc : Nat -> Nat} (hH : IsHnf n n xs hs n lc) : (det n (matE xs n n)).natAbs = prodN n fun i => (matE hs n n i i).natAbs := by
 have hE := hH.herm.toEch;have hlc : ∀ i, i < n -> lc i = i := by
  have hge : ∀ i, i < n -> i <= lc i := by
   intro i;induction i with
   | zero => intro _; exact Nat.zero_le _
   | succ i ih => intro hi; have := ih (by omega); have := hE.inc i (i + 1) (by omega) hi; omega
  have hup : ∀ d i, i + d + 1 = n -> lc i <= i := by
   intro d;induction d with
   | zero => intro i hi; have := hE.lt i (by omega); omega
   | succ d ih => intro i hi; have := ih (i + 1) (by omega); have := hE.inc i (i + 1) (by omega) (by omega); omega
  intro i hi;have := hge i hi;have := hup (n - i - 1) i (by omega);omega
 rw [det_lattice n hH.sp];refine det_leads n _ (fun i => i) (fun i hi => hi) (fun i _ j _ e => e) fun i hi j hj => hE.zero i hi j (by rw [hlc i hi]; exact hj)
end Go.Proofs.YtdgfhcaokigieaaGreat
namespace Go.Proofs.YtdgfhcaokigieaaGreat
open Go.RowKit
theorem incB {a : Nat} (h : a < 9223372036854775807) : Value.int .i64 (IntKind.i64.wrap ((a : Int) + 1)) = .int .i64 ((a + 1 : Nat) : Int) := by
 rw [wrap_small] <;> first | rfl | omega
theorem sumI {a b : Nat} (h : a + b < 9223372036854775807) : Value.int .i64 (IntKind.i64.wrap ((a : Int) + b)) = .int .i64 ((a + b : Nat) : Int) := by
 rw [wrap_small] <;> first | rfl | omega
theorem mulI {a b : Nat} (h : a * b < 9223372036854775808) : Value.int .i64 (IntKind.i64.wrap ((a : Int) * b)) = .int .i64 ((a * b : Nat) : Int) := by
 rw [<- Int.natCast_mul, wrap_small] <;> first | rfl | omega
end Go.Proofs.YtdgfhcaokigieaaGreat
namespace Go.Proofs.YtdgfhcaokigieaaGreat
def HX : Nat := 65536
theorem HX_pos : 0 < HX := by unfold HX; omega
theorem HX_pow4 : HX ^ 4 = W := rfl
def hval : List Nat -> Nat
 | [] => 0
 | x :: r => x + HX * hval r
def HOk (l : List Nat) : Prop := ∀ x ∈ l, x < HX
theorem HOk.tail {x : Nat} {r : List Nat} (h : HOk (x :: r)) : HOk r := fun y hy => h y (List.mem_cons_of_mem _ hy)
theorem HOk.head {x : Nat} {r : List Nat} (h : HOk (x :: r)) : x < HX := h x (List.mem_cons_self ..)
theorem HOk.append {a b : List Nat} (ha : HOk a) (hb : HOk b) : HOk (a ++ b) := fun x hx => (List.mem_append.1 hx).elim (ha x) (hb x)
theorem HOk.take {l : List Nat} (h : HOk l) (k : Nat) : HOk (l.take k) := fun x hx => h x (List.mem_of_mem_take hx)
theorem HOk.drop {l : List Nat} (h : HOk l) (k : Nat) : HOk (l.drop k) := fun x hx => h x (List.mem_of_mem_drop hx)
theorem HOk.set {l : List Nat} (h : HOk l) (k v : Nat) (hv : v < HX) : HOk (l.set k v) := fun x hx => (List.mem_or_eq_of_mem_set hx).elim (h x) (fun e => e ▸ hv)
theorem HOk.replicate (n : Nat) : HOk (List.replicate n 0) := fun x hx => by rw [List.eq_of_mem_replicate hx]; exact HX_pos
theorem HOk.gw_ {l : List Nat} (h : HOk l) (k : Nat) : gw l k < HX := by
 unfold gw;rw [List.getD_eq_getElem?_getD];cases hk : l[k]? with
 | none => simpa using HX_pos
 | some v => exact h v (List.mem_of_getElem? hk)
theorem hval_append (a b : List Nat) : hval (a ++ b) = hval a + HX ^ a.length * hval b := by
 induction a with
 | nil => simp [hval]
 | cons x r ih => simp only [List.cons_append, hval, ih, List.length_cons, Nat.pow_succ, Nat.mul_add]; rw [Nat.mul_comm (HX ^ r.length) HX, Nat.mul_assoc]; omega
theorem hval_replicate (n : Nat) : hval (List.replicate n 0) = 0 := by
 induction n with
 | zero => simp [hval]
 | succ n ih => simp [List.replicate_succ, hval, ih]
theorem hval_lt {l : List Nat} (h : HOk l) : hval l < HX ^ l.length := by
 induction l with
 | nil => simp [hval]
 | cons x r ih =>
  have h1 := h.head;have h2 := ih h.tail;simp only [hval, List.length_cons, Nat.pow_succ];have : HX * (hval r + 1) <= HX * HX ^ r.length := Nat.mul_le_mul_left _ h2;rw [Nat.mul_comm (HX ^ r.length) HX];rw [Nat.mul_add] at this;omega
theorem hval_take_succ (l : List Nat) (k : Nat) : hval (l.take (k + 1)) = hval (l.take k) + HX ^ k * gw l k := by
 unfold gw;by_cases hk : k < l.length
 · rw [List.take_succ_eq_append_getElem hk, hval_append, List.length_take, Nat.min_eq_left (by omega)];simp [hval, hk]
 · rw [List.take_of_length_le (by omega), List.take_of_length_le (by omega)];simp [List.getElem?_eq_none (show l.length <= k by omega)]
theorem hval_zeros {l : List Nat} (h : ∀ j, gw l j = 0) : hval l = 0 := by
 induction l with
 | nil => rfl
 | cons x r ih =>
  have h0 := h 0;have := ih (fun j => by have := h (j + 1); unfold gw at *; simpa using this);unfold gw at h0;simp at h0;simp [hval, h0, this]
theorem hval_take_of_zeros {l : List Nat} {k : Nat} (h : ∀ j, k <= j -> gw l j = 0) : hval (l.take k) = hval l := by
 by_cases hk : k <= l.length
 · conv => rhs; rw [<- List.take_append_drop k l, hval_append]
   rw [hval_zeros (l := l.drop k) (fun j => by have := h (k + j) (by omega); unfold gw at *; simpa using this)]; omega
 · rw [List.take_of_length_le (by omega)]
theorem hval_take_tlen (l : List Nat) : hval (l.take (tlen l)) = hval l := hval_take_of_zeros (fun j hj => zero_of_tlen l j hj)
structure Hex (n : Nat) (ds : List Nat) : Prop where
 ok : HOk ds
 trim : tlen ds = ds.length
 val : hval ds = n
theorem tlen_take_tlen (l : List Nat) : tlen (l.take (tlen l)) = (l.take (tlen l)).length := by
 have hl := tlen_le l;rw [List.length_take, Nat.min_eq_left hl];rcases Nat.eq_zero_or_pos (tlen l) with h0 | h0
 · rw [h0]; rfl
 · have h1 := tlen_top l (by omega);have h2 : tlen l - 1 < tlen (l.take (tlen l)) := lt_tlen _ _ (by
    rw [List.getD_eq_getElem?_getD, List.getElem?_take_of_lt (by omega), <- List.getD_eq_getElem?_getD]; exact h1)
   have h3 := tlen_le (l.take (tlen l));rw [List.length_take, Nat.min_eq_left hl] at h3;omega
theorem Hex.of {l : List Nat} (h : HOk l) : Hex (hval l) (l.take (tlen l)) := ⟨h.take _, tlen_take_tlen l, hval_take_tlen l⟩
theorem Hex.top {n : Nat} {ds : List Nat} (h : Hex n ds) (hl : 0 < ds.length) : HX ^ (ds.length - 1) <= n := by
 have h1 := tlen_top ds (by have := h.trim; omega);have h2 := hval_take_succ ds (ds.length - 1);have e : ds.length - 1 + 1 = ds.length := by omega
 rw [e, List.take_length, h.val] at h2;rw [h.trim] at h1;have h3 : 1 <= gw ds (ds.length - 1) := by unfold gw; omega
 have := Nat.mul_le_mul_left (HX ^ (ds.length - 1)) h3;omega
theorem Hex.lt {n : Nat} {ds : List Nat} (h : Hex n ds) : n < HX ^ ds.length := by rw [<- h.val]; exact hval_lt h.ok
theorem Hex.shorter {n m : Nat} {xs ys : List Nat} (h : Hex n xs) (k : Hex m ys) (hl : xs.length < ys.length) : n < m := by
 have h1 := h.lt;have h2 := k.top (by omega);have h3 : HX ^ xs.length <= HX ^ (ys.length - 1) := Nat.pow_le_pow_right HX_pos (by omega);omega
theorem hval_lt_of {xs ys : List Nat} (hx : HOk xs) (hl : xs.length = ys.length) : ∀ (k : Nat), k < xs.length -> (∀ j, k < j -> gw xs j = gw ys j) -> gw xs k < gw ys k -> hval xs < hval ys := by
 intro k hk hj hlt;have up : ∀ m, k + 1 <= m -> hval (xs.take m) < hval (ys.take m) := by
  intro m hm;induction m with
  | zero => omega
  | succ m ih =>
   by_cases e : m = k
   · subst e;rw [hval_take_succ, hval_take_succ];have h1 := hval_lt (hx.take m);rw [List.length_take, Nat.min_eq_left (by omega)] at h1;have h2 : HX ^ m * (gw xs m + 1) <= HX ^ m * gw ys m := Nat.mul_le_mul_left _ hlt;rw [Nat.mul_add] at h2;omega
   · rw [hval_take_succ, hval_take_succ, hj m (by omega)];have := ih (by omega);omega
 have := up xs.length hk;rw [List.take_length, hl, List.take_length] at this;exact this
theorem hval_eq_of {xs ys : List Nat} (hl : xs.length = ys.length) (hj : ∀ j, gw xs j = gw ys j) : hval xs = hval ys := by
 have : xs = ys := List.ext_getElem hl fun j h1 h2 => by
  have := hj j;unfold gw at this;rw [List.getD_eq_getElem?_getD, List.getD_eq_getElem?_getD, List.getElem?_eq_getElem h1, List.getElem?_eq_getElem h2] at this;simpa using this
 rw [this]
def sp4 (w : Nat) : List Nat := [w % HX, w / HX % HX, w / HX / HX % HX, w / HX / HX / HX % HX]
theorem sp4_ok (w : Nat) : HOk (sp4 w) := fun x hx => by
 simp only [sp4, List.mem_cons, List.not_mem_nil, or_false] at hx;rcases hx with rfl | rfl | rfl | rfl <;> exact Nat.mod_lt _ HX_pos
theorem sp4_val {w : Nat} (h : w < W) : hval (sp4 w) = w := by
 simp only [sp4, hval, Nat.mul_zero, Nat.add_zero];unfold W at h; unfold HX; omega
theorem sp4_length (w : Nat) : (sp4 w).length = 4 := rfl
def spl (ws : List Nat) : List Nat := ws.flatMap sp4
theorem spl_cons (w : Nat) (ws : List Nat) : spl (w :: ws) = sp4 w ++ spl ws := by simp [spl]
theorem spl_ok (ws : List Nat) : HOk (spl ws) := by
 induction ws with
 | nil => intro x hx; simp [spl] at hx
 | cons w ws ih => rw [spl_cons]; exact (sp4_ok w).append ih
theorem spl_length (ws : List Nat) : (spl ws).length = 4 * ws.length := by
 induction ws with
 | nil => rfl
 | cons w ws ih => rw [spl_cons, List.length_append, ih, sp4_length, List.length_cons]; omega
theorem spl_val {ws : List Nat} (h : Ok ws) : hval (spl ws) = nval ws := by
 induction ws with
 | nil => rfl
 | cons w ws ih =>
  rw [spl_cons, hval_append, sp4_length, HX_pow4, sp4_val h.head, ih h.tail]; rfl
def ch4 (ds : List Nat) (q : Nat) : Nat := hval ((ds.drop (4 * q)).take 4)
theorem ch4_lt {ds : List Nat} (h : HOk ds) (q : Nat) : ch4 ds q < W := by
 unfold ch4;refine Nat.lt_of_lt_of_le (hval_lt ((h.drop _).take _)) ?_;rw [<- HX_pow4];exact Nat.pow_le_pow_right HX_pos (by simp; omega)
theorem nval_ch4 : ∀ (n : Nat) (ds : List Nat), ds.length <= 4 * n -> nval ((List.range n).map (ch4 ds)) = hval ds
 | 0, ds, h => by
  have : ds = [] := List.length_eq_zero_iff.1 (by omega);subst this; rfl
 | n + 1, ds, h => by
  have ih := nval_ch4 n (ds.drop 4) (by simp; omega);rw [List.range_succ_eq_map, List.map_cons, List.map_map];have e : (List.range n).map (ch4 ds ∘ Nat.succ) = (List.range n).map (ch4 (ds.drop 4)) := by
   refine List.map_congr_left (fun q _ => ?_);simp only [Function.comp, ch4, List.drop_drop];congr 3; omega
  rw [e, nval, ih];unfold ch4;simp only [Nat.mul_zero, List.drop_zero]
  conv => rhs; rw [<- List.take_append_drop 4 ds, hval_append]
  by_cases h4 : 4 <= ds.length
  · rw [List.length_take, Nat.min_eq_left h4, HX_pow4]
  · rw [List.drop_of_length_le (by omega)]; simp [hval]
theorem ch4_ok {ds : List Nat} (h : HOk ds) (n : Nat) : Ok ((List.range n).map (ch4 ds)) := fun x hx => by
 obtain ⟨q, _, rfl⟩ := List.mem_map.1 hx;exact ch4_lt h q
theorem ch4_dig {ds : List Nat} {n m : Nat} (h : Hex m ds) (h1 : ds.length <= 4 * n) (h2 : 4 * n < ds.length + 4) : (List.range n).map (ch4 ds) = dig m := by
 have hok := ch4_ok h.ok n;have hv := nval_ch4 n ds h1;rw [h.val] at hv;have hd := dig_nval hok;rw [hv] at hd;rw [hd];have hl : tlen ((List.range n).map (ch4 ds)) = n := by
  have := tlen_le ((List.range n).map (ch4 ds));rw [List.length_map, List.length_range] at this;rcases Nat.eq_zero_or_pos n with h0 | h0
  · omega
  · have : n - 1 < tlen ((List.range n).map (ch4 ds)) := lt_tlen _ _ (by
     rw [List.getD_eq_getElem?_getD];simp only [List.getElem?_map, List.getElem?_range (show n - 1 < n by omega), Option.map_some, Option.getD_some];unfold ch4;intro e;have h3 : 0 < (ds.drop (4 * (n - 1))).length := by simp; omega
     have h4 : (ds.drop (4 * (n - 1))).length <= 4 := by simp; omega
     rw [List.take_of_length_le h4] at e;have h5 := h.top (by omega);have h6 : hval ds = hval (ds.take (4 * (n - 1))) := by
      conv => lhs; rw [<- List.take_append_drop (4 * (n - 1)) ds, hval_append, e]
      omega
     have h7 := hval_lt (h.ok.take (4 * (n - 1)));rw [<- h6, h.val, List.length_take, Nat.min_eq_left (by omega)] at h7;have h8 : HX ^ (4 * (n - 1)) <= HX ^ (ds.length - 1) := Nat.pow_le_pow_right HX_pos (by omega);omega)
    omega
 rw [List.take_of_length_le (by rw [List.length_map, List.length_range, hl]; exact Nat.le_refl _)]
theorem HB_pos : 0 < HB := by unfold HB; omega
theorem HB_pow : HB ^ 2 = W := rfl
def bval : List Nat -> Nat
 | [] => 0
 | x :: r => x + HB * bval r
def BOk (l : List Nat) : Prop := ∀ x ∈ l, x < HB
theorem BOk.tail {x : Nat} {r : List Nat} (h : BOk (x :: r)) : BOk r := fun y hy => h y (List.mem_cons_of_mem _ hy)
theorem BOk.head {x : Nat} {r : List Nat} (h : BOk (x :: r)) : x < HB := h x (List.mem_cons_self ..)
theorem BOk.append {a b : List Nat} (ha : BOk a) (hb : BOk b) : BOk (a ++ b) := fun x hx => (List.mem_append.1 hx).elim (ha x) (hb x)
theorem BOk.take {l : List Nat} (h : BOk l) (k : Nat) : BOk (l.take k) := fun x hx => h x (List.mem_of_mem_take hx)
theorem BOk.drop {l : List Nat} (h : BOk l) (k : Nat) : BOk (l.drop k) := fun x hx => h x (List.mem_of_mem_drop hx)
theorem BOk.set {l : List Nat} (h : BOk l) (k v : Nat) (hv : v < HB) : BOk (l.set k v) := fun x hx => (List.mem_or_eq_of_mem_set hx).elim (h x) (fun e => e ▸ hv)
theorem BOk.replicate (n : Nat) : BOk (List.replicate n 0) := fun x hx => by rw [List.eq_of_mem_replicate hx]; exact HB_pos
theorem BOk.gw_ {l : List Nat} (h : BOk l) (k : Nat) : gw l k < HB := by
 unfold gw;rw [List.getD_eq_getElem?_getD];cases hk : l[k]? with
 | none => simpa using HB_pos
 | some v => exact h v (List.mem_of_getElem? hk)
theorem bval_append (a b : List Nat) : bval (a ++ b) = bval a + HB ^ a.length * bval b := by
 induction a with
 | nil => simp [bval]
 | cons x r ih => simp only [List.cons_append, bval, ih, List.length_cons, Nat.pow_succ, Nat.mul_add]; rw [Nat.mul_comm (HB ^ r.length) HB, Nat.mul_assoc]; omega
theorem bval_replicate (n : Nat) : bval (List.replicate n 0) = 0 := by
 induction n with
 | zero => simp [bval]
 | succ n ih => simp [List.replicate_succ, bval, ih]
theorem bval_lt {l : List Nat} (h : BOk l) : bval l < HB ^ l.length := by
 induction l with
 | nil => simp [bval]
 | cons x r ih =>
  have h1 := h.head;have h2 := ih h.tail;simp only [bval, List.length_cons, Nat.pow_succ];have : HB * (bval r + 1) <= HB * HB ^ r.length := Nat.mul_le_mul_left _ h2;rw [Nat.mul_comm (HB ^ r.length) HB];rw [Nat.mul_add] at this;omega
theorem bval_take_succ (l : List Nat) (k : Nat) : bval (l.take (k + 1)) = bval (l.take k) + HB ^ k * gw l k := by
 unfold gw;by_cases hk : k < l.length
 · rw [List.take_succ_eq_append_getElem hk, bval_append, List.length_take, Nat.min_eq_left (by omega)];simp [bval, hk]
 · rw [List.take_of_length_le (by omega), List.take_of_length_le (by omega)];simp [List.getElem?_eq_none (show l.length <= k by omega)]
theorem bval_zeros {l : List Nat} (h : ∀ j, gw l j = 0) : bval l = 0 := by
 induction l with
 | nil => rfl
 | cons x r ih =>
  have h0 := h 0;have := ih (fun j => by have := h (j + 1); unfold gw at *; simpa using this);unfold gw at h0;simp at h0;simp [bval, h0, this]
theorem bval_take_of_zeros {l : List Nat} {k : Nat} (h : ∀ j, k <= j -> gw l j = 0) : bval (l.take k) = bval l := by
 by_cases hk : k <= l.length
 · conv => rhs; rw [<- List.take_append_drop k l, bval_append]
   rw [bval_zeros (l := l.drop k) (fun j => by have := h (k + j) (by omega); unfold gw at *; simpa using this)]; omega
 · rw [List.take_of_length_le (by omega)]
theorem bval_take_tlen (l : List Nat) : bval (l.take (tlen l)) = bval l := bval_take_of_zeros (fun j hj => zero_of_tlen l j hj)
structure Bex (n : Nat) (ds : List Nat) : Prop where
 ok : BOk ds
 trim : tlen ds = ds.length
 val : bval ds = n
theorem Bex.of {l : List Nat} (h : BOk l) : Bex (bval l) (l.take (tlen l)) := ⟨h.take _, tlen_take_tlen l, bval_take_tlen l⟩
theorem Bex.top {n : Nat} {ds : List Nat} (h : Bex n ds) (hl : 0 < ds.length) : HB ^ (ds.length - 1) <= n := by
 have h1 := tlen_top ds (by have := h.trim; omega);have h2 := bval_take_succ ds (ds.length - 1);have e : ds.length - 1 + 1 = ds.length := by omega
 rw [e, List.take_length, h.val] at h2;rw [h.trim] at h1;have h3 : 1 <= gw ds (ds.length - 1) := by unfold gw; omega
 have := Nat.mul_le_mul_left (HB ^ (ds.length - 1)) h3;omega
theorem Bex.lt {n : Nat} {ds : List Nat} (h : Bex n ds) : n < HB ^ ds.length := by rw [<- h.val]; exact bval_lt h.ok
theorem Bex.zero {n : Nat} {ds : List Nat} (h : Bex n ds) : ds.length = 0 ↔ n = 0 := by
 constructor
 · intro e; have := h.lt; rw [e] at this; simpa using this
 · intro e;rcases Nat.eq_zero_or_pos ds.length with h0 | h0
   · exact h0
   · have := h.top h0; have := Nat.pow_pos (n := ds.length - 1) HB_pos; omega
theorem Bex.shorter {n m : Nat} {xs ys : List Nat} (h : Bex n xs) (k : Bex m ys) (hl : xs.length < ys.length) : n < m := by
 have h1 := h.lt;have h2 := k.top (by omega);have h3 : HB ^ xs.length <= HB ^ (ys.length - 1) := Nat.pow_le_pow_right HB_pos (by omega);omega
theorem bval_lt_of {xs ys : List Nat} (hx : BOk xs) (hl : xs.length = ys.length) : ∀ (k : Nat), k < xs.length -> (∀ j, k < j -> gw xs j = gw ys j) -> gw xs k < gw ys k -> bval xs < bval ys := by
 intro k hk hj hlt;have up : ∀ m, k + 1 <= m -> bval (xs.take m) < bval (ys.take m) := by
  intro m hm;induction m with
  | zero => omega
  | succ m ih =>
   by_cases e : m = k
   · subst e;rw [bval_take_succ, bval_take_succ];have h1 := bval_lt (hx.take m);rw [List.length_take, Nat.min_eq_left (by omega)] at h1;have h2 : HB ^ m * (gw xs m + 1) <= HB ^ m * gw ys m := Nat.mul_le_mul_left _ hlt;rw [Nat.mul_add] at h2;omega
   · rw [bval_take_succ, bval_take_succ, hj m (by omega)];have := ih (by omega);omega
 have := up xs.length hk;rw [List.take_length, hl, List.take_length] at this;exact this
theorem bval_eq_of {xs ys : List Nat} (hl : xs.length = ys.length) (hj : ∀ j, gw xs j = gw ys j) : bval xs = bval ys := by
 have : xs = ys := List.ext_getElem hl fun j h1 h2 => by
  have := hj j;unfold gw at this;rw [List.getD_eq_getElem?_getD, List.getD_eq_getElem?_getD, List.getElem?_eq_getElem h1, List.getElem?_eq_getElem h2] at this;simpa using this
 rw [this]
def sp2 (w : Nat) : List Nat := [w % HB, w / HB % HB]
theorem sp2_ok (w : Nat) : BOk (sp2 w) := fun x hx => by
 simp only [sp2, List.mem_cons, List.not_mem_nil, or_false] at hx;rcases hx with rfl | rfl <;> exact Nat.mod_lt _ HB_pos
theorem sp2_val {w : Nat} (h : w < W) : bval (sp2 w) = w := by
 simp only [sp2, bval, Nat.mul_zero, Nat.add_zero];unfold W at h; unfold HB; omega
theorem sp2_length (w : Nat) : (sp2 w).length = 2 := rfl
def spb (ws : List Nat) : List Nat := ws.flatMap sp2
theorem spb_cons (w : Nat) (ws : List Nat) : spb (w :: ws) = sp2 w ++ spb ws := by simp [spb]
theorem spb_ok (ws : List Nat) : BOk (spb ws) := by
 induction ws with
 | nil => intro x hx; simp [spb] at hx
 | cons w ws ih => rw [spb_cons]; exact (sp2_ok w).append ih
theorem spb_length (ws : List Nat) : (spb ws).length = 2 * ws.length := by
 induction ws with
 | nil => rfl
 | cons w ws ih => rw [spb_cons, List.length_append, ih, sp2_length, List.length_cons]; omega
theorem spb_val {ws : List Nat} (h : Ok ws) : bval (spb ws) = nval ws := by
 induction ws with
 | nil => rfl
 | cons w ws ih =>
  rw [spb_cons, bval_append, sp2_length, HB_pow, sp2_val h.head, ih h.tail]; rfl
def ch2 (ds : List Nat) (q : Nat) : Nat := bval ((ds.drop (2 * q)).take 2)
theorem ch2_lt {ds : List Nat} (h : BOk ds) (q : Nat) : ch2 ds q < W := by
 unfold ch2;refine Nat.lt_of_lt_of_le (bval_lt ((h.drop _).take _)) ?_;rw [<- HB_pow];exact Nat.pow_le_pow_right HB_pos (by simp; omega)
theorem nval_ch2 : ∀ (n : Nat) (ds : List Nat), ds.length <= 2 * n -> nval ((List.range n).map (ch2 ds)) = bval ds
 | 0, ds, h => by
  have : ds = [] := List.length_eq_zero_iff.1 (by omega);subst this; rfl
 | n + 1, ds, h => by
  have ih := nval_ch2 n (ds.drop 2) (by simp; omega);rw [List.range_succ_eq_map, List.map_cons, List.map_map];have e : (List.range n).map (ch2 ds ∘ Nat.succ) = (List.range n).map (ch2 (ds.drop 2)) := by
   refine List.map_congr_left (fun q _ => ?_);simp only [Function.comp, ch2, List.drop_drop];congr 3; omega
  rw [e, nval, ih];unfold ch2;simp only [Nat.mul_zero, List.drop_zero]
  conv => rhs; rw [<- List.take_append_drop 2 ds, bval_append]
  by_cases h4 : 2 <= ds.length
  · rw [List.length_take, Nat.min_eq_left h4, HB_pow]
  · rw [List.drop_of_length_le (by omega)]; simp [bval]
theorem ch2_ok {ds : List Nat} (h : BOk ds) (n : Nat) : Ok ((List.range n).map (ch2 ds)) := fun x hx => by
 obtain ⟨q, _, rfl⟩ := List.mem_map.1 hx;exact ch2_lt h q
theorem ch2_dig {ds : List Nat} {n m : Nat} (h : Bex m ds) (h1 : ds.length <= 2 * n) (h2 : 2 * n < ds.length + 2) : (List.range n).map (ch2 ds) = dig m := by
 have hok := ch2_ok h.ok n;have hv := nval_ch2 n ds h1;rw [h.val] at hv;have hd := dig_nval hok;rw [hv] at hd;rw [hd];have hl : tlen ((List.range n).map (ch2 ds)) = n := by
  have := tlen_le ((List.range n).map (ch2 ds));rw [List.length_map, List.length_range] at this;rcases Nat.eq_zero_or_pos n with h0 | h0
  · omega
  · have : n - 1 < tlen ((List.range n).map (ch2 ds)) := lt_tlen _ _ (by
     rw [List.getD_eq_getElem?_getD];simp only [List.getElem?_map, List.getElem?_range (show n - 1 < n by omega), Option.map_some, Option.getD_some];unfold ch2;intro e;have h3 : 0 < (ds.drop (2 * (n - 1))).length := by simp; omega
     have h4 : (ds.drop (2 * (n - 1))).length <= 2 := by simp; omega
     rw [List.take_of_length_le h4] at e;have h5 := h.top (by omega);have h6 : bval ds = bval (ds.take (2 * (n - 1))) := by
      conv => lhs; rw [<- List.take_append_drop (2 * (n - 1)) ds, bval_append, e]
      omega
     have h7 := bval_lt (h.ok.take (2 * (n - 1)));rw [<- h6, h.val, List.length_take, Nat.min_eq_left (by omega)] at h7;have h8 : HB ^ (2 * (n - 1)) <= HB ^ (ds.length - 1) := Nat.pow_le_pow_right HB_pos (by omega);omega)
    omega
 rw [List.take_of_length_le (by rw [List.length_map, List.length_range, hl]; exact Nat.le_refl _)]
theorem Bex.wlen_ {m : Nat} {ds : List Nat} (h : Bex m ds) : wlen m = (ds.length + 1) / 2 := by
 have := ch2_dig (n := (ds.length + 1) / 2) h (by omega) (by omega);have h2 := congrArg List.length this;rw [List.length_map, List.length_range] at h2;unfold wlen; exact h2.symm
theorem bval_set : ∀ (l : List Nat) (k v : Nat), k < l.length -> bval (l.set k v) + HB ^ k * gw l k = bval l + HB ^ k * v
 | x :: r, 0, v, _ => by simp only [List.set_cons_zero, bval, gw, List.getD_cons_zero, Nat.pow_zero, Nat.one_mul]; omega
 | x :: r, k + 1, v, h => by
  have ih := bval_set r k v (by simpa using h);have e : gw (x :: r) (k + 1) = gw r k := by simp [gw]
  rw [e];simp only [List.set_cons_succ, bval, Nat.pow_succ];rw [Nat.mul_comm (HB ^ k) HB, Nat.mul_assoc, Nat.mul_assoc, Nat.add_assoc, <- Nat.mul_add, ih, Nat.mul_add];omega
theorem bval_split (l : List Nat) (s : Nat) (hs : s <= l.length) : bval l = bval (l.take s) + HB ^ s * bval (l.drop s) := by
 conv => lhs; rw [<- List.take_append_drop s l, bval_append, List.length_take, Nat.min_eq_left hs]
end Go.Proofs.YtdgfhcaokigieaaGreat
namespace Go.Proofs.YtdgfhcaokigieaaGreat
open Go.RowKit
attribute [local go_sem] wv
theorem WAt.ao {w : World} {ao : Option Addr} {ws : List Nat} (h : WAt w ao ws) (hl : 0 < ws.length) : ∃ b o, ao = some ⟨b, o, none⟩ := by
 obtain ⟨b, o, e, _⟩ := h.2 hl; exact ⟨b, o, e⟩
theorem Fr.w {S0 : Nat -> Prop} {w0 w : World} {es : List En} (h : Fr S0 w0 w es) (hn : ∀ e ∈ es, e.wr = false := by simp [En.wr]) {ao : Option Addr} {ws : List Nat} (hx : WAt w ao ws) : Fr S0 w0 w (.wat ao ws :: es) :=
 h.cons hx (fun e' he' => ⟨(fun h => nomatch h), fun hw => by rw [hn e' he'] at hw; cases hw⟩) (fun h => nomatch h)
theorem mulB {a b : Nat} (h : a * b < W) : Value.int .u64 (IntKind.u64.wrap ((a : Int) * b)) = .int .u64 ((a * b : Nat) : Int) := by
 rw [IntKind.wrap_u64, <- Int.natCast_mul]; unfold W at h; congr 1; omega
theorem addB {a b : Nat} (h : a + b < W) : Value.int .u64 (IntKind.u64.wrap ((a : Int) + b)) = .int .u64 ((a + b : Nat) : Int) := by
 rw [IntKind.wrap_u64]; unfold W at h; congr 1; omega
theorem remB (a : Nat) : Value.int .u64 ((a : Int).tmod 4294967296) = .int .u64 ((a % HB : Nat) : Int) := by
 unfold HB; rw [Int.tmod_eq_emod_of_nonneg (by omega)]; rfl
theorem quoB {a : Nat} (h : a < W) : Value.int .u64 (IntKind.u64.wrap ((a : Int) / 4294967296)) = .int .u64 ((a / HB : Nat) : Int) := by
 rw [IntKind.wrap_u64]; unfold W at h; unfold HB; congr 1; omega
theorem prodB {a b c : Nat} (ha : a < HB) (hb : b < HB) (hc : c < HB) : a * b + c < W /\ (a * b + c) / HB < HB := by
 have h : a * b <= (HB - 1) * (HB - 1) := Nat.mul_le_mul (by omega) (by omega);have h1 : a * b + c < W := by unfold HB W at *; omega
 exact ⟨h1, by unfold W at h1; unfold HB; omega⟩
structure ScX where
 i : Nat
 c : Nat
 T : List Nat
set_option maxRecDepth 100000 in
set_option maxHeartbeats 4000000 in
theorem TScaled_c (ao : Option Addr) (len cap f : Nat) (ds : List Nat) (w : World) (hA : WAt w ao ds) (hd : BOk ds) (hf : f < HB) (hl : len = ds.length) (hm : len <= 17592186044416) :
 Calls Tryz.prog 96 #[.slice ao len cap, .int .u64 (f : Int)] w fun e w' => (∃ b ts, e = .returned (.slice (some ⟨b, 0, none⟩) (len + 1) (len + 1)) /\ w.heap.size <= b /\ ts.length = len + 1 /\ BOk ts /\ bval ts = bval ds * f /\ RowAt w' b 41 (ts.map wv)) /\ Below w.heap.size w w' := by
 subst hl;have hao := hA.ao;have hw1 : IntKind.i64.wrap ((ds.length : Int) + 1) = ((ds.length + 1 : Nat) : Int) := by rw [wrap_small] <;> omega
 refine funW (S0 := fun _ => False) Tryz.func96 ((Fr.nil _ w).w (hx := hA)) ?_;refine goW ?_;refine rW [] ?_;refine dW ?_;refine eW ?_;refine goW ?_;refine rW [] ?_;refine dW ?_;refine dW ?_;refine dW ?_;refine mW (ds.length + 1) (ds.length + 1) rfl rfl (Nat.le_refl _) (by omega) fun g5 => ?_;refine dW ?_;refine eW ?_;refine goW ?_;refine rW [] ?_;refine dW ?_;refine eW ?_;refine goW ?_;refine rW [] ?_;refine dW ?_;refine eW ?_;refine goW ?_;refine loopW (X := ScX) (fun x => x.i <= ds.length /\ x.T.length = ds.length + 1 /\ BOk x.T /\ x.c < HB /\ bval (x.T.take x.i) + HB ^ x.i * x.c = bval (ds.take x.i) * f) (fun x => ds.length - x.i)
  (fun x => [(7, .int .i64 (x.i : Int)), (6, .int .u64 (x.c : Int)), (5, .slice (some ⟨g5, 0, none⟩) (ds.length + 1) (ds.length + 1)), (1, .int .u64 (f : Int)), (0, .slice ao ds.length cap)])
  (fun x => [.row g5 41 (x.T.map wv), .wat ao ds]) ⟨0, 0, List.replicate (ds.length + 1) 0⟩ ⟨Nat.zero_le _, by simp, BOk.replicate _, (by show 0 < HB; decide), by simp [bval]⟩ fun x hx => ?_
 obtain ⟨h1, h2, h3, h4, h5⟩ := hx;refine goW ?_;refine rW [] ?_;refine dW ?_;refine dW ?_;refine dW ?_;refine dW ?_;refine eW ?_;refine goW ?_;refine condW (fun h => ?_) (fun h => ?_)
 · have hi : x.i < ds.length := by simpa using h
   obtain ⟨b, o, rfl⟩ := hao (by omega);have hi1 : (x.i : Int) < (ds.length : Int) := by omega
   refine goW ?_;have hg := hd.gw_ x.i;have hp := prodB hg hf h4;obtain ⟨X, hX⟩ : ∃ X, gw ds x.i * f + x.c = X := ⟨_, rfl⟩;rw [hX] at hp;have hq : x.i < x.T.length := by omega
   have hi2 : (x.i : Int) < (ds.length : Int) + 1 := by omega
   obtain ⟨R, hR⟩ : ∃ R, X % HB = R := ⟨_, rfl⟩;obtain ⟨Y, hY⟩ : ∃ Y, X / HB = Y := ⟨_, rfl⟩;refine wordW x.i mm1 hi ?_;refine rW [] ?_;refine dW ?_;refine dW ?_;refine dW ?_;refine dW ?_;refine dW ?_;refine dE (mulB (a := gw ds x.i) (b := f) (by omega)) ?_;refine dW ?_;refine dE ((addB (a := gw ds x.i * f) (b := x.c) (by omega)).trans (by rw [hX])) ?_;refine dW ?_;refine eW ?_;refine goW ?_;refine rW [] ?_;refine dW ?_;refine dW ?_;refine dW ?_;refine dE ((remB X).trans (by rw [hR])) ?_;refine dW ?_;refine sU x.i R hq rfl (k' := ?_);refine eW ?_;refine goW ?_;refine rW [] ?_;refine dW ?_;refine dE ((quoB hp.1).trans (by rw [hY])) ?_;refine dW ?_;refine eW ?_;refine goW ?_;refine rW [] ?_;refine dW ?_;refine dE (incB (a := x.i) (by omega)) ?_;refine dW ?_;refine eW ?_;subst hR hY hX;refine backW (⟨x.i + 1, (gw ds x.i * f + x.c) / HB, x.T.set x.i ((gw ds x.i * f + x.c) % HB)⟩ : ScX) ⟨⟨hi, by simpa using h2, h3.set _ _ (Nat.mod_lt _ HB_pos), hp.2, ?_⟩, by show ds.length - (x.i + 1) < ds.length - x.i; omega⟩;show bval ((x.T.set x.i ((gw ds x.i * f + x.c) % HB)).take (x.i + 1)) + HB ^ (x.i + 1) * ((gw ds x.i * f + x.c) / HB) = bval (ds.take (x.i + 1)) * f;rw [bval_take_succ, bval_take_succ, gw_set_same hq, List.take_set_of_le (Nat.le_refl _), Nat.add_mul, <- h5, Nat.pow_succ, Nat.add_assoc, Nat.mul_assoc (HB ^ x.i) HB, <- Nat.mul_add, Nat.mod_add_div, Nat.add_assoc, Nat.mul_add, Nat.mul_assoc];omega
 · have hi : x.i = ds.length := by
    have : ¬ x.i < ds.length := by simpa using h
    omega
   have hi2 : (ds.length : Int) < (ds.length : Int) + 1 := by omega
   have hq : ds.length < x.T.length := by omega
   refine goW ?_;refine rW [] ?_;refine dW ?_;refine dW ?_;refine dW ?_;refine dW ?_;refine dW ?_;refine sU ds.length x.c hq rfl (k' := ?_);refine eW ?_;refine goW ?_;refine rW [] ?_;refine dW ?_;refine dW ?_;refine eW ?_;refine goW ?_;refine fin1 (fun w' H => ?_);refine ⟨_, rvT, ⟨g5, x.T.set ds.length x.c, rfl, (H.own _ (List.mem_cons_self ..) rfl g5 rfl).resolve_left id, by simpa using h2, h3.set _ _ h4, ?_, H.m0⟩, H.below⟩;rw [<- List.take_length (l := x.T.set ds.length x.c), List.length_set, h2, bval_take_succ, gw_set_same hq, List.take_set_of_le (Nat.le_refl _)];rw [hi, List.take_length] at h5;exact h5
attribute [local go_sem] wv
theorem fin0 {P : Program} {S0 : Nat -> Prop} {w0 : World} {n : Nat} {ls : List (Nat × Value)} {es : List En} {fn : Func} {R : Ending -> World -> Prop} (k : ∀ w, Fr S0 w0 w es -> R (.returned (.tuple #[])) w) (h : fn.results = #[] := by rfl) : QW n S0 w0 (bodyPost P fn R) .normal ls es := fun a w ha hw =>
 bodyPost_end (v := .tuple #[]) (by simp [results, h]) ha.df (k w hw)
theorem subB {a b : Nat} (h : b <= a) (ha : a < W) : Value.int .u64 (IntKind.u64.wrap ((a : Int) - b)) = .int .u64 ((a - b : Nat) : Int) := by
 rw [IntKind.wrap_u64]; unfold W at ha; congr 1; omega
theorem addHB {a : Nat} (h : a + HB < W) : Value.int .u64 (IntKind.u64.wrap ((a : Int) + 4294967296)) = .int .u64 ((a + HB : Nat) : Int) := addB (b := 4294967296) h
theorem add1B {a : Nat} (h : a + 1 < W) : Value.int .u64 (IntKind.u64.wrap ((a : Int) + 1)) = .int .u64 ((a + 1 : Nat) : Int) := addB (b := 1) h
theorem bval_set_add {R : List Nat} {k low v c : Nat} (hk : k < R.length) (hv : v + low = gw R k + c * HB) : bval (R.set k v) + HB ^ k * low = bval R + c * HB ^ (k + 1) := by
 have h := bval_set R k v hk;have h2 : HB ^ k * v + HB ^ k * low = HB ^ k * gw R k + HB ^ k * (c * HB) := by rw [<- Nat.mul_add, hv, Nat.mul_add]
 rw [Nat.pow_succ];have h3 : HB ^ k * (c * HB) = c * (HB ^ k * HB) := Nat.mul_left_comm ..;omega
structure TkX where
 i : Nat
 c : Nat
 T : List Nat
structure TkI (N q s : Nat) (R bs : List Nat) (x : TkX) : Prop where
 h1 : s + x.i <= N
 h2 : x.T.length = N
 h3 : BOk x.T
 h4 : x.c <= q
 h5 : bval x.T + HB ^ s * (q * bval (bs.take x.i)) = bval R + x.c * HB ^ (s + x.i)
theorem TkI.next {N q s : Nat} {R bs : List Nat} {x : TkX} (h : TkI N q s R bs x) (hb : BOk bs) (hq : q < HB) (hi : s + x.i < N) {t v c : Nat} (ht : x.c + q * gw bs x.i = t)
 (hv : if gw x.T (s + x.i) < t % HB then v = gw x.T (s + x.i) + HB - t % HB /\ c = t / HB + 1 else v = gw x.T (s + x.i) - t % HB /\ c = t / HB) : TkI N q s R bs ⟨x.i + 1, c, x.T.set (s + x.i) v⟩ := by
 obtain ⟨h1, h2, h3, h4, h5⟩ := h;have hd := h3.gw_ (s + x.i);have hl : t % HB < HB := Nat.mod_lt _ HB_pos;have hdm := Nat.mod_add_div t HB;have hbi := hb.gw_ x.i;have htq : t <= q * HB := by
  have : q * gw bs x.i <= q * (HB - 1) := Nat.mul_le_mul_left _ (by omega);rw [Nat.mul_sub] at this;have h0 : q <= q * HB := Nat.le_mul_of_pos_right _ HB_pos;omega
 have hcq : t / HB <= q := Nat.div_le_of_le_mul (by rw [Nat.mul_comm]; exact htq);have key : ∃ bo, v + t % HB = gw x.T (s + x.i) + bo * HB /\ c = t / HB + bo /\ v < HB /\ c <= q := by
  split at hv
  · rename_i hlt;refine ⟨1, by omega, hv.2, by omega, ?_⟩;rcases Nat.lt_or_ge (t / HB) q with h | h
    · omega
    · have he : t / HB = q := Nat.le_antisymm hcq h;rw [he, Nat.mul_comm] at hdm;omega
  · exact ⟨0, by omega, hv.2, by omega, by omega⟩
 obtain ⟨bo, k1, k2, k3, k4⟩ := key;refine ⟨hi, by simpa using h2, h3.set _ _ k3, k4, ?_⟩;have e := bval_set_add (R := x.T) (k := s + x.i) (by omega) k1;show bval (x.T.set (s + x.i) v) + HB ^ s * (q * bval (bs.take (x.i + 1))) = bval R + c * HB ^ (s + (x.i + 1));rw [bval_take_succ, k2, <- Nat.add_assoc];have e1 : HB ^ s * (q * (bval (bs.take x.i) + HB ^ x.i * gw bs x.i)) = HB ^ s * (q * bval (bs.take x.i)) + HB ^ (s + x.i) * (q * gw bs x.i) := by
  rw [Nat.mul_add, Nat.mul_add, Nat.pow_add, Nat.mul_left_comm q, Nat.mul_assoc]
 have e2 : HB ^ (s + x.i) * (q * gw bs x.i) + x.c * HB ^ (s + x.i) = HB ^ (s + x.i) * (t % HB) + t / HB * HB ^ (s + x.i + 1) := by
  rw [Nat.mul_comm x.c, <- Nat.mul_add, Nat.add_comm _ x.c, ht, Nat.pow_succ, Nat.mul_left_comm (t / HB), <- Nat.mul_add, Nat.mul_comm (t / HB), hdm]
 rw [e1, Nat.add_mul];omega
theorem TkI.end_ {N q s : Nat} {R bs : List Nat} {x : TkX} (h : TkI N q s R bs x) (hR : BOk R) (hN : R.length = N) (hle : HB ^ s * (q * bval bs) <= bval R) (he : N <= s + x.i ∨ (bs.length <= x.i /\ x.c = 0)) : bval x.T + HB ^ s * (q * bval bs) = bval R := by
 obtain ⟨h1, h2, h3, h4, h5⟩ := h;rcases he with he | ⟨he, hc⟩
 · have e : s + x.i = N := by omega
   rw [e] at h5;have hT := bval_lt h3;rw [h2] at hT;have hRl := bval_lt hR;rw [hN] at hRl;have hq : q * bval bs < HB ^ x.i := by
    refine Nat.lt_of_mul_lt_mul_left (a := HB ^ s) ?_;rw [<- Nat.pow_add, e]; omega
   have hsp : bval bs = bval (bs.take x.i) + HB ^ x.i * bval (bs.drop x.i) := by
    by_cases hl : x.i <= bs.length
    · exact bval_split bs x.i hl
    · rw [List.take_of_length_le (by omega), List.drop_of_length_le (by omega)]; simp [bval]
   have hqd : q * bval (bs.take x.i) = q * bval bs := by
    rcases Nat.eq_zero_or_pos (bval (bs.drop x.i)) with h0 | h0
    · rw [h0] at hsp; rw [hsp]; simp
    · rcases Nat.eq_zero_or_pos q with hq0 | hq0
      · simp [hq0]
      · have : HB ^ x.i * 1 <= HB ^ x.i * bval (bs.drop x.i) := Nat.mul_le_mul_left _ h0;have : 1 * bval bs <= q * bval bs := Nat.mul_le_mul_right _ hq0;omega
   rw [hqd] at h5;have hc : x.c = 0 := by
    rcases Nat.eq_zero_or_pos x.c with h0 | h0
    · exact h0
    · have : 1 * HB ^ N <= x.c * HB ^ N := Nat.mul_le_mul_right _ h0;omega
   rw [hc] at h5; omega
 · rw [hc, List.take_of_length_le he] at h5; omega
set_option maxRecDepth 100000 in
set_option maxHeartbeats 4000000 in
theorem TTakeOff_c (br N cr : Nat) (R : List Nat) (bo : Option Addr) (lb cb q s : Nat) (bs : List Nat) (w : World) (hR : RowAt w br 41 (R.map wv)) (hA : WAt w bo bs) (hbr : 0 < bs.length -> ∀ o, bo = some o -> o.block ≠ br) (hok : BOk R) (hokb : BOk bs) (hN : R.length = N) (hlb : lb = bs.length) (hq : q < HB) (hs : s <= N) (hm : N <= 35184372088832) (hmb : lb <= 35184372088832) (hle : HB ^ s * (q * bval bs) <= bval R) :
 Calls Tryz.prog 98 #[.slice (some ⟨br, 0, none⟩) N cr, .slice bo lb cb, .int .u64 (q : Int), .int .i64 (s : Int)] w fun e w' => ∃ R' : List Nat, e = .returned (.tuple #[]) /\ R'.length = N /\ BOk R' /\ bval R' + HB ^ s * (q * bval bs) = bval R /\ RowAt w' br 41 (R'.map wv) /\ Chg (· = br) w w' := by
 subst hlb;have hao := hA.ao;refine funW (S0 := (· = br)) Tryz.func98 (es := [.row br 41 (R.map wv), .wat bo bs]) (((Fr.nil _ w).cons (e := .wat bo bs) hA (fun _ h => (List.not_mem_nil h).elim) (fun h => nomatch h)).cons hR (fun e he => ?_) (fun _ b h => .inl h)) ?_
 · rw [List.mem_singleton] at he; subst he;refine ⟨fun _ b hb hb' => ?_, (fun h => nomatch h)⟩;obtain ⟨hl, o, e⟩ := hb';exact hbr hl _ e hb
 refine goW ?_;refine rW [] ?_;refine dW ?_;refine eW ?_;refine goW ?_;refine rW [] ?_;refine dW ?_;refine eW ?_;refine goW ?_;refine loopW (X := TkX) (TkI N q s R bs) (fun x => N - x.i)
  (fun x => [(9, .int .i64 (x.i : Int)), (8, .int .u64 (x.c : Int)), (3, .int .i64 (s : Int)), (2, .int .u64 (q : Int)), (1, .slice bo bs.length cb), (0, .slice (some ⟨br, 0, none⟩) N cr)])
  (fun x => [.row br 41 (x.T.map wv), .wat bo bs]) ⟨0, 0, R⟩ ⟨hs, hN, hok, Nat.zero_le _, by simp [bval]⟩ fun x hx => ?_
 have h1 := hx.h1;have fin : (N <= s + x.i ∨ (bs.length <= x.i /\ x.c = 0)) -> ∀ w', Fr (· = br) w w' [.row br 41 (x.T.map wv), .wat bo bs] -> ∃ R' : List Nat, (Ending.returned (.tuple #[])) = .returned (.tuple #[]) /\ R'.length = N /\ BOk R' /\ bval R' + HB ^ s * (q * bval bs) = bval R /\ RowAt w' br 41 (R'.map wv) /\ Chg (· = br) w w' := fun he w' H => ⟨x.T, rfl, hx.h2, hx.h3, hx.end_ hok hN hle he, H.m0, H.bs⟩;refine seqW (joinW (X := Unit) (fun _ => s + x.i < N /\ (x.i < bs.length ∨ 0 < x.c)) (fun _ => [(9, .int .i64 (x.i : Int)), (8, .int .u64 (x.c : Int)), (3, .int .i64 (s : Int)), (2, .int .u64 (q : Int)), (1, .slice bo bs.length cb), (0, .slice (some ⟨br, 0, none⟩) N cr)]) (fun _ => [.row br 41 (x.T.map wv), .wat bo bs]) ?_ fun _ hz => ?_)
 · by_cases hi : s + x.i < N
   · have hi' : (s : Int) + (x.i : Int) < (N : Int) := by omega
     by_cases hb : x.i < bs.length
     · have hb' : (x.i : Int) < (bs.length : Int) := by omega
       refine goW ?_;refine rW [] ?_;refine dW ?_;refine dW ?_;refine dE (sumI (a := s) (b := x.i) (by omega)) ?_;refine dW ?_;refine dW ?_;refine dB true ?_;refine dW ?_;refine dG ?_;refine dG ?_;refine dG ?_;refine dGB true ?_;refine dG ?_;refine uG ?_;refine uG ?_;refine dG ?_;refine dW ?_;refine eW ?_;refine goW ?_;refine ctW ?_;refine skipW ?_;exact joinE () ⟨hi, .inl hb⟩
     · have hb' : ¬ (x.i : Int) < (bs.length : Int) := by omega
       by_cases hc : 0 < x.c
       · have hc' : 0 < (x.c : Int) := by omega
         refine goW ?_;refine rW [] ?_;refine dW ?_;refine dW ?_;refine dE (sumI (a := s) (b := x.i) (by omega)) ?_;refine dW ?_;refine dW ?_;refine dB true ?_;refine dW ?_;refine dG ?_;refine dG ?_;refine dG ?_;refine dGB false ?_;refine dG ?_;refine dG ?_;refine dGB true ?_;refine dG ?_;refine dW ?_;refine eW ?_;refine goW ?_;refine ctW ?_;refine skipW ?_;exact joinE () ⟨hi, .inr hc⟩
       · have hc' : ¬ 0 < (x.c : Int) := by omega
         refine goW ?_;refine rW [] ?_;refine dW ?_;refine dW ?_;refine dE (sumI (a := s) (b := x.i) (by omega)) ?_;refine dW ?_;refine dW ?_;refine dB true ?_;refine dW ?_;refine dG ?_;refine dG ?_;refine dG ?_;refine dGB false ?_;refine dG ?_;refine dG ?_;refine dGB false ?_;refine dG ?_;refine dW ?_;refine eW ?_;refine goW ?_;refine cfW ?_;refine goW ?_;exact fin0 (fin (.inr ⟨by omega, by omega⟩))
   · have hi' : (N : Int) <= (s : Int) + (x.i : Int) := by omega
     refine goW ?_;refine rW [] ?_;refine dW ?_;refine dW ?_;refine dE (sumI (a := s) (b := x.i) (by omega)) ?_;refine dW ?_;refine dW ?_;refine dB false ?_;refine dW ?_;refine uG ?_;refine uG ?_;refine uG ?_;refine uG ?_;refine uG ?_;refine uU ?_;refine uU ?_;refine uG ?_;refine dW ?_;refine eW ?_;refine goW ?_;refine cfW ?_;refine goW ?_;exact fin0 (fin (.inl (by omega)))
 · obtain ⟨hi, hor⟩ := hz;have hi' : (s : Int) + (x.i : Int) < (N : Int) := by omega
   have hk := gw_some (ws := x.T) (i := s + x.i) (by rw [hx.h2]; exact hi);have hbi := hokb.gw_ x.i;have hrd := hx.h3.gw_ (s + x.i);have hcq := hx.h4;have hqg : q * gw bs x.i <= q * (HB - 1) := Nat.mul_le_mul_left _ (by omega);have hqW : q * HB < W := by unfold HB W at *; omega
   rw [Nat.mul_sub, Nat.mul_one] at hqg;have hq0 : q <= q * HB := Nat.le_mul_of_pos_right _ HB_pos;obtain ⟨B, hB⟩ : ∃ B, gw bs x.i = B := ⟨_, rfl⟩;obtain ⟨D, hD⟩ : ∃ D, gw x.T (s + x.i) = D := ⟨_, rfl⟩;obtain ⟨t, ht⟩ : ∃ t, x.c + q * B = t := ⟨_, rfl⟩;rw [hB] at hqg;have htW : t < W := by omega
   have hqB : q * B < W := by omega
   obtain ⟨L, hL⟩ : ∃ L, t % HB = L := ⟨_, rfl⟩;obtain ⟨Y, hY⟩ : ∃ Y, t / HB = Y := ⟨_, rfl⟩;have nx := fun v c hv => hx.next hokb hq hi (t := t) (v := v) (c := c) (by rw [hB]; exact ht) hv;rw [hD, hL, hY] at nx;rw [hD] at hk;obtain ⟨K, hK⟩ : ∃ K, s + x.i = K := ⟨_, rfl⟩;rw [hK] at nx hk hi;have hHW : HB + HB < W := by decide
   have hY1 : Y < HB := by rw [<- hY]; exact Nat.div_lt_of_lt_mul (show t < HB * HB from htW)
   rw [hD] at hrd;have hL1 : L < HB := by rw [<- hL]; exact Nat.mod_lt _ HB_pos
   have hKN : (K : Int) < (N : Int) := by omega
   refine goW ?_;refine rW [] ?_;refine dW ?_;refine dW ?_;refine eW ?_;refine nextW (seqW (joinW (X := Unit) (fun _ => True) (fun _ => [(10, .int .u64 (t : Int)), (9, .int .i64 (x.i : Int)), (8, .int .u64 (x.c : Int)), (3, .int .i64 (s : Int)), (2, .int .u64 (q : Int)), (1, .slice bo bs.length cb), (0, .slice (some ⟨br, 0, none⟩) N cr)]) (fun _ => [.row br 41 (x.T.map wv), .wat bo bs]) ?_ fun _ _ => ?_))
   · by_cases hb : x.i < bs.length
     · have hb' : (x.i : Int) < (bs.length : Int) := by omega
       obtain ⟨b, o, rfl⟩ := hao (by omega);refine goW ?_;refine rW [] ?_;refine dW ?_;refine dW ?_;refine dW ?_;refine dB true ?_;refine eW ?_;refine goW ?_;refine ctW ?_;refine wordW x.i mm1 hb ?_;rw [hB];refine rW [] ?_;refine dW ?_;refine dW ?_;refine dW ?_;refine dW ?_;refine dW ?_;refine dW ?_;refine dE (mulB (a := q) (b := B) hqB) ?_;refine dE ((addB (a := x.c) (b := q * B) (by rw [ht]; exact htW)).trans (by rw [ht])) ?_;refine dW ?_;refine eW ?_;exact joinE () trivial
     · have hb' : ¬ (x.i : Int) < (bs.length : Int) := by omega
       have ht0 : x.c = t := by rw [<- ht, <- hB]; unfold gw; simp [List.getElem?_eq_none (show bs.length <= x.i by omega)]
       rw [ht0];refine goW ?_;refine rW [] ?_;refine dW ?_;refine dW ?_;refine dW ?_;refine dB false ?_;refine eW ?_;refine goW ?_;refine cfW ?_;refine skipW ?_;exact joinE () trivial
   · refine goW ?_;refine rW [] ?_;refine dW ?_;refine dE ((remB t).trans (by rw [hL])) ?_;refine dW ?_;refine eW ?_;refine goW ?_;refine rW [] ?_;refine dW ?_;refine dE ((quoB (a := t) htW).trans (by rw [hY])) ?_;refine dW ?_;refine eW ?_;refine goW ?_;refine rW [] ?_;refine dW ?_;refine dW ?_;refine dW ?_;refine dE ((sumI (a := s) (b := x.i) (by omega)).trans (by rw [hK])) ?_;refine dW ?_;refine dW ?_;refine dW ?_;refine dW ?_;refine eW ?_;refine goW ?_;refine condW (fun h => ?_) (fun h => ?_)
     · have hlt : D < L := by have h := of_decide_eq_true h; omega
       refine goW ?_;refine rW [] ?_;refine dW ?_;refine dW ?_;refine dW ?_;refine dE ((sumI (a := s) (b := x.i) (by omega)).trans (by rw [hK])) ?_;refine dW ?_;refine dW ?_;refine dW ?_;refine dE ((sumI (a := s) (b := x.i) (by omega)).trans (by rw [hK])) ?_;refine dW ?_;refine dW ?_;refine dE (addHB (a := D) (by omega)) ?_;refine dW ?_;refine dE (subB (a := D + HB) (b := L) (by omega) (by omega)) ?_;refine dW ?_;refine sU K (D + HB - L) (by rw [hx.h2]; exact hi) rfl (k' := ?_);refine eW ?_;refine goW ?_;refine rW [] ?_;refine dW ?_;refine dE (add1B (a := Y) (by omega)) ?_;refine dW ?_;refine eW ?_;refine goW ?_;refine rW [] ?_;refine dW ?_;refine dE (incB (a := x.i) (by omega)) ?_;refine dW ?_;refine eW ?_;exact backW (⟨x.i + 1, Y + 1, x.T.set K (D + HB - L)⟩ : TkX) ⟨nx _ _ (by rw [if_pos hlt]; exact ⟨rfl, rfl⟩), by show N - (x.i + 1) < N - x.i; omega⟩
     · have hlt : ¬ D < L := by have h := of_decide_eq_false h; omega
       refine goW ?_;refine rW [] ?_;refine dW ?_;refine dW ?_;refine dW ?_;refine dE ((sumI (a := s) (b := x.i) (by omega)).trans (by rw [hK])) ?_;refine dW ?_;refine dW ?_;refine dW ?_;refine dE ((sumI (a := s) (b := x.i) (by omega)).trans (by rw [hK])) ?_;refine dW ?_;refine dW ?_;refine dW ?_;refine dE (subB (a := D) (b := L) (by omega) (by omega)) ?_;refine dW ?_;refine sU K (D - L) (by rw [hx.h2]; exact hi) rfl (k' := ?_);refine eW ?_;refine goW ?_;refine rW [] ?_;refine dW ?_;refine dE (incB (a := x.i) (by omega)) ?_;refine dW ?_;refine eW ?_;exact backW (⟨x.i + 1, Y, x.T.set K (D - L)⟩ : TkX) ⟨nx _ _ (by rw [if_neg hlt]; exact ⟨rfl, rfl⟩), by show N - (x.i + 1) < N - x.i; omega⟩
attribute [local go_sem] wv
theorem gw_take_ (R : List Nat) (k j : Nat) (h : j < k) : gw (R.take k) j = gw R j := by rw [gw_take, if_pos h]
theorem gw_ge (R : List Nat) (j : Nat) (h : R.length <= j) : gw R j = 0 := by simp [gw, List.getElem?_eq_none h]
theorem bval_sep {R : List Nat} (hR : BOk R) (s n : Nat) (hs : s <= R.length) : HB ^ s * n <= bval R ↔ n <= bval (R.drop s) := by
 have h1 := bval_split R s hs;have h2 := bval_lt (hR.take s);rw [List.length_take, Nat.min_eq_left hs] at h2;constructor
 · intro h;refine Nat.le_of_lt_succ (Nat.lt_of_mul_lt_mul_left (a := HB ^ s) ?_);rw [Nat.mul_succ]; omega
 · intro h;have := Nat.mul_le_mul_left (HB ^ s) h;omega
theorem goes_top {R bs : List Nat} {s : Nat} (hR : BOk R) (hb : BOk bs) (hs : s + bs.length <= R.length) (h : 0 < gw R (s + bs.length)) : HB ^ s * bval bs <= bval R := by
 rw [bval_sep hR s _ (by omega)];have h1 := bval_split (R.drop s) bs.length (by simp; omega);have h2 := bval_lt hb;have h3 : gw (R.drop s) bs.length <= bval ((R.drop s).drop bs.length) := by
  rw [gw_drop];have e : (R.drop s).drop bs.length = R.drop (s + bs.length) := by rw [List.drop_drop]
  rw [e];cases hd : R.drop (s + bs.length) with
  | nil => rw [show gw R (s + bs.length) = gw (R.drop (s + bs.length)) 0 by rw [gw_drop]; rfl, hd]; simp [gw]
  | cons a l => rw [show gw R (s + bs.length) = gw (R.drop (s + bs.length)) 0 by rw [gw_drop]; rfl, hd]; simp [gw, bval]
 rw [gw_drop] at h3;have : HB ^ bs.length * 1 <= HB ^ bs.length * bval ((R.drop s).drop bs.length) := Nat.mul_le_mul_left _ (by omega);omega
theorem goes_low {R bs : List Nat} {s : Nat} (hR : BOk R) (hs : s + bs.length <= R.length) (hlt : bval R < HB ^ (s + bs.length + 1)) (h : gw R (s + bs.length) = 0) : bval (R.drop s) = bval ((R.drop s).take bs.length) := by
 have h1 := bval_split (R.drop s) bs.length (by simp; omega);have h2 := bval_split R (s + bs.length) hs;rw [List.drop_drop] at h1;have h3 : bval (R.drop (s + bs.length)) = 0 := by
  have h4 : bval (R.drop (s + bs.length)) < HB := by
   refine Nat.lt_of_mul_lt_mul_left (a := HB ^ (s + bs.length)) ?_;rw [Nat.pow_succ] at hlt; omega
  have h5 : gw (R.drop (s + bs.length)) 0 = 0 := by rw [gw_drop]; exact h
  cases hd : R.drop (s + bs.length) with
  | nil => rfl
  | cons a l =>
   rw [hd] at h4 h5;simp [gw] at h5;subst h5;simp only [bval] at h4 ⊢;have : bval l = 0 := by
    rcases Nat.eq_zero_or_pos (bval l) with h0 | h0
    · exact h0
    · have := Nat.mul_le_mul_left HB h0; omega
   rw [this]; rfl
 rw [h3] at h1; omega
theorem goes_ne {R bs : List Nat} {s i : Nat} (hR : BOk R) (hb : BOk bs) (hs : s + bs.length <= R.length) (hlt : bval R < HB ^ (s + bs.length + 1)) (h : gw R (s + bs.length) = 0) (hi : i < bs.length) (hj : ∀ j, i < j -> j < bs.length -> gw R (s + j) = gw bs j) (hne : gw R (s + i) ≠ gw bs i) : decide (gw bs i < gw R (s + i)) = decide (HB ^ s * bval bs <= bval R) := by
 have hl : ((R.drop s).take bs.length).length = bs.length := by simp; omega
 have hg : ∀ j, i < j -> gw ((R.drop s).take bs.length) j = gw bs j := fun j hij => by
  by_cases h1 : j < bs.length
  · rw [gw_take_ _ _ _ h1, gw_drop]; exact hj j hij h1
  · rw [gw_ge _ _ (by omega), gw_ge _ _ (by omega)]
 rw [decide_eq_decide, bval_sep hR s _ (by omega), goes_low hR hs hlt h];have e : gw ((R.drop s).take bs.length) i = gw R (s + i) := by rw [gw_take_ _ _ _ hi, gw_drop]
 constructor
 · intro h1;exact Nat.le_of_lt (bval_lt_of hb hl.symm i hi (fun j hij => (hg j hij).symm) (by rw [e]; exact h1))
 · intro h1;rcases Nat.lt_or_ge (gw bs i) (gw R (s + i)) with h2 | h2
   · exact h2
   · have := bval_lt_of ((hR.drop s).take bs.length) hl i (by rw [hl]; exact hi) hg (by rw [e]; omega);omega
theorem goes_eq {R bs : List Nat} {s : Nat} (hR : BOk R) (hs : s + bs.length <= R.length) (hlt : bval R < HB ^ (s + bs.length + 1)) (h : gw R (s + bs.length) = 0) (hj : ∀ j, j < bs.length -> gw R (s + j) = gw bs j) : HB ^ s * bval bs <= bval R := by
 rw [bval_sep hR s _ (by omega), goes_low hR hs hlt h];refine Nat.le_of_eq (bval_eq_of (by simp; omega) fun j => ?_);by_cases h1 : j < bs.length
 · rw [gw_take_ _ _ _ h1, gw_drop, hj j h1]
 · rw [gw_ge _ _ (by omega), gw_ge _ _ (by simp; omega)]
theorem predI (a : Nat) (h : a < 9223372036854775807) : Value.int .i64 (IntKind.i64.wrap ((a : Int) - 1)) = .int .i64 ((a : Int) - 1) := by
 rw [IntWalk.i64_in _ (by omega)]
set_option maxRecDepth 100000 in
set_option maxHeartbeats 4000000 in
theorem TGoes_c (ro : Option Addr) (N cr : Nat) (R : List Nat) (bo : Option Addr) (lb cb s : Nat) (bs : List Nat) (w : World) (hR : WAt w ro R) (hA : WAt w bo bs) (hok : BOk R) (hokb : BOk bs) (hN : N = R.length) (hlb : lb = bs.length) (hs : s + lb <= N) (hm : N <= 35184372088832) (hlt : bval R < HB ^ (s + lb + 1)) :
 Calls Tryz.prog 97 #[.slice ro N cr, .slice bo lb cb, .int .i64 (s : Int)] w fun e w' => e = .returned (.bool (decide (HB ^ s * bval bs <= bval R))) /\ Below w.heap.size w w' := by
 subst hlb hN;have hro := hR.ao;have hao := hA.ao;refine funW (S0 := fun _ => False) Tryz.func97 (es := [.wat ro R, .wat bo bs]) (((Fr.nil _ w).w (hx := hA)).w (hx := hR) (hn := by simp [En.wr, En.wat])) ?_;refine goW ?_;refine rW [] ?_;refine dW ?_;refine eW ?_;refine goW ?_;refine rW [] ?_;refine dW ?_;refine dW ?_;refine dW ?_;obtain ⟨K, hK⟩ : ∃ K, s + bs.length = K := ⟨_, rfl⟩;refine dE ((sumI (a := s) (b := bs.length) (by omega)).trans (by rw [hK])) ?_;refine dW ?_;refine eW ?_;refine nextW (seqW (joinW (X := Unit) (fun _ => gw R K = 0) (fun _ => [(2, .int .i64 (s : Int)), (1, .slice bo bs.length cb), (0, .slice ro R.length cr)]) (fun _ => [.wat ro R, .wat bo bs]) ?_ fun _ hz => ?_))
 · by_cases hk : K < R.length
   · obtain ⟨b, o, rfl⟩ := hro (by omega);obtain ⟨D, hD⟩ : ∃ D, gw R K = D := ⟨_, rfl⟩;have hk' : (K : Int) < (R.length : Int) := by omega
     refine goW ?_;refine wordW K mm0 hk ?_;rw [hD];refine rW [] ?_;refine dW ?_;refine dW ?_;refine dW ?_;refine dB true ?_;refine dW ?_;refine dG ?_;refine dG ?_;refine dG ?_;refine dG ?_;refine dG ?_;refine dW ?_;refine eW ?_;refine goW ?_;refine condW (fun h => ?_) (fun h => ?_)
     · have h : 0 < D := by have h := of_decide_eq_true h; omega
       refine goW ?_;refine rW [] ?_;refine dW ?_;refine eW ?_;refine goW ?_;refine fin1 (fun w' H => ?_);have e : decide (HB ^ s * bval bs <= bval R) = true := decide_eq_true (goes_top hok hokb hs (by rw [hK, hD]; exact h));rw [e];exact ⟨_, rvT, rfl, H.below⟩
     · have h : D = 0 := by have h := of_decide_eq_false h; omega
       refine skipW ?_;exact joinE () h
   · have hk' : (R.length : Int) <= (K : Int) := by omega
     refine goW ?_;refine rW [] ?_;refine dW ?_;refine dW ?_;refine dW ?_;refine dB false ?_;refine dW ?_;refine uG ?_;refine uG ?_;refine uG ?_;refine uG ?_;refine uG ?_;refine dW ?_;refine eW ?_;refine goW ?_;refine cfW ?_;refine skipW ?_;exact joinE () (gw_ge _ _ (by omega))
 · refine goW ?_;refine rW [] ?_;refine dW ?_;refine dW ?_;refine dE (predI bs.length (by omega)) ?_;refine dW ?_;refine eW ?_;refine goW ?_;refine loopW (X := Nat) (fun k => k <= bs.length /\ ∀ j, k <= j -> j < bs.length -> gw R (s + j) = gw bs j) (fun k => k)
    (fun k => [(8, .int .i64 ((k : Int) - 1)), (2, .int .i64 (s : Int)), (1, .slice bo bs.length cb), (0, .slice ro R.length cr)]) (fun _ => [.wat ro R, .wat bo bs]) bs.length ⟨Nat.le_refl _, fun j h1 h2 => by omega⟩ fun k hx => ?_
   obtain ⟨hk, hj⟩ := hx;rcases k with _ | m
   · refine goW ?_;refine rW [] ?_;refine dW ?_;refine dB false ?_;refine eW ?_;refine goW ?_;refine cfW ?_;refine goW ?_;refine rW [] ?_;refine dW ?_;refine eW ?_;refine goW ?_;refine fin1 (fun w' H => ?_);have e : decide (HB ^ s * bval bs <= bval R) = true := decide_eq_true (goes_eq hok hs hlt (by rw [hK]; exact hz) (fun j h => hj j (Nat.zero_le _) h));rw [e];exact ⟨_, rvT, rfl, H.below⟩
   · have em : ((m + 1 : Nat) : Int) - 1 = (m : Int) := by omega
     rw [em];obtain ⟨b, o, rfl⟩ := hao (by omega);obtain ⟨b2, o2, rfl⟩ := hro (by omega);obtain ⟨L, hL⟩ : ∃ L, s + m = L := ⟨_, rfl⟩;have hLl : L < R.length := by omega
     have hL' : (L : Int) < (R.length : Int) := by omega
     have hm' : (m : Int) < (bs.length : Int) := by omega
     have ne := fun hne => goes_ne (i := m) hok hokb hs hlt (by rw [hK]; exact hz) (by omega) (fun j h1 h2 => hj j (by omega) h2) hne;rw [hL] at ne;obtain ⟨D, hD⟩ : ∃ D, gw R L = D := ⟨_, rfl⟩;obtain ⟨B, hB⟩ : ∃ B, gw bs m = B := ⟨_, rfl⟩;rw [hD, hB] at ne;refine goW ?_;refine rW [] ?_;refine dW ?_;refine dB true ?_;refine eW ?_;refine goW ?_;refine ctW ?_;refine goW ?_;refine wordW L mm0 hLl ?_;refine wordW m mm2 (by omega) ?_;rw [hD, hB];refine rW [] ?_;refine dW ?_;refine dW ?_;refine dW ?_;refine dE ((sumI (a := s) (b := m) (by omega)).trans (by rw [hL])) ?_;refine dW ?_;refine dW ?_;refine dW ?_;refine dW ?_;refine dW ?_;refine dW ?_;refine dW ?_;refine eW ?_;refine goW ?_;refine condW (fun h => ?_) (fun h => ?_)
     · have h : D ≠ B := by intro e; subst e; simp at h
       refine goW ?_;refine rW [] ?_;refine dW ?_;refine dW ?_;refine dW ?_;refine dE ((sumI (a := s) (b := m) (by omega)).trans (by rw [hL])) ?_;refine dW ?_;refine dW ?_;refine dW ?_;refine dW ?_;refine dW ?_;refine dW ?_;refine dW ?_;refine dW ?_;refine eW ?_;refine goW ?_;refine fin1 (fun w' H => ?_);rw [<- ne h];exact ⟨_, rvT, rfl, H.below⟩
     · have h : D = B := by
        have h : (D : Int) = B := by simpa using h
        omega
       refine goW ?_;refine rW [] ?_;refine dW ?_;refine dE (predI m (by omega)) ?_;refine dW ?_;refine eW ?_;refine backW m ⟨⟨by omega, fun j h1 h2 => ?_⟩, by omega⟩;by_cases e : j = m
       · subst e; rw [hL, hD, hB, h]
       · exact hj j (by omega) h2
attribute [local go_sem] Oper.semAt_some
theorem cell_putObj {w : World} {l : Nat} {o o' : Obj} (hl : w.heap[l]? = some o) (hn : o.isCells = false) {p : Addr} {v : Value} (h : w.cell? p = some v) : (w.putObj l o').cell? p = some v := by
 by_cases e : p.block = l
 · exfalso;unfold World.cell? at h;rw [e, hl] at h;cases o <;> simp_all [Obj.isCells]
 · exact (World.cell?_of_block (World.putObj_heap_other e)).trans h
theorem row_putObj {w : World} {l : Nat} {o o' : Obj} (hl : w.heap[l]? = some o) (hn : o.isCells = false) {b : Nat} {t : TypeId} {cs : List Value} (h : RowAt w b t cs) : RowAt (w.putObj l o') b t cs := by
 by_cases e : b = l
 · exfalso;unfold RowAt at h;rw [e, hl] at h;injection h with h
   subst h;simp [Obj.isCells] at hn
 · unfold RowAt at *;rw [World.putObj_heap_other e]; exact h
theorem size_putObj (w : World) (l : Nat) (o : Obj) : (w.putObj l o).heap.size = w.heap.size := by simp
theorem wat_putObj {w : World} {l : Nat} {o o' : Obj} (hl : w.heap[l]? = some o) (hn : o.isCells = false) {ao : Option Addr} {ws : List Nat} (h : WAt w ao ws) : WAt (w.putObj l o') ao ws := by
 refine ⟨h.1, fun hp => ?_⟩;obtain ⟨b, q, e, hb, hc⟩ := h.2 hp;exact ⟨b, q, e, by rw [size_putObj]; exact hb, fun i hi => cell_putObj hl hn (hc i hi)⟩
theorem int_putObj {w : World} {l : Nat} {o o' : Obj} (hl : w.heap[l]? = some o) (hn : o.isCells = false) {L : Nat} {v : Value} {x : Int} (h : IntAt w L v x) : IntAt (w.putObj l o') L v x := by
 obtain ⟨n, ao, len, cap, ws, e, hW, r⟩ := h;exact ⟨n, ao, len, cap, ws, e, wat_putObj hl hn hW, r⟩
theorem rowN_putObj {w : World} {l : Nat} {o o' : Obj} (hl : w.heap[l]? = some o) (hn : o.isCells = false) {b : Nat} {xs : List Int} (h : RowN w b xs) : RowN (w.putObj l o') b xs := by
 obtain ⟨ps, tl, nt, hr, hl', hN⟩ := h;exact ⟨ps, tl, nt, row_putObj hl hn hr, hl', fun i h1 h2 => ⟨int_putObj hl hn (hN i h1 h2).1, (hN i h1 h2).2⟩⟩
theorem info_row : (Tryz.prog.info? 22).map (fun i => (i.zero, i.size, i.bytes)) = some (some (.slice none 0 0), 1, 24) := by kernel_rfl
def hdrsTo (r : Nat) (zs : List NR) : List Value := zs.map (fun z => z.2.hdr) ++ List.replicate (r - zs.length) (.slice none 0 0)
structure LinesI (w : World) (B g o r : Nat) (zs : List NR) (W : World) : Prop where
 box : RowAt W g 46 [.slice (some ⟨o, 0, none⟩) zs.length r]
 row : RowAt W o 22 (hdrsTo r zs)
 nums : ∀ z ∈ zs, RowN W z.2.blk z.2.xs /\ B <= z.2.blk
 nd : (zs.map (fun z => z.2.blk)).Nodup
 chg : Chg (fun k => k = g ∨ k = o) w W
theorem wpListIn_app {F : Fence} {n : Nat} {P : Program} {w : World} {ops : Array Oper} {rest : List Oper} {o : Oper} {a : Act} {Q : Exit -> Act -> World -> Prop}
 (hg : o.guard = none) (s x : Operand) (t : TypeId) (hop : o.op = Op.call { callee := Callee.builtin Builtin.append, args := #[s, x], argTypes := #[t, t] })
 (e : TypeId) (z : Value) (size bytes : Nat) (h1 : P.underlying t = some (.slice e)) (h2 : (P.info? e).map (fun i => (i.zero, i.size, i.bytes)) = some (some z, size, bytes))
 (b off sLen sCap : Nat) (ad : Addr) (m c : Nat) (news : List Value) (hs : a.eval s = .slice (some ⟨b, off, none⟩) sLen sCap) (hx : a.eval x = .slice (some ad) m c)
 (hl : news.length = m * size) (hnews : ∀ j u, news[j]? = some u -> w.cell? (ad.add j) = some u) (h1c : ∀ u ∈ news, u.oneCell' = true) (hroom : sLen + m <= sCap)
 (hc : ∀ j, j < news.length -> (w.cell? ⟨b, off + sLen * size + j, none⟩).isSome = true) (hf : ∀ j, j < news.length -> w.frozen? ⟨b, off + sLen * size + j, none⟩ = false)
 (hK : wpListIn F n P ops Q rest (a.put o.dst (.slice (some ⟨b, off, none⟩) (sLen + m) sCap)) (w.setCells b (off + sLen * size) news)) :
 wpListIn F n P ops Q (o :: rest) a w := by
 refine wpListIn_plain hg fun K hK' => ?_;obtain ⟨i, hi, hz, hsz, hb⟩ := info_parts h2;subst hsz;have hrun := run_append_room_cells (P := P) (w := w) t o.type e i h1 hi b off sLen sCap ad m c news hl hnews h1c hroom hc hf;unfold Oper.wpIn;refine ⟨?_, ?_⟩
 · simp [Oper.about, hop, resolve, Target.leads, Sem.run_pure]
 · rw [Oper.semAt_plain F _ _ (by rw [hop]; intro c hc'; cases hc')];simp [execOp, hop, resolve, invoke, builtin, hs, hx, hrun, Result.andThen];exact hK' _ _ hK
theorem wpList_app {P : Program} {w : World} {ops : Array Oper} {rest : List Oper} {o : Oper} {a : Act} {Q : Exit -> Act -> World -> Prop}
 (hg : o.guard = none) (s x : Operand) (t : TypeId) (hop : o.op = Op.call { callee := Callee.builtin Builtin.append, args := #[s, x], argTypes := #[t, t] })
 (e : TypeId) (z : Value) (size bytes : Nat) (h1 : P.underlying t = some (.slice e)) (h2 : (P.info? e).map (fun i => (i.zero, i.size, i.bytes)) = some (some z, size, bytes))
 (b off sLen sCap : Nat) (ad : Addr) (m c : Nat) (news : List Value) (hs : a.eval s = .slice (some ⟨b, off, none⟩) sLen sCap) (hx : a.eval x = .slice (some ad) m c)
 (hl : news.length = m * size) (hnews : ∀ j u, news[j]? = some u -> w.cell? (ad.add j) = some u) (h1c : ∀ u ∈ news, u.oneCell' = true) (hroom : sLen + m <= sCap)
 (hc : ∀ j, j < news.length -> (w.cell? ⟨b, off + sLen * size + j, none⟩).isSome = true) (hf : ∀ j, j < news.length -> w.frozen? ⟨b, off + sLen * size + j, none⟩ = false)
 (hK : wpList P ops Q rest (a.put o.dst (.slice (some ⟨b, off, none⟩) (sLen + m) sCap)) (w.setCells b (off + sLen * size) news)) :
 wpList P ops Q (o :: rest) a w := by
 refine wpList_plain hg fun K hK' => ?_;obtain ⟨i, hi, hz, hsz, hb⟩ := info_parts h2;subst hsz;have hrun := run_append_room_cells (P := P) (w := w) t o.type e i h1 hi b off sLen sCap ad m c news hl hnews h1c hroom hc hf;simp [Oper.wp, Oper.about, hop, resolve, Target.leads, Sem.run_pure, execOp, invoke, builtin, hs, hx, hrun, Result.andThen];exact hK' _ _ hK
theorem made_hdrs (n : Nat) : (madeCells (Value.slice none 0 0).cells (n * 1)).toList = List.replicate n (.slice none 0 0) := by
 rw [madeCells_one _ rfl]
theorem mk_rows {w : World} {ops : Array Oper} {rest : List Oper} {o : Oper} {a : Act} {Q : Exit -> Act -> World -> Prop}
 (hg : o.guard = none) (l c : Operand) (hop : o.op = Op.makeSlice 46 l c)
 {kl kc : IntKind} {L C : Int} (n m : Nat) (hl : a.eval l = .int kl L) (hc : a.eval c = .int kc C) (hL : L = (n : Int)) (hC : C = (m : Int)) (hnm : n <= m) (b2 : m <= 1000000)
 (hK : ∀ b w', Made w w' b 22 (List.replicate m (.slice none 0 0)) -> wpList Tryz.prog ops Q rest (a.put o.dst (.slice (some ⟨b, 0, none⟩) n m)) w') :
 wpList Tryz.prog ops Q (o :: rest) a w :=
 wpList_make_row hg l c 46 hop 22 (.slice none 0 0) 1 24 Tryz.underlying46 info_row n m hl hc hL hC hnm (by omega) (by unfold maxLen; omega)
  (fun b w' h => hK b w' (by rw [made_hdrs] at h; exact h))
set_option maxRecDepth 100000 in
set_option maxHeartbeats 4000000 in
theorem lines_e (r c : Nat) (ao : Option Addr) (len cap : Nat) (xs : List Int) (w : World) (hr : r <= 64) (hc : c <= 64) (h : LsAt w 17592186044415 ao xs) (hL : ∀ x ∈ xs, wlen x.natAbs <= 17592186044415) (hl : len = xs.length) (hs : xs.length = r * c) :
 CallsIn Fence.wide 6 Tryz.prog 16 #[.agg #[.int .i64 (r : Int), .int .i64 (c : Int), .slice ao len cap]] w fun e w' => (∃ o R, e = .returned (.slice (some ⟨o, 0, none⟩) R.length r) /\ MatN w' o R /\ R.length = r /\ (∀ k (h : k < R.length), R[k].xs = rowOf xs c k) /\ w.heap.size <= o /\ (∀ x ∈ R, w.heap.size <= x.blk) /\ RowAt w' o 22 (R.map Hd.hdr) /\ ∀ k (h : k < R.length), R[k].cap = c) /\ Below w.heap.size w w' := by
 subst hl;have HX := Lib.hid h; clear h;have HS := Lib.hid hs; clear hs;refine callsIn_of_wp_marks Tryz.func16 rfl trivial ?_ rfl;simp only [Tryz.ntmps16, List.size_toArray, List.length_cons, List.length_nil, Nat.reduceAdd, Nat.reduceSub, Array.replicate_succ, Array.replicate_zero, List.push_toArray, List.append_toArray, List.nil_append, List.cons_append];refine wpIn_wide.2 ?_;have hb0 : Below w.heap.size w (w.alloc (.cells #[.int .i64 (r : Int), .int .i64 (c : Int), .slice ao xs.length cap] 24)) := (Below.refl _ _).alloc (Nat.le_refl _) _;have hr0 := RowAt.new w #[.int .i64 (r : Int), .int .i64 (c : Int), .slice ao xs.length cap] 24;have HB0 := Lib.hid hb0; clear hb0;have HR0 := Lib.hid hr0; clear hr0;go_wp2_with (at_make; refine mk_rows rfl _ _ rfl 0 r rfl rfl rfl rfl (Nat.zero_le _) (by omega) ?_; intro o w1 hm1; have hr1 := (HR0.out.below hm1.below HR0.out.lt).alloc (.cells #[.slice (some ⟨o, 0, none⟩) 0 r] 46); have c0 := hr1.cell 0; have c1 := hr1.cell 1; have c2 := hr1.cell 2; have hm := Lib.hid hm1; clear hm1 hr1; simp only [List.getElem?_cons_zero, List.getElem?_cons_succ] at c0 c1 c2)
 have hr2 := hm.out.row.alloc (.cells #[.slice (some ⟨o, 0, none⟩) 0 r] 46);have hr3 := RowAt.new w1 #[.slice (some ⟨o, 0, none⟩) 0 r] 46;have hb2 : Below w.heap.size w (w1.alloc (.cells #[.slice (some ⟨o, 0, none⟩) 0 r] 46)) := (HB0.out.trans (hm.out.below.mono HB0.out.size)).alloc (by have := HB0.out.size; have := hm.out.below.size; omega) _;have hg1 : w.heap.size < w1.heap.size := Nat.lt_of_lt_of_le HR0.out.lt hm.out.below.size;have ho1 : w.heap.size < o /\ o < w1.heap.size := by
  have h1 := hm.out.at_;have h2 := HR0.out.lt;have h3 := hm.out.size;omega
 generalize hw2 : w1.alloc (.cells #[.slice (some ⟨o, 0, none⟩) 0 r] 46) = w2 at *;have hs2 : w2.heap.size = w1.heap.size + 1 := by rw [<- hw2]; simp
 have HR2 := Lib.hid hr2; clear hr2;have HR3 := Lib.hid hr3; clear hr3;have HB2 := Lib.hid hb2; clear hb2;clear hm hw2 HB0 HR0 c0 c1 c2;have hsnd : soundM (r : Int) (c : Int) xs.length = true := by
  unfold soundM sideOk;rw [HS.out];simp; omega
 refine (MLines_c (r : Int) (c : Int) ao xs.length cap xs w2 (by omega) (by omega) (HX.out.below HB2.out) rfl hsnd (by rw [HS.out]; have := Nat.mul_le_mul hr hc; omega)).mono ?_;rintro e w3 ⟨⟨g, b, rfl, hg, hb, hRg, hRb⟩, hb3⟩;have hs3 := hb3.size;have HG := Lib.hid hRg; clear hRg;have HRB := Lib.hid hRb; clear hRb;have HR2' := Lib.hid (HR2.out.below hb3 HR2.out.lt);have HR3' := Lib.hid (HR3.out.below hb3 HR3.out.lt);have HB3 : Hid (Below w.heap.size w w3) := Lib.hid (HB2.out.trans (hb3.mono HB2.out.size));clear hb3 HR2 HR3 HB2;go_wp2_with fail
 refine (wpIn_wide (n := 6)).1 ?_;have hne : w1.heap.size ≠ o := by omega
 have hI0 : LinesI w3 w3.heap.size w1.heap.size o r [] w3 := ⟨HR3'.out, by simpa [hdrsTo] using HR2'.out, fun z hz => by simp at hz, by simp, Chg.refl _ _⟩;have HI0 := Lib.hid hI0; clear hI0;refine range_hand (S := fun k => k = w1.heap.size ∨ k = o) (N := r) (Sx := HandS r c xs) (E := HandE w3.heap.size) (I := LinesI w3 w3.heap.size w1.heap.size o r) (gf := 54) (lb := #[.pointer (some ⟨g, 0, none⟩)]) (encs := NR.enc) rfl (enters_of Tryz.func54 (by kernel_rfl) rfl) (fun _ => rfl) ?hE ?hIl ?hIb HI0.out
  (fun x => { tmps := #[.agg #[.int .i64 (r : Int), .int .i64 (c : Int), .slice ao xs.length cap], .pointer (some ⟨w.heap.size, 0, none⟩), .slice none 0 0, .pointer (some ⟨w1.heap.size, 0, none⟩), undef, .slice (some ⟨x.2.blk, 0, none⟩) x.2.xs.length x.2.cap, .pointer (some ⟨w.heap.size, 0, none⟩), .int .i64 (r : Int), .slice (some ⟨o, 0, none⟩) 0 r, .agg #[.int .i64 (r : Int), .int .i64 (c : Int), .slice ao xs.length cap], .func (.func 54) #[] #[.pointer (some ⟨g, 0, none⟩)], .int .i64 (x.1 : Int), .slice (some ⟨x.2.blk, 0, none⟩) x.2.xs.length x.2.cap, undef, undef, undef, undef, undef], defers := [] })
  ?hseq ?assign ?body ?done
 case hE =>
  intro s x W l o1 o2 h hl ho hn;exact ⟨rowN_putObj ho hn h.1, h.2⟩
 case hIl =>
  intro s W l o1 o2 h hl ho hn;exact ⟨row_putObj ho hn h.box, row_putObj ho hn h.row, fun z hz => ⟨rowN_putObj ho hn (h.nums z hz).1, (h.nums z hz).2⟩, h.nd, ⟨h.chg.os, h.chg.tape, h.chg.output, by have := h.chg.size; simpa using this, fun k hk hs => (World.putObj_heap_other (by omega)).trans (h.chg.block k hk hs)⟩⟩
 case hIb =>
  intro s A B h hb;exact ⟨h.box.below hb h.box.lt, h.row.below hb h.row.lt, fun z hz => ⟨(h.nums z hz).1.below hb, (h.nums z hz).2⟩, h.nd, h.chg.below hb⟩
 case hseq =>
  intro l J W hW hJ hY hJ0;refine (Lines1_hand 5 g b r c xs w3 (fun k => k = w1.heap.size ∨ k = o) ?_ HG.out (by omega) HRB.out (by omega) HS.out (by omega) (by omega) hL l J W hW hJ hY hJ0 (by omega));rintro q (rfl | rfl)
  · exact ⟨_, _, HR3'.out, NoW.slice NoW.nil⟩
  · exact ⟨_, _, HR2'.out, fun v hv n => by simp at hv; simp [hv.2]⟩
 case assign =>
  intro l x W K hK;simp only [NR.enc]
  gi_wp2
  exact hK
 case body =>
  rintro l pre x W hI hE hlen;have hoW := hI.row.lt;have hbW := hI.box.lt;have hlenR : (hdrsTo r pre).length = r := by simp [hdrsTo]; omega
  have hA : ∀ X : Obj, RowAt (W.alloc X) o 22 (hdrsTo r pre) := fun X => hI.row.alloc X;have hAb : ∀ X : Obj, RowAt (W.alloc X) w1.heap.size 46 [.slice (some ⟨o, 0, none⟩) pre.length r] := fun X => hI.box.alloc X;have c0 : W.cell? ⟨w1.heap.size, 0, none⟩ = some (.slice (some ⟨o, 0, none⟩) pre.length r) := hI.box.cell 0;have f0 : W.frozen? ⟨w1.heap.size, 0, none⟩ = false := hI.box.free 0;have HI := Lib.hid hI; clear hI;have HE := Lib.hid hE; clear hE
  gi_wp2_with (gi_at_builtin; refine wpListIn_app rfl _ _ 46 rfl 22 (.slice none 0 0) 1 24 Tryz.underlying46 info_row o 0 pre.length r ⟨W.heap.size, 0, none⟩ 1 1 [x.2.hdr] rfl rfl rfl (cell_one_new _ _ _) (by simp [Value.oneCell', Hd.hdr]) (by omega) (fun j hj => by simp at hj; subst hj; rw [(hA _).cell]; simp [hlenR, hlen]) (fun j hj => by simp at hj; subst hj; exact (hA _).free _) ?_; simp only [Nat.zero_add, Nat.mul_one, World.setCells]; have hrW := (hA (.cells #[x.2.hdr] 22)).set pre.length x.2.hdr; have hrB := (hAb (.cells #[x.2.hdr] 22)).other (p := ⟨o, pre.length, none⟩) hne x.2.hdr; skip)
  have hI := HI.out;have hE := HE.out;have hsw := hI.chg.size;have hrW' := hI.row.set pre.length x.2.hdr;have hrB' := hI.box.other (p := ⟨o, pre.length, none⟩) hne x.2.hdr;have hNo : NoW (hdrsTo r pre) := fun v hv n => by
   simp only [hdrsTo, List.mem_append, List.mem_map, List.mem_replicate] at hv;rcases hv with ⟨z, _, rfl⟩ | ⟨_, rfl⟩ <;> simp [Hd.hdr]
  obtain ⟨Wf, hWf⟩ : ∃ Wf, (W.setCell ⟨o, pre.length, none⟩ x.2.hdr).setCell ⟨w1.heap.size, 0, none⟩ (.slice (some ⟨o, 0, none⟩) (pre.length + 1) r) = Wf := ⟨_, rfl⟩;rw [hWf];have hsf : Wf.heap.size = W.heap.size := by rw [<- hWf]; simp
  have hbl : Below Wf.heap.size Wf (Wf.alloc (.cells #[.slice (some ⟨x.2.blk, 0, none⟩) x.2.xs.length x.2.cap] 22)) := (Below.refl _ _).alloc (Nat.le_refl _) _;have hnum : ∀ y : NR, RowN W y.2.blk y.2.xs -> RowN Wf y.2.blk y.2.xs := by
   intro y hy;rw [<- hWf];exact (hy.setFar hI.row (by decide) hNo pre.length x.2.hdr).setFar hrB' (by decide) (NoW.slice NoW.nil) 0 _
  refine ⟨?_, ?_, ?_⟩
  · rw [<- hWf]; exact ((KeepsOthers.setCell _ _ _).trans (KeepsOthers.setCell _ _ _)).trans (KeepsOthers.alloc _ _)
  · refine KeepS.trans (b := Wf) ?_ (KeepS.of_below (hbl.mono (by omega)));rw [<- hWf];refine ⟨rfl, rfl, rfl, by simp, fun k hk hs => ?_⟩;exact (Below.heap_setCell _ _ _ _ (fun e => hs (.inl e))).trans (Below.heap_setCell _ _ _ _ (fun e => hs (.inr e)))
  · have hbx : RowAt Wf w1.heap.size 46 [.slice (some ⟨o, 0, none⟩) (pre.length + 1) r] := by
     rw [<- hWf]; exact hrB'.set 0 (.slice (some ⟨o, 0, none⟩) (pre.length + 1) r)
    have hrw : RowAt Wf o 22 (hdrsTo r (pre ++ [x])) := by
     have h1 := hrW'.other (p := ⟨w1.heap.size, 0, none⟩) (fun e => hne e.symm) (.slice (some ⟨o, 0, none⟩) (pre.length + 1) r);have e : (hdrsTo r pre).set pre.length x.2.hdr = hdrsTo r (pre ++ [x]) := by
      unfold hdrsTo;obtain ⟨q, hq⟩ : ∃ q, r - pre.length = q + 1 := ⟨r - pre.length - 1, by omega⟩;have hq2 : r - (pre ++ [x]).length = q := by simp; omega
      rw [hq, hq2, List.replicate_succ, List.set_append_right _ _ (by simp)];simp
     rw [<- e, <- hWf]; exact h1
    refine ⟨?_, hrw.below hbl hrw.lt, ?_, ?_, ?_⟩
    · have := hbx.below hbl hbx.lt;simpa using this
    · intro z hz;rcases List.mem_append.1 hz with hz | hz
      · exact ⟨(hnum z (hI.nums z hz).1).below hbl, (hI.nums z hz).2⟩
      · simp only [List.mem_singleton] at hz; subst hz;exact ⟨(hnum z hE.1).below hbl, hE.2.1⟩
    · rw [List.map_append, List.nodup_append];refine ⟨hI.nd, by simp, fun u hu v hv => ?_⟩;simp only [List.map_cons, List.map_nil, List.mem_singleton] at hv;obtain ⟨y, hy, rfl⟩ := List.mem_map.1 hu;subst hv;exact hE.2.2 y hy
    · refine Chg.below ?_ hbl;rw [<- hWf];exact (hI.chg.set (p := ⟨o, pre.length, none⟩) (.inr rfl) _).set (p := ⟨w1.heap.size, 0, none⟩) (.inl rfl) _
 case done =>
  rintro D zs W hD hS hI hK;have hl : zs.length = r := hS.1;have c0 : W.cell? ⟨w1.heap.size, 0, none⟩ = some (.slice (some ⟨o, 0, none⟩) zs.length r) := hI.box.cell 0;have HI := Lib.hid hI; clear hI;simp only [Exit.inBlock];go_wp2;refine ⟨by simp, .inl ⟨_, _, rfl, run_takeDeferred hK, ?_⟩⟩;refine ⟨_, results_tmp rfl _ _ _, ?_⟩;have hI := HI.out;have hS2 := hS.2;have hrow : RowAt W o 22 (zs.map (fun z => z.2.hdr)) := by
   have := hI.row;unfold hdrsTo at this;rw [hl, Nat.sub_self] at this;simpa using this
  refine ⟨⟨o, zs.map (fun z => z.2), ?_, ⟨?_, ?_, ?_⟩, by simp [hl], ?_, by omega, ?_, by rw [List.map_map]; exact row_putObj hK rfl hrow, fun k hk => by rw [List.getElem_map, hS2 k (by simpa using hk)]⟩, ?_⟩
  · simp [hl]
  · rw [List.map_map]; exact (row_putObj hK rfl hrow).pre
  · intro h hh;obtain ⟨z, hz, rfl⟩ := List.mem_map.1 hh;exact rowN_putObj hK rfl (hI.nums z hz).1
  · rw [List.map_map]; exact hI.nd
  · intro k hk;have hk' : k < zs.length := by simpa using hk
    have := hS2 k hk';rw [List.getElem_map, this]
  · intro x hx;obtain ⟨z, hz, rfl⟩ := List.mem_map.1 hx;have := (hI.nums z hz).2;have := HB3.out.size;omega
  · refine HB3.out.trans ?_;refine (hI.chg.to_below (B := w.heap.size) ?_ HB3.out.size).trans ⟨rfl, rfl, rfl, by simp, fun k hk => World.putObj_heap_other (by have := HB3.out.size; omega)⟩;rintro k (rfl | rfl) <;> omega
theorem lines_c (r c : Nat) (ao : Option Addr) (len cap : Nat) (xs : List Int) (w : World) (hr : r <= 64) (hc : c <= 64) (h : LsAt w 17592186044415 ao xs) (hL : ∀ x ∈ xs, wlen x.natAbs <= 17592186044415) (hl : len = xs.length) (hs : xs.length = r * c) :
 CallsIn Fence.wide 6 Tryz.prog 16 #[.agg #[.int .i64 (r : Int), .int .i64 (c : Int), .slice ao len cap]] w fun e w' => (∃ o R, e = .returned (.slice (some ⟨o, 0, none⟩) R.length r) /\ MatN w' o R /\ R.length = r /\ (∀ k (h : k < R.length), R[k].xs = rowOf xs c k) /\ w.heap.size <= o /\ (∀ x ∈ R, w.heap.size <= x.blk)) /\ Below w.heap.size w w' :=
 (lines_e r c ao len cap xs w hr hc h hL hl hs).mono (fun e w' ⟨⟨o, R, h1, h2, h3, h4, h5, h6, _⟩, hb⟩ => ⟨⟨o, R, h1, h2, h3, h4, h5, h6⟩, hb⟩)
def DAt (w : World) (ao : Option Addr) (ds : List Nat) : Prop :=
 0 < ds.length -> ∃ b o, ao = some ⟨b, o, none⟩ /\ b < w.heap.size /\ ∀ i, i < ds.length -> w.cell? ⟨b, o + i, none⟩ = some (.int .i64 ((gw ds i : Nat) : Int))
theorem DAt.below {w w' : World} {ao : Option Addr} {ds : List Nat} (h : DAt w ao ds) (hb : Below w.heap.size w w') : DAt w' ao ds := by
 intro hl;obtain ⟨b, o, e, hlt, hc⟩ := h hl;exact ⟨b, o, e, Nat.lt_of_lt_of_le hlt hb.size, fun i hi => (hb.cell (p := ⟨b, o + i, none⟩) hlt).trans (hc i hi)⟩
theorem gw_tk {l : List Nat} {k i : Nat} (h : i < k) : gw (l.take k) i = gw l i := by
 unfold gw; rw [List.getD_eq_getElem?_getD, List.getElem?_take_of_lt h, <- List.getD_eq_getElem?_getD]
theorem DAt.take {w : World} {ao : Option Addr} {ds : List Nat} (h : DAt w ao ds) (k : Nat) : DAt w ao (ds.take k) := by
 intro hl;have h1 : (ds.take k).length <= ds.length := by simp; omega
 have h2 : (ds.take k).length <= k := by simp; omega
 obtain ⟨b, o, e, hlt, hc⟩ := h (by omega);exact ⟨b, o, e, hlt, fun i hi => by rw [gw_tk (by omega)]; exact hc i (by omega)⟩
theorem DAt.row {w : World} {b : Nat} {ds : List Nat} {r : List Value} (h : RowAt w b 3 (ds.map iv ++ r)) : DAt w (some ⟨b, 0, none⟩) ds := by
 intro _;refine ⟨b, 0, rfl, h.lt, fun i hi => ?_⟩;rw [Nat.zero_add, h.cell, List.getElem?_append_left (by simpa using hi)];simp [iv, gw, hi]
set_option maxHeartbeats 1000000 in
theorem RTrim_c (ao : Option Addr) (len cap : Nat) (ds : List Nat) (w : World) (hA : DAt w ao ds) (hl : len = ds.length) (hcap : len <= cap) (hm : cap <= 70368744177664) :
 Calls Tryz.prog 65 #[.slice ao len cap] w fun e w' => e = .returned (.slice ao (tlen ds) cap) /\ w = w' := by
 subst hl;have htl := tlen_le ds;have HA := Lib.hid hA; clear hA;go_enter Tryz.func65, Tryz.ntmps65;go_wp2
 go_loop [3] (fun i => ∃ k : Nat, k <= ds.length /\ tlen ds <= k /\ i = .int .i64 k) (fun i => (intOf i).toNat)
 case atStart => exact ⟨ds.length, by omega, by omega, rfl⟩
 case round =>
  obtain ⟨k, hk, ht, rfl⟩ := hrel;by_cases h0 : 0 < k
  · obtain ⟨b, o, rfl, hb, hc⟩ := HA.out (by omega);have hcell := hc (k - 1) (by omega);by_cases hz : gw ds (k - 1) = 0
    · have hzb : (((gw ds (k - 1) : Nat) : Int) == 0) = true := by rw [hz]; rfl
      have Hz := Lib.hid hz; clear hz hc;go_wp2
      go_round
      case rel => exact ⟨k - 1, by omega, tlen_of_zeros ds (k - 1) (fun j hj => by
       by_cases hj' : j = k - 1
       · rw [hj']; exact Hz.out
       · exact zero_of_tlen ds j (by omega)), by go_num⟩
      case measure => simp [intOf]; omega
    · have hzb : (((gw ds (k - 1) : Nat) : Int) == 0) = false := by rw [beq_eq_false_iff_ne]; omega
      have h1 := lt_tlen ds (k - 1) hz;clear hc hz;have hke : k = tlen ds := by omega
      subst hke;go_wp2;go_ret;exact ⟨rfl, rfl⟩
  · have hke : k = tlen ds := by omega
    subst hke;go_wp2;go_ret;exact ⟨rfl, rfl⟩
theorem run_rem (ρ : Operand -> Value) (o : Oper) (p q : Operand) {w : World} (ho : o.op = .binOp .rem 41 p q 41) (x y : Nat) (hx : x < W) (hy : y ≠ 0) (hp : ρ p = .int .u64 (x : Int)) (hq : ρ q = .int .u64 (y : Int)) :
 (execOp ρ o).run Tryz.prog w = .ok (.value (.int .u64 ((remW x y : Nat) : Int))) w := by
 obtain ⟨dst, op, type, pos, after, guard⟩ := o;simp only at ho; subst ho;simp [go_sem, hp, hq, IntKind.wrap_u64, remW, hy];have h1 := Nat.mod_le x y;unfold W at hx;have e1 := Int.ofNat_tmod x y;have e2 := Int.natCast_emod x y;generalize x % y = z at *;generalize (x : Int).tmod (y : Int) = u at *;generalize (x : Int) % (y : Int) = v at *;omega
theorem op_rem {w : World} {ops : Array Oper} {rest : List Oper} {o : Oper} {a : Act} {Q : Exit -> Act -> World -> Prop} (hg : o.guard = none) (p q : Operand) (ho : o.op = .binOp .rem 41 p q 41) {X Y : Int} (x y : Nat) (hx : x < W) (hy : y ≠ 0)
 (hp : a.eval p = .int .u64 X) (hq : a.eval q = .int .u64 Y) (hX : X = (x : Int)) (hY : Y = (y : Int))
 (h : wpList Tryz.prog ops Q rest (a.put o.dst (.int .u64 ((remW x y : Nat) : Int))) w) : wpList Tryz.prog ops Q (o :: rest) a w := by
 subst hX hY;exact op_of_run hg (run_rem _ _ p q ho x y hx hy hp hq) h
theorem run_toI (ρ : Operand -> Value) (o : Oper) (p : Operand) {w : World} (ho : o.op = .convert 41 3 p) (x : Nat) (hx : x < 9223372036854775808) (hp : ρ p = .int .u64 (x : Int)) :
 (execOp ρ o).run Tryz.prog w = .ok (.value (.int .i64 (x : Int))) w := by
 obtain ⟨dst, op, type, pos, after, guard⟩ := o;simp only at ho; subst ho;simp [go_sem, hp];exact wrap_small (by omega) (by omega)
theorem run_toU (ρ : Operand -> Value) (o : Oper) (p : Operand) {w : World} (ho : o.op = .convert 3 41 p) (x : Nat) (hx : x < W) (hp : ρ p = .int .i64 (x : Int)) :
 (execOp ρ o).run Tryz.prog w = .ok (.value (.int .u64 (x : Int))) w := by
 obtain ⟨dst, op, type, pos, after, guard⟩ := o;simp only at ho; subst ho;simp [go_sem, hp];rw [IntKind.wrap_u64]; unfold W at hx; omega
structure RowI (w : World) (b N : Nat) (D : List Nat) (W' : World) : Prop where
 row : RowAt W' b 3 (D.map iv ++ List.replicate (N - D.length) (iv 0))
 bel : Below w.heap.size w W'
 ge : w.heap.size <= b
theorem RowI.spare {w : World} {b N n : Nat} {D : List Nat} {W' : World} (h : RowI w b N D W') (hn : D.length = n) (hN : n + 1 <= N) (X : Obj) : (∀ j, j < 1 -> ((W'.alloc X).cell? ⟨b, 0 + n * 1 + j, none⟩).isSome = true) /\ (∀ j, j < 1 -> (W'.alloc X).frozen? ⟨b, 0 + n * 1 + j, none⟩ = false) := by
 have hr := h.row.alloc X;refine ⟨fun j hj => ?_, fun j _ => hr.free _⟩;rw [hr.cell];have : 0 + n * 1 + j < (D.map iv ++ List.replicate (N - D.length) (iv 0)).length := by simp; omega
 simp only [List.getElem?_eq_getElem this]; rfl
theorem RowI.app {w : World} {b N n : Nat} {D : List Nat} {W' : World} (h : RowI w b N D W') (hn : D.length = n) (hN : n + 1 <= N) (x : Nat) (W2 : World)
 (e : (W'.alloc (.cells #[.int .i64 (x : Int)] 3)).setCells b n [.int .i64 (x : Int)] = W2) : RowI w b N (D ++ [x]) W2 := by
 subst hn;have hb1 : Below W'.heap.size W' (W'.alloc (.cells #[.int .i64 (x : Int)] 3)) := (Below.refl _ _).alloc (Nat.le_refl _) _;have h2 := (h.row.alloc (.cells #[.int .i64 (x : Int)] 3)).set D.length (.int .i64 (x : Int));have e2 : (W'.alloc (.cells #[.int .i64 (x : Int)] 3)).setCell ⟨b, D.length, none⟩ (.int .i64 (x : Int)) = W2 := by rw [<- e]; rfl
 rw [e2] at h2;refine ⟨?_, ?_, h.ge⟩
 · have e3 : (D.map iv ++ List.replicate (N - D.length) (iv 0)).set D.length (.int .i64 (x : Int)) = (D ++ [x]).map iv ++ List.replicate (N - (D ++ [x]).length) (iv 0) := by
    obtain ⟨q, hq⟩ : ∃ q, N - D.length = q + 1 := ⟨N - D.length - 1, by omega⟩;have hq2 : N - (D ++ [x]).length = q := by simp; omega
    rw [hq, hq2, List.replicate_succ, List.set_append_right _ _ (by simp)];simp [iv]
   rw [<- e3]; exact h2
 · rw [<- e2]; exact (h.bel.trans (hb1.mono h.bel.size)).setCell (p := ⟨b, D.length, none⟩) h.ge _
set_option maxRecDepth 100000 in
set_option maxHeartbeats 4000000 in
theorem RSplit_c (ao : Option Addr) (len cap : Nat) (ws : List Nat) (w : World) (hA : WAt w ao ws) (hl : len = ws.length) (hm : len <= 8796093022208) :
 Calls Tryz.prog 47 #[.slice ao len cap] w fun e w' => (∃ b ds, e = .returned (.slice (some ⟨b, 0, none⟩) ds.length (4 * len)) /\ w.heap.size <= b /\ Hex (nval ws) ds /\ DAt w' (some ⟨b, 0, none⟩) ds /\ ds.length <= 4 * len /\ b < w'.heap.size) /\ Below w.heap.size w w' := by
 subst hl;have HA := Lib.hid hA; clear hA;have hw4 : IntKind.i64.wrap (4 * (ws.length : Int)) = ((4 * ws.length : Nat) : Int) := by rw [wrap_small] <;> omega
 go_enter Tryz.func47, Tryz.ntmps47;go_wp2_with (at_make; refine mk_ints rfl _ _ rfl 0 (4 * ws.length) rfl rfl rfl (by omega) (Nat.zero_le _) (by omega) ?_; intro b w1 hm1)
 have hI : RowI w b (4 * ws.length) [] w1 := ⟨by have := hm1.row; rw [List.map_replicate] at this; simpa using this, hm1.below, by have := hm1.at_; omega⟩;have HI := Lib.hid hI; clear hI hm1;clear hw4;go_loopw [3, 4] (fun d_ i_ wr => ∃ (i : Nat), i <= ws.length /\ i_ = .int .i64 (i : Int) /\ d_ = .slice (some ⟨b, 0, none⟩) (4 * i) (4 * ws.length) /\ Hid (RowI w b (4 * ws.length) (spl (ws.take i)) wr)) (fun _ i_ _ => ws.length - (intOf i_).toNat)
 case atStart => exact ⟨0, Nat.zero_le _, rfl, rfl, Lib.hid (by simpa [spl] using HI.out)⟩
 case round =>
  obtain ⟨i, hi, rfl, rfl, hIr⟩ := hrel;by_cases hin : i < ws.length
  · have hin1 : (i : Int) < (ws.length : Int) := by omega
    obtain ⟨ab, aoff, rfl, hab, hc⟩ := (HA.out.below hIr.out.bel).pos (by omega);have hcell := hc i hin;have hgwW := HA.out.ok.gw i;obtain ⟨x, hx⟩ : ∃ x, gw ws i = x := ⟨_, rfl⟩;rw [hx] at hcell hgwW;have Hx := Lib.hid hx; clear hx hc;go_wp2;go_loopw [3, 5, 6] (fun d_ x_ k_ wq => ∃ (k : Nat), k <= 4 /\ k_ = .int .i64 (k : Int) /\ x_ = .int .u64 ((x / HX ^ k : Nat) : Int) /\ d_ = .slice (some ⟨b, 0, none⟩) (4 * i + k) (4 * ws.length) /\ Hid (RowI w b (4 * ws.length) (spl (ws.take i) ++ (sp4 x).take k) wq)) (fun _ _ k_ _ => 4 - (intOf k_).toNat)
    case atStart => exact ⟨0, by omega, rfl, by simp, rfl, Lib.hid (by simpa using hIr.out)⟩
    case round =>
     obtain ⟨k, hk, rfl, rfl, rfl, hIq⟩ := hrel;by_cases hk4 : k < 4
     · have hk41 : (k : Int) < 4 := by omega
       obtain ⟨y, hy⟩ : ∃ y, x / HX ^ k = y := ⟨_, rfl⟩;have hyW : y < W := by rw [<- hy]; exact Nat.lt_of_le_of_lt (Nat.div_le_self ..) hgwW
       have hlen : (spl (ws.take i) ++ (sp4 x).take k).length = 4 * i + k := by
        rw [List.length_append, spl_length, List.length_take, List.length_take, sp4_length, Nat.min_eq_left (by omega), Nat.min_eq_left (by omega)]
       have hroom : 4 * i + k + 1 <= 4 * ws.length := by omega
       have hnext : spl (ws.take i) ++ (sp4 x).take (k + 1) = (spl (ws.take i) ++ (sp4 x).take k) ++ [y % HX] := by
        have hd : (sp4 x).take (k + 1) = (sp4 x).take k ++ [y % HX] := by
         rw [<- hy];match k, hk4 with
         | 0, _ => simp [sp4]
         | 1, _ => simp [sp4, HX]
         | 2, _ => simp [sp4, HX, Nat.div_div_eq_div_mul]
         | 3, _ => simp [sp4, HX, Nat.div_div_eq_div_mul]
        rw [hd, List.append_assoc]
       have hdiv : x / HX ^ (k + 1) = y / HX := by rw [<- hy, Nat.div_div_eq_div_mul, Nat.pow_succ]
       rw [hy];generalize spl (ws.take i) ++ (sp4 x).take k = D at *;have HN := Lib.hid (And.intro hnext hdiv); clear hnext hdiv hy;have hsp := fun X => hIq.out.spare hlen hroom X;have hr1 : remW y 65536 < 9223372036854775808 := Nat.lt_of_lt_of_le (Nat.mod_lt _ (by omega)) (by omega);go_wp2_with (first
        | (with_reducible show wpList _ _ _ (⟨some 27, _, _, _, _, _⟩ :: _) _ _; refine op_rem rfl _ _ rfl y 65536 hyW (by omega) rfl rfl rfl rfl ?_)
        | (with_reducible show wpList _ _ _ (⟨some 28, _, _, _, _, _⟩ :: _) _ _; refine op_of_run rfl (run_toI _ _ _ rfl (remW y 65536) hr1 rfl) ?_)
        | (with_reducible show wpList _ _ _ (⟨some 32, _, _, _, _, _⟩ :: _) _ _; refine op_quo rfl _ _ rfl y 65536 hyW (by omega) rfl rfl rfl rfl ?_)
        | (at_builtin; refine wpList_app rfl _ _ 30 rfl 3 (.int .i64 0) 1 8 Tryz.underlying30 info_int b 0 (4 * i + k) (4 * ws.length) ⟨wr.heap.size, 0, none⟩ 1 1 [.int .i64 ((remW y 65536 : Nat) : Int)] rfl rfl rfl (cell_one_new _ _ _) (by simp [Value.oneCell']) hroom (hsp _).1 (hsp _).2 ?_; obtain ⟨w7, hw7⟩ : ∃ w7, (wr.alloc (.cells #[.int .i64 ((remW y 65536 : Nat) : Int)] 3)).setCells b (4 * i + k) [.int .i64 ((remW y 65536 : Nat) : Int)] = w7 := ⟨_, rfl⟩; have hI7 := hIq.out.app hlen hroom (remW y 65536) w7 hw7; simp only [Nat.zero_add, Nat.mul_one]; rw [hw7]; have HI7 := Lib.hid hI7; clear hI7 hw7))
       go_roundw
       case rel =>
        refine ⟨k + 1, by omega, by go_num, ?_, by go_num, Lib.hid ?_⟩
        · rw [HN.out.2]; rfl
        · rw [HN.out.1]; exact HI7.out
       case measure => simp [intOf]; omega
     · obtain rfl : k = 4 := by omega
       go_wp2;go_roundw
       case rel =>
        have h9 := hIq.out;refine ⟨i + 1, by omega, by go_num, by go_num, Lib.hid ?_⟩;have e : spl (ws.take (i + 1)) = spl (ws.take i) ++ sp4 x := by
         rw [List.take_succ_eq_append_getElem hin];have : ws[i] = x := by rw [<- Hx.out]; simp [gw, hin]
         simp [spl, this]
        rw [e]; exact h9
       case measure => simp [intOf]; omega
  · obtain rfl : i = ws.length := by omega
    have hIe := hIr.out;rw [List.take_length] at hIe;have hval := spl_val HA.out.ok;have hlen := spl_length ws;have hH := Hex.of (spl_ok ws);rw [hval] at hH;have htl := tlen_le (spl ws);have HH := Lib.hid (And.intro hH (And.intro hlen htl));have hD : DAt wr (some ⟨b, 0, none⟩) (spl ws) := DAt.row hIe.row;have ht := RTrim_c (some ⟨b, 0, none⟩) (4 * ws.length) (4 * ws.length) (spl ws) wr hD hlen.symm (Nat.le_refl _) (by omega);have HT := Lib.hid ht;have HD := Lib.hid hD;clear hH hval hlen htl ht hD hIe;go_wp2_with fail
    refine HT.out.mono ?_;rintro e w9 ⟨rfl, rfl⟩;go_wp2;go_ret;have hl2 : ((spl ws).take (tlen (spl ws))).length = tlen (spl ws) := by rw [List.length_take, Nat.min_eq_left HH.out.2.2]
    refine ⟨⟨b, (spl ws).take (tlen (spl ws)), ?_, hIr.out.ge, HH.out.1, HD.out.take _, by have := HH.out.2; omega, hIr.out.row.lt⟩, hIr.out.bel⟩;rw [hl2]; rfl
set_option maxHeartbeats 1000000 in
theorem TTrim_c (ao : Option Addr) (len cap : Nat) (ws : List Nat) (w : World) (hA : WAt w ao ws) (hl : len = ws.length) (hcap : len <= cap) (hm : len <= 70368744177664) :
 Calls Tryz.prog 95 #[.slice ao len cap] w fun e w' => e = .returned (.slice ao (tlen ws) cap) /\ w = w' := by
 subst hl;have htl := tlen_le ws;have HA := Lib.hid hA; clear hA;go_enter Tryz.func95, Tryz.ntmps95;go_wp2
 go_loop [3] (fun i => ∃ k : Nat, k <= ws.length /\ tlen ws <= k /\ i = .int .i64 k) (fun i => (intOf i).toNat)
 case atStart => exact ⟨ws.length, by omega, by omega, rfl⟩
 case round =>
  obtain ⟨k, hk, ht, rfl⟩ := hrel;by_cases h0 : 0 < k
  · obtain ⟨b, o, rfl, hb, hc⟩ := HA.out.pos (by omega);have hcell := hc (k - 1) (by omega);by_cases hz : gw ws (k - 1) = 0
    · have hzb : (((gw ws (k - 1) : Nat) : Int) == 0) = true := by rw [hz]; rfl
      have Hz := Lib.hid hz; clear hz hc;go_wp2
      go_round
      case rel => exact ⟨k - 1, by omega, tlen_of_zeros ws (k - 1) (fun j hj => by
       by_cases hj' : j = k - 1
       · rw [hj']; exact Hz.out
       · exact zero_of_tlen ws j (by omega)), by go_num⟩
      case measure => simp [intOf]; omega
    · have hzb : (((gw ws (k - 1) : Nat) : Int) == 0) = false := by rw [beq_eq_false_iff_ne]; omega
      have h1 := lt_tlen ws (k - 1) hz;clear hc hz;have hke : k = tlen ws := by omega
      subst hke;go_wp2;go_ret;exact ⟨rfl, rfl⟩
  · have hke : k = tlen ws := by omega
    subst hke;go_wp2;go_ret;exact ⟨rfl, rfl⟩
structure RowQ (w : World) (b N : Nat) (D : List Nat) (W' : World) : Prop where
 row : RowAt W' b 41 ((D ++ List.replicate (N - D.length) 0).map wv)
 bel : Below w.heap.size w W'
 ge : w.heap.size <= b
theorem RowQ.put {w : World} {b N n : Nat} {D : List Nat} {W' : World} (h : RowQ w b N D W') (hn : D.length = n) (hN : n + 1 <= N) (x : Nat) : RowQ w b N (D ++ [x]) (W'.setCell ⟨b, n, none⟩ (.int .u64 (x : Int))) := by
 subst hn;refine ⟨?_, h.bel.setCell (p := ⟨b, D.length, none⟩) h.ge _, h.ge⟩;have := h.row.setWord D.length x;have e : (D ++ List.replicate (N - D.length) 0).set D.length x = (D ++ [x]) ++ List.replicate (N - (D ++ [x]).length) 0 := by
  obtain ⟨q, hq⟩ : ∃ q, N - D.length = q + 1 := ⟨N - D.length - 1, by omega⟩;have hq2 : N - (D ++ [x]).length = q := by simp; omega
  rw [hq, hq2, List.replicate_succ, List.set_append_right _ _ (by simp)];simp
 rw [e] at this; exact this
theorem RowQ.at0 {w : World} {b N n : Nat} {D : List Nat} {W' : World} (h : RowQ w b N D W') (hn : D.length = n) (hN : n + 1 <= N) : W'.cell? ⟨b, n, none⟩ = some (.int .u64 0) := by
 subst hn;rw [h.row.cell, List.getElem?_map, List.getElem?_append_right (by simp)];have : 0 < N - D.length := by omega
 simp [wv, this]
set_option maxRecDepth 100000 in
set_option maxHeartbeats 4000000 in
theorem THalves_c (ao : Option Addr) (len cap : Nat) (ws : List Nat) (w : World) (hA : WAt w ao ws) (hl : len = ws.length) (hcap : len <= cap) (hm : len <= 17592186044416) :
 Calls Tryz.prog 82 #[.slice ao len cap] w fun e w' => (∃ b ds c, e = .returned (.slice (some ⟨b, 0, none⟩) ds.length c) /\ w.heap.size <= b /\ ds.length <= c /\ c <= 35184372088832 /\ Bex (nval ws) ds /\ RowAt w' b 41 ((ds ++ List.replicate (c - ds.length) 0).map wv)) /\ Below w.heap.size w w' := by
 subst hl;have HA := Lib.hid hA; clear hA;go_enter Tryz.func82, Tryz.ntmps82;go_wp2_with fail
 refine (TTrim_c ao ws.length cap ws w HA.out rfl hcap (by omega)).mono ?_;rintro e w1 ⟨rfl, rfl⟩;have htl := tlen_le ws;have hv := nval_take_tlen HA.out.ok;obtain ⟨t, ht⟩ : ∃ t, tlen ws = t := ⟨_, rfl⟩;rw [ht] at htl hv ⊢;have HV := Lib.hid (And.intro hv ht); clear hv ht;have hw2 : IntKind.i64.wrap (2 * (t : Int)) = ((2 * t : Nat) : Int) := by rw [wrap_small] <;> omega
 go_wp2_with (at_make; refine mk_words rfl _ _ rfl (2 * t) (2 * t) rfl rfl (by omega) (by omega) (Nat.le_refl _) (by omega) ?_; intro b w2 hm1)
 have hI : RowQ w b (2 * t) [] w2 := ⟨by have := hm1.row; simpa using this, hm1.below, by have := hm1.at_; omega⟩;have HI := Lib.hid hI; clear hI hm1 hw2;go_loopw [4] (fun i_ wr => ∃ (i : Nat), i <= t /\ i_ = .int .i64 (i : Int) /\ Hid (RowQ w b (2 * t) (spb (ws.take i)) wr)) (fun i_ _ => t - (intOf i_).toNat)
 case atStart => exact ⟨0, Nat.zero_le _, rfl, Lib.hid (by simpa [spb] using HI.out)⟩
 case round =>
  obtain ⟨i, hi, rfl, hIr⟩ := hrel;by_cases hin : i < t
  · have hin1 : (i : Int) < (t : Int) := by omega
    obtain ⟨ab, aoff, rfl, hab, hc⟩ := (HA.out.below hIr.out.bel).pos (by omega);have hcell := hc i (by omega);have hgwW := HA.out.ok.gw i;have hnx : spb (ws.take (i + 1)) = (spb (ws.take i) ++ [gw ws i % HB]) ++ [gw ws i / HB] := by
     rw [List.take_succ_eq_append_getElem (by omega)];have e : ws[i]'(by omega) = gw ws i := by simp [gw, show i < ws.length by omega]
     have h2 : gw ws i / HB % HB = gw ws i / HB := Nat.mod_eq_of_lt (by unfold W at hgwW; unfold HB; omega);simp [spb, sp2, e, h2]
    obtain ⟨x, hx⟩ : ∃ x, gw ws i = x := ⟨_, rfl⟩;rw [hx] at hcell hgwW hnx;have HN := Lib.hid hnx; clear hnx hx hc;have hlen : (spb (ws.take i)).length = 2 * i := by rw [spb_length, List.length_take, Nat.min_eq_left (by omega)]
    have h1 := hIr.out;have h2 := h1.put hlen (by omega) (remW x HB);have c0 := h1.at0 hlen (by omega);have f0 := h1.row.free (2 * i);have hl2 : (spb (ws.take i) ++ [remW x HB]).length = 2 * i + 1 := by rw [List.length_append, hlen]; rfl
    have c1 := h2.at0 hl2 (by omega);have f1 := h2.row.free (2 * i + 1);have h3 := h2.put hl2 (by omega) (x / HB);have hgr : (wr.setCell ⟨b, 2 * i, none⟩ (.int .u64 ((remW x HB : Nat) : Int))).cell? ⟨ab, aoff + i, none⟩ = some (.int .u64 (x : Int)) := by
     rw [World.cell?_setCell_far _ _ _ _ (fun e => by
      have e : b = ab := e;subst e;have := h1.ge;have h9 := HA.out.pos (by omega);obtain ⟨b', o', e', hb', _⟩ := h9;cases e';omega)]
     exact hcell
    have k1 : 2 * (i : Int) < 2 * (t : Int) := by omega
    have k2 : 2 * (i : Int) + 1 < 2 * (t : Int) := by omega
    have hm1 : remW x HB < W := Nat.lt_of_lt_of_le (Nat.mod_lt _ (by decide)) (by decide : HB <= W);have HH3 := Lib.hid h3; clear h3 h2 h1;go_wp2_with (first
     | (with_reducible show wpList _ _ _ (⟨some 24, _, _, _, _, _⟩ :: _) _ _; refine op_rem rfl _ _ rfl x HB hgwW (by decide) rfl rfl rfl rfl ?_)
     | (with_reducible show wpList _ _ _ (⟨some 34, _, _, _, _, _⟩ :: _) _ _; refine op_quo rfl _ _ rfl x HB hgwW (by decide) rfl rfl rfl rfl ?_))
    go_roundw
    case rel => exact ⟨i + 1, by omega, by go_num, Lib.hid (by rw [HN.out]; exact HH3.out)⟩
    case measure => simp [intOf]; omega
  · obtain rfl : i = t := by omega
    have h1 := hIr.out;have hok := HA.out.ok.take i;have hlen : (spb (ws.take i)).length = 2 * i := by rw [spb_length, List.length_take, Nat.min_eq_left (by omega)]
    have hex := Bex.of (spb_ok (ws.take i));rw [spb_val hok, HV.out.1] at hex;have hrow := h1.row;rw [hlen, Nat.sub_self, List.replicate_zero, List.append_nil] at hrow;have hw : WAt wr (some ⟨b, 0, none⟩) (spb (ws.take i)) := hrow.wat (fun x hx => Nat.lt_trans (spb_ok _ x hx) (by decide));have HE := Lib.hid (And.intro hex (And.intro hrow hlen)); clear hex hrow;have h2 := tlen_le (spb (ws.take i));have HB1 := Lib.hid (And.intro h1.bel h1.ge); clear h1;have HT := Lib.hid h2; clear h2 hok;go_wp2_with fail
    refine (TTrim_c (some ⟨b, 0, none⟩) (2 * i) (2 * i) (spb (ws.take i)) wr hw hlen.symm (Nat.le_refl _) (by omega)).mono ?_;rintro e w3 ⟨rfl, rfl⟩;go_wp2;go_ret;have hl2 : ((spb (ws.take i)).take (tlen (spb (ws.take i)))).length = tlen (spb (ws.take i)) := by rw [List.length_take, Nat.min_eq_left HT.out]
    refine ⟨⟨b, (spb (ws.take i)).take (tlen (spb (ws.take i))), 2 * i, by rw [hl2]; rfl, HB1.out.2, by rw [hl2]; have := HT.out; omega, by omega, HE.out.1, ?_⟩, HB1.out.1⟩;have e : (spb (ws.take i)).take (tlen (spb (ws.take i))) ++ List.replicate (2 * i - ((spb (ws.take i)).take (tlen (spb (ws.take i)))).length) 0 = spb (ws.take i) := by
     conv => rhs; rw [<- List.take_append_drop (tlen (spb (ws.take i))) (spb (ws.take i))]
     congr 1;rw [hl2];refine List.ext_getElem (by simp [hlen]) fun j h3 h4 => ?_;simp only [List.getElem_replicate];have := zero_of_tlen (spb (ws.take i)) (tlen (spb (ws.take i)) + j) (by omega);rw [List.getElem_drop];rw [List.getD_eq_getElem?_getD, List.getElem?_eq_getElem (by simp at h4; omega)] at this;simpa using this.symm
    rw [e]; exact HE.out.2.1
attribute [local go_sem] wv
theorem ch2_gw (ds : List Nat) (q : Nat) : ch2 ds q = gw ds (2 * q) + HB * gw ds (2 * q + 1) := by
 have h0 : gw ds (2 * q) = gw (ds.drop (2 * q)) 0 := by rw [gw_drop]; rfl
 have h1 : gw ds (2 * q + 1) = gw (ds.drop (2 * q)) 1 := by rw [gw_drop]
 rw [h0, h1];unfold ch2;rcases ds.drop (2 * q) with _ | ⟨a, _ | ⟨b, l⟩⟩ <;> simp [bval, gw]
theorem ch2_even (D : List Nat) (i : Nat) (q : Nat) (h : i = 2 * q) : ch2 (D.take (i + 1)) q = gw D i := by
 subst h; rw [ch2_gw, gw_take, gw_take, if_pos (by omega), if_neg (by omega)]; rfl
theorem ch2_odd (D : List Nat) (i : Nat) (q : Nat) (h : i = 2 * q + 1) : ch2 (D.take (i + 1)) q = ch2 (D.take i) q + gw D i * HB /\ ch2 (D.take i) q = gw D (2 * q) := by
 subst h; rw [ch2_gw, ch2_gw, gw_take, gw_take, gw_take, gw_take, if_pos (by omega), if_pos (by omega), if_pos (by omega), if_neg (by omega)];exact ⟨by rw [Nat.mul_comm HB (gw D _)]; omega, by omega⟩
theorem ch2_step (D : List Nat) (i K v : Nat) (hv : ch2 (D.take (i + 1)) (i / 2) = v) : ((List.range K).map (ch2 (D.take i))).set (i / 2) v = (List.range K).map (ch2 (D.take (i + 1))) := by
 refine List.ext_getElem? fun j => ?_;rw [List.getElem?_set];by_cases h : i / 2 = j
 · subst h;by_cases hK : i / 2 < K
   · simp [hK, hv]
   · simp [hK]
 · rw [if_neg h];by_cases hK : j < K
   · simp only [List.getElem?_map, List.getElem?_range hK, Option.map_some];rw [ch2_gw, ch2_gw, gw_take, gw_take, gw_take, gw_take];congr 2
     · by_cases h1 : 2 * j < i
       · rw [if_pos h1, if_pos (by omega)]
       · rw [if_neg h1, if_neg (by omega)]
     · by_cases h1 : 2 * j + 1 < i
       · rw [if_pos h1, if_pos (by omega)]
       · rw [if_neg h1, if_neg (by omega)]
   · simp [hK]
theorem ch2_init (D : List Nat) (K : Nat) : List.replicate K 0 = (List.range K).map (ch2 (D.take 0)) := by
 refine List.ext_getElem? fun j => ?_;by_cases hK : j < K
 · simp [hK, ch2, bval]
 · simp [hK]
theorem mulHB {a : Nat} (h : a * HB < W) : Value.int .u64 (IntKind.u64.wrap ((a : Int) * 4294967296)) = .int .u64 ((a * HB : Nat) : Int) := mulB (b := 4294967296) h
theorem halfI {a : Int} {K : Nat} (h0 : 0 <= a) (h1 : a < 9223372036854775808) (h : a / 2 = (K : Int)) : Value.int .i64 (IntKind.i64.wrap (a.tdiv 2)) = .int .i64 (K : Int) := by
 rw [Int.tdiv_eq_ediv_of_nonneg h0, IntWalk.i64_in _ (by omega), h]
set_option maxRecDepth 100000 in
set_option maxHeartbeats 4000000 in
theorem TWords_c (ao : Option Addr) (len cap m : Nat) (ds : List Nat) (w : World) (hA : WAt w ao ds) (hok : BOk ds) (hv : bval ds = m) (hl : len = ds.length) (hc : len <= cap) (hm : cap <= 35184372088832) :
 Calls Tryz.prog 84 #[.slice ao len cap] w fun e w' => (∃ ao' cap', e = .returned (.slice ao' (wlen m) cap') /\ OwnW w' w.heap.size ao' (wlen m) cap' (dig m)) /\ Below w.heap.size w w' := by
 subst hl;have htl := tlen_le ds;obtain ⟨D, hD⟩ : ∃ D, ds.take (tlen ds) = D := ⟨_, rfl⟩;have hDl : D.length = tlen ds := by rw [<- hD, List.length_take, Nat.min_eq_left htl]
 have hex : Bex m D := by have := Bex.of hok; rw [hv, hD] at this; exact this
 obtain ⟨n, hn⟩ : ∃ n, tlen ds = n := ⟨_, rfl⟩;obtain ⟨K, hK⟩ : ∃ K, (n + 1) / 2 = K := ⟨_, rfl⟩;rw [hn] at hDl htl;have hAt : WAt w ao D := by rw [<- hD]; exact hA.take _
 have hao := hAt.ao;refine funW (S0 := fun _ => False) Tryz.func84 (es := [.wat ao D, .wat ao ds]) (((Fr.nil _ w).w (hx := hA)).w (hx := hAt) (hn := by simp [En.wr, En.wat])) ?_;refine goW ?_;refine rW [] ?_;refine dW ?_;refine eW ?_;refine goW ?_;refine rW [] ?_;refine dW ?_;refine cV (v := .slice ao n cap) (fun w H => (TTrim_c ao ds.length cap ds w H.m1 rfl hc (by omega)).mono (by rintro e w' ⟨rfl, rfl⟩; exact ⟨by rw [hn], Below.refl _ _⟩)) ?_;refine dW ?_;refine eW ?_;refine goW ?_;refine rW [] ?_;refine dW ?_;refine dW ?_;refine dE (incB (a := n) (by omega)) ?_;refine dE (halfI (a := (n : Int) + 1) (K := K) (by omega) (by omega) (by omega)) ?_;refine mW K K rfl rfl (Nat.le_refl _) (by omega) fun g3 => ?_;refine dW ?_;refine eW ?_;refine goW ?_;refine rW [] ?_;refine dW ?_;refine eW ?_;refine goW ?_;rw [ch2_init D K];refine loopW (X := Nat) (fun i => i <= n) (fun i => n - i)
  (fun i => [(4, .int .i64 (i : Int)), (3, .slice (some ⟨g3, 0, none⟩) K K), (0, .slice ao n cap)])
  (fun i => [.row g3 41 (((List.range K).map (ch2 (D.take i))).map wv), .wat ao D]) 0 (Nat.zero_le _) fun i hi => ?_
 refine goW ?_;refine rW [] ?_;refine dW ?_;refine dW ?_;refine dW ?_;refine dW ?_;refine eW ?_;refine goW ?_;refine condW (fun h => ?_) (fun h => ?_)
 · have h : i < n := by have h := of_decide_eq_true h; omega
   have hi' : (i : Int) < (n : Int) := by omega
   obtain ⟨b, o, rfl⟩ := hao (by omega);obtain ⟨q, hq⟩ : ∃ q, i / 2 = q := ⟨_, rfl⟩;have hqK : q < K := by omega
   have hqK' : (q : Int) < (K : Int) := by omega
   have hlen : q < ((List.range K).map (ch2 (D.take i))).length := by simp [hqK]
   have hstep := ch2_step D i K _ rfl;rw [hq] at hstep;obtain ⟨d, hd⟩ : ∃ d, gw D i = d := ⟨_, rfl⟩;have hdB := hex.ok.gw_ i;rw [hd] at hdB;refine goW ?_;refine rW [] ?_;refine dW ?_;by_cases h2 : i % 2 = 0
   · have ht : (i : Int).tmod 2 = 0 := by rw [Int.tmod_eq_emod_of_nonneg (by omega)]; omega
     refine dW ?_;refine dB true ?_;refine eW ?_;refine goW ?_;refine ctW ?_;refine wordW i mm1 (by omega) ?_;rw [hd];refine rW [] ?_;refine dW ?_;refine dW ?_;refine dE (halfI (a := (i : Int)) (K := q) (by omega) (by omega) (by omega)) ?_;refine dW ?_;refine dW ?_;refine dW ?_;refine dW ?_;refine dW ?_;refine sU q d hlen rfl (k' := ?_);refine eW ?_;refine goW ?_;refine rW [] ?_;refine dW ?_;refine dE (incB (a := i) (by omega)) ?_;refine dW ?_;refine eW ?_;rw [ch2_even D i q (by omega), hd] at hstep;rw [hstep];exact backW (i + 1) ⟨h, by omega⟩
   · obtain ⟨hs1, hs2⟩ := ch2_odd D i q (by omega);obtain ⟨e, he⟩ : ∃ e, gw D (2 * q) = e := ⟨_, rfl⟩;have heB := hex.ok.gw_ (2 * q);rw [he] at heB hs2;have hgw : ((List.range K).map (ch2 (D.take i)))[q]? = some e := by
      rw [List.getElem?_map, List.getElem?_range hqK, Option.map_some, hs2]
     rw [hs2, hd] at hs1;obtain ⟨T, hT⟩ : ∃ T, (List.range K).map (ch2 (D.take i)) = T := ⟨_, rfl⟩;rw [hT] at hgw hstep hlen;rw [hT];have hdH : d * HB < W := by show d * HB < HB * HB; exact Nat.mul_lt_mul_of_pos_right hdB HB_pos
     have hdH2 : e + d * HB < W := by unfold HB W at *; omega
     have hlen2 := Lib.hid hlen;clear hlen;have ht : (i : Int).tmod 2 = 1 := by rw [Int.tmod_eq_emod_of_nonneg (by omega)]; omega
     refine dW ?_;refine dB false ?_;refine eW ?_;refine goW ?_;refine cfW ?_;refine wordW i mm1 (by omega) ?_;rw [hd];refine rW [] ?_;refine dW ?_;refine dW ?_;refine dE (halfI (a := (i : Int)) (K := q) (by omega) (by omega) (by omega)) ?_;refine dW ?_;refine dW ?_;refine dE (halfI (a := (i : Int)) (K := q) (by omega) (by omega) (by omega)) ?_;refine dW ?_;refine dW ?_;refine dW ?_;refine dW ?_;refine dW ?_;refine dW ?_;refine dE (mulHB (a := d) hdH) ?_;refine dE (addB (a := e) (b := d * HB) hdH2) ?_;refine dW ?_;refine sU q (e + d * HB) hlen2.out rfl (k' := ?_);refine eW ?_;refine goW ?_;refine rW [] ?_;refine dW ?_;refine dE (incB (a := i) (by omega)) ?_;refine dW ?_;refine eW ?_;rw [hs1] at hstep;rw [hstep];exact backW (i + 1) ⟨h, by omega⟩
 · have h : i = n := by have h := of_decide_eq_false h; omega
   subst h;refine goW ?_;refine rW [] ?_;refine dW ?_;refine dW ?_;refine eW ?_;refine goW ?_;refine fin1 (fun w' H => ?_);have ed : (List.range K).map (ch2 (D.take i)) = dig m := by rw [List.take_of_length_le (by omega)]; exact ch2_dig hex (by omega) (by omega)
   have el : wlen m = K := by rw [hex.wlen_, hDl, hK]
   have hr := H.m0;rw [ed] at hr;have hk : (dig m).length = K := el;have ho := RowAt.own (n := K) (cap := K) (B := w.heap.size) hr (by rw [<- ed]; exact ch2_ok (hex.ok.take _) K) ((H.own _ (List.mem_cons_self ..) rfl g3 rfl).resolve_left id) (by omega) hk.symm (Nat.le_trans (by omega : K <= 35184372088832) (by decide));rw [List.take_of_length_le (by omega)] at ho;rw [el];exact ⟨_, rvT, ⟨_, _, rfl, ho⟩, H.below⟩
end Go.Proofs.YtdgfhcaokigieaaGreat
namespace Go.Proofs.YtdgfhcaokigieaaGreat
theorem BOk.ok {l : List Nat} (h : BOk l) : Ok l := fun x hx => Nat.lt_trans (h x hx) (by decide)
theorem bval_ex : ∀ (k n : Nat), n < HB ^ k -> ∃ l : List Nat, l.length = k /\ BOk l /\ bval l = n
 | 0, n, h => ⟨[], rfl, (fun _ h => (List.not_mem_nil h).elim), by simp at h; simp [bval, h]⟩
 | k + 1, n, h => by
  obtain ⟨l, h1, h2, h3⟩ := bval_ex k (n / HB) (Nat.div_lt_of_lt_mul (by rw [Nat.pow_succ, Nat.mul_comm] at h; exact h));refine ⟨n % HB :: l, by simp [h1], fun x hx => ?_, by simp only [bval, h3]; exact Nat.mod_add_div n HB⟩;rcases List.mem_cons.1 hx with rfl | hx
  · exact Nat.mod_lt _ HB_pos
  · exact h2 x hx
theorem tlen_val {l : List Nat} (h : BOk l) {n : Nat} (hn : 0 < n) (h1 : HB ^ (n - 1) <= bval l) (h2 : bval l < HB ^ n) : tlen l = n := by
 have hx := Bex.of h;have hl : (l.take (tlen l)).length = tlen l := by rw [List.length_take, Nat.min_eq_left (tlen_le l)]
 have h3 := hx.lt;rw [hl] at h3;have a : n - 1 < tlen l := (Nat.pow_lt_pow_iff_right (show 1 < HB by decide)).1 (Nat.lt_of_le_of_lt h1 h3);have h4 := hx.top (by omega);rw [hl] at h4;have b : tlen l - 1 < n := (Nat.pow_lt_pow_iff_right (show 1 < HB by decide)).1 (Nat.lt_of_le_of_lt h4 h2);omega
theorem fac_top {ys : List Nat} {B k : Nat} (h : Bex B ys) (hl : 0 < ys.length) (hk : gw ys (ys.length - 1) * 2 ^ k < HB) : B * 2 ^ k < HB ^ ys.length /\ HB ^ (ys.length - 1) <= B * 2 ^ k := by
 obtain ⟨top, ht⟩ : ∃ top, gw ys (ys.length - 1) = top := ⟨_, rfl⟩;rw [ht] at hk;have h1 := bval_take_succ ys (ys.length - 1);rw [show ys.length - 1 + 1 = ys.length by omega, List.take_length, h.val, ht] at h1;have h2 := bval_lt (h.ok.take (ys.length - 1));rw [List.length_take, Nat.min_eq_left (by omega)] at h2;have h3 := h.top hl;have hp : 0 < 2 ^ k := Nat.pow_pos (by omega);refine ⟨?_, Nat.le_trans h3 (Nat.le_mul_of_pos_right _ hp)⟩;have htp : 1 <= top := by
  rcases Nat.eq_zero_or_pos top with h0 | h0
  · rw [h0] at h1; omega
  · exact h0
 have hk32 : k < 32 := (Nat.pow_lt_pow_iff_right (show 1 < 2 by decide)).1 (Nat.lt_of_le_of_lt (Nat.le_mul_of_pos_left _ htp) (show top * 2 ^ k < 2 ^ 32 from hk));have e : 2 ^ (32 - k) * 2 ^ k = HB := by rw [<- Nat.pow_add, show 32 - k + k = 32 by omega]; rfl
 have h4 : top < 2 ^ (32 - k) := Nat.lt_of_mul_lt_mul_right (a := 2 ^ k) (by rw [e]; exact hk);have h5 : (top + 1) * 2 ^ k <= HB := by rw [<- e]; exact Nat.mul_le_mul_right _ h4
 have h6 : B < HB ^ (ys.length - 1) * (top + 1) := by rw [Nat.mul_succ]; omega
 calc B * 2 ^ k < HB ^ (ys.length - 1) * (top + 1) * 2 ^ k := Nat.mul_lt_mul_of_pos_right h6 hp
  _ = HB ^ (ys.length - 1) * ((top + 1) * 2 ^ k) := Nat.mul_assoc ..
  _ <= HB ^ (ys.length - 1) * HB := Nat.mul_le_mul_left _ h5
  _ = HB ^ ys.length := by rw [<- Nat.pow_succ]; congr 1; omega
theorem top_bd {ds : List Nat} (h : BOk ds) {n : Nat} (hn : n + 1 = ds.length) : HB ^ n * gw ds n <= bval ds /\ bval ds < HB ^ n * (gw ds n + 1) := by
 have h1 := bval_take_succ ds n;rw [hn, List.take_length] at h1;have h2 := bval_lt (h.take n);rw [List.length_take, Nat.min_eq_left (by omega)] at h2;rw [Nat.mul_succ]; omega
theorem two_ge (R : List Nat) (p : Nat) (hp : p + 1 < R.length) : HB ^ p * (gw R p + gw R (p + 1) * HB) <= bval R := by
 have h1 := bval_split R (p + 2) (by omega);have h2 : bval (R.take (p + 2)) = bval (R.take (p + 1)) + HB ^ (p + 1) * gw R (p + 1) := bval_take_succ R (p + 1);have h3 := bval_take_succ R p;rw [Nat.mul_add, Nat.mul_comm (gw R (p + 1)), <- Nat.mul_assoc, show HB ^ p * HB = HB ^ (p + 1) from rfl];omega
theorem guess {R ds : List Nat} {m lb n t D : Nat} (hlb : lb + 1 = ds.length) (hd : BOk ds) (hD : bval ds = D) (hp : m + lb + 1 < R.length) (ht : gw R (m + lb) + gw R (m + lb + 1) * HB = t) (hr : bval R < D * HB ^ (m + 1)) (hn : t / (gw ds lb + 1) = n) : HB ^ m * (n * D) <= bval R /\ n < HB := by
 have h1 := (top_bd hd hlb).2;rw [hD] at h1;have h2 := two_ge R (m + lb) hp;rw [ht] at h2;obtain ⟨H, hH⟩ : ∃ H, gw ds lb + 1 = H := ⟨_, rfl⟩;rw [hH] at h1 hn;have hH0 : 0 < H := by omega
 have h3 : n * H <= t := by rw [<- hn]; exact Nat.div_mul_le_self t H
 refine ⟨Nat.le_trans ?_ h2, ?_⟩
 · rw [Nat.pow_add, Nat.mul_assoc];refine Nat.mul_le_mul_left _ ?_
   calc n * D <= n * (HB ^ lb * H) := Nat.mul_le_mul_left _ (Nat.le_of_lt h1)
    _ = HB ^ lb * (n * H) := Nat.mul_left_comm ..
    _ <= HB ^ lb * t := Nat.mul_le_mul_left _ h3
 · rw [<- hn];refine Nat.div_lt_of_lt_mul ?_;refine Nat.lt_of_mul_lt_mul_left (a := HB ^ (m + lb)) ?_
   calc HB ^ (m + lb) * t <= bval R := h2
    _ < D * HB ^ (m + 1) := hr
    _ <= (HB ^ lb * H) * HB ^ (m + 1) := Nat.mul_le_mul_right _ (Nat.le_of_lt h1)
    _ = HB ^ (m + lb) * (H * HB) := by rw [Nat.pow_succ, Nat.pow_add]; simp only [Nat.mul_assoc, Nat.mul_comm, Nat.mul_left_comm]
structure DvI (K N m : Nat) (D Z r0 : Nat) (Q R : List Nat) : Prop where
 q1 : Q.length = K
 q2 : BOk Q
 q3 : ∀ j, j < m -> gw Q j = 0
 r1 : R.length = N
 r2 : BOk R
 v1 : bval Q * D + bval R = Z
 v2 : bval R < D * HB ^ (m + 1)
 v3 : gw Q m * (HB ^ m * D) + bval R = r0
 v4 : r0 < D * HB ^ (m + 1)
theorem DvI.next {K N m D Z r0 n : Nat} {Q R R' : List Nat} (h : DvI K N m D Z r0 Q R) (hm : m < K) (h1 : R'.length = N) (h2 : BOk R') (h3 : bval R' + HB ^ m * (n * D) = bval R) (hD : 0 < D) : gw Q m + n < HB /\ DvI K N m D Z r0 (Q.set m (gw Q m + n)) R' := by
 have e : (gw Q m + n) * (HB ^ m * D) + bval R' = r0 := by
  rw [<- h.v3, Nat.add_mul, <- h3, Nat.mul_left_comm n]; omega
 have hlt : gw Q m + n < HB := by
  refine Nat.lt_of_mul_lt_mul_right (a := HB ^ m * D) ?_;have := h.v4;have e2 : D * HB ^ (m + 1) = HB * (HB ^ m * D) := by rw [Nat.pow_succ]; simp only [Nat.mul_assoc, Nat.mul_comm, Nat.mul_left_comm]
  omega
 refine ⟨hlt, by rw [List.length_set]; exact h.q1, h.q2.set _ _ hlt, fun j hj => ?_, h1, h2, ?_, by have := h.v2; omega, ?_, h.v4⟩
 · rw [gw_set_other (by omega)]; exact h.q3 j hj
 · have := bval_set Q m (gw Q m + n) (by rw [h.q1]; exact hm);rw [Nat.mul_add] at this;have e3 : bval (Q.set m (gw Q m + n)) = bval Q + HB ^ m * n := by omega
   have := h.v1;rw [e3, Nat.add_mul, Nat.mul_assoc]; omega
 · rw [gw_set_same (by rw [h.q1]; exact hm)]; exact e
structure LsI (N f : Nat) (R : List Nat) (k c : Nat) (T : List Nat) : Prop where
 h1 : T.length = N
 h2 : BOk T
 h3 : c < f
 h4 : bval (T.drop k) * f + c = bval (R.drop k)
 h5 : ∀ j, j < k -> gw T j = gw R j
theorem drop_gw (l : List Nat) (m : Nat) : bval (l.drop m) = gw l m + HB * bval (l.drop (m + 1)) := by
 have e : gw l m = gw (l.drop m) 0 := by rw [gw_drop]; rfl
 have e2 : l.drop (m + 1) = (l.drop m).drop 1 := by rw [List.drop_drop]
 rw [e, e2];cases l.drop m with
 | nil => simp [bval, gw]
 | cons a r => simp [bval, gw]
theorem LsI.next {N f m c x : Nat} {R T : List Nat} (h : LsI N f R (m + 1) c T) (hm : m < N) (hf : f < HB) (hx : c * HB + gw T m = x) : x < f * HB /\ x / f < HB /\ LsI N f R m (x % f) (T.set m (x / f)) := by
 have h3 := h.h3;have hd := h.h2.gw_ m;have hxf : x < f * HB := by
  have : (c + 1) * HB <= f * HB := Nat.mul_le_mul_right _ h3;rw [Nat.succ_mul] at this; omega
 have hq : x / f < HB := Nat.div_lt_of_lt_mul hxf;refine ⟨hxf, hq, by rw [List.length_set]; exact h.h1, h.h2.set _ _ hq, Nat.mod_lt _ (by omega), ?_, fun j hj => by rw [gw_set_other (by omega)]; exact h.h5 j (by omega)⟩;have h4 := h.h4;rw [drop_gw, gw_set_same (by rw [h.h1]; exact hm), drop_gw R m, <- h.h5 m (by omega), <- h4, show (T.set m (x / f)).drop (m + 1) = T.drop (m + 1) from List.drop_set_of_lt (by omega), Nat.add_mul];have e := Nat.div_add_mod x f;rw [Nat.mul_comm f] at e;have e2 : HB * bval (T.drop (m + 1)) * f = HB * (bval (T.drop (m + 1)) * f) := Nat.mul_assoc ..;have e3 : HB * (bval (T.drop (m + 1)) * f + c) = HB * (bval (T.drop (m + 1)) * f) + c * HB := by rw [Nat.mul_add, Nat.mul_comm c]
 omega
theorem dv_end {A B f q r t c : Nat} (hf : 0 < f) (h1 : q * (B * f) + r = A * f) (h2 : r < B * f) (h3 : t * f + c = r) (h4 : c < f) : q = A / B /\ t = A % B := by
 have e : (q * B + t) * f + c = A * f := by rw [Nat.add_mul, Nat.mul_assoc]; omega
 have hc : c = 0 := by
  have : ((q * B + t) * f + c) % f = c := by rw [Nat.add_comm, Nat.add_mul_mod_self_right, Nat.mod_eq_of_lt h4]
  rw [e, Nat.mul_mod_left] at this; exact this.symm
 rw [hc, Nat.add_zero] at e;have e2 := Nat.eq_of_mul_eq_mul_right hf e;have ht : t < B := Nat.lt_of_mul_lt_mul_right (a := f) (by omega);have hB : 0 < B := by omega
 rw [<- e2];constructor
 · rw [Nat.mul_comm, Nat.mul_add_div hB, Nat.div_eq_of_lt ht]; rfl
 · rw [Nat.mul_comm, Nat.mul_add_mod, Nat.mod_eq_of_lt ht]
end Go.Proofs.YtdgfhcaokigieaaGreat
namespace Go.Proofs.YtdgfhcaokigieaaGreat
open Go.RowKit
attribute [local go_sem] wv
structure Dg (w : World) (n : Nat) (ao : Option Addr) (c : Nat) (ds : List Nat) : Prop where
 at_ : WAt w ao ds
 ex : Bex n ds
 le : ds.length <= c
 cap : c <= 35184372088832
theorem Dg.below {w w' : World} {n : Nat} {ao : Option Addr} {c : Nat} {ds : List Nat} (h : Dg w n ao c ds) (hb : Below w.heap.size w w') : Dg w' n ao c ds := ⟨h.at_.below hb, h.ex, h.le, h.cap⟩
section
variable {P : Program} {ops : Array Oper} {Q : Exit -> Act -> World -> Prop} {S0 : Nat -> Prop} {w0 : World} {E0 : List En} {hd : List (List Nat)} {n j s : Nat} {l : List Nat} {G E : List En} {ls : List (Nat × Value)} {op : Op} {ty : TypeId} {pos : String} {af : Array Edge} {f : FuncId} {args : Array Value}
theorem cD {N : Nat} {Pl : List Nat -> Prop} (hne : ∃ l, Pl l) (c : ∀ w, Fr S0 w0 w (G ++ E) -> Calls P f args w fun e w' => (∃ b ts, e = .returned (.slice (some ⟨b, 0, none⟩) N N) /\ w.heap.size <= b /\ Pl ts /\ RowAt w' b 41 (ts.map wv)) /\ Below w.heap.size w w')
 (k : ∀ g ts, Pl ts -> RWs ⟨P, ops, Q, S0, w0, E0, hd⟩ n l (.row g 41 (ts.map wv) :: G) E ((s, .slice (some ⟨g, 0, none⟩) N N) :: ls))
 (ho : ops[j]? = some ⟨some s, op, ty, pos, af, none⟩ := by rfl) (hk : (!isDet op && !isNew op && chkO ls op && Nat.blt s n) = true := by kernel_rfl)
 (hr : ∀ w, (execOp (evl ls) ⟨some s, op, ty, pos, af, none⟩).run P w = .ok (.enter f args) w := by intro w; (try simp only [av]); go_simp <;> with_reducible rfl)
 (hst : okSt ops hd j [] = true := by kernel_rfl) : RWs ⟨P, ops, Q, S0, w0, E0, hd⟩ n (j :: l) G E ls := by
 refine cG (α := {p : Nat × List Nat // Pl p.2}) (mk := fun p => .slice (some ⟨p.1.1, 0, none⟩) N N) (ens := fun p => [.row p.1.1 41 (p.1.2.map wv)]) (fun w hw => (c w hw).mono ?_) (fun p => k p.1.1 p.1.2 p.2) ho hk hr (by obtain ⟨l, h⟩ := hne; exact ⟨⟨(0, l), h⟩⟩) hst;rintro e w' ⟨⟨b, ts, rfl, hb, hp, hr⟩, hbl⟩;exact ⟨⟨(b, ts), hp⟩, rfl, hbl, fun e he => by
  rcases List.mem_singleton.1 he with rfl;exact ⟨hr, fun b' h => by rw [show b' = b from h]; exact hb⟩, List.pairwise_singleton ..⟩
theorem readW {c : Code} {es : List En} {g : Nat} {ws : List Nat} (q : Nat) (hok : Ok ws) (k : CW P n S0 w0 c Q ls (.wat (some ⟨g, 0, none⟩) (ws.take q) :: es)) : CW P n S0 w0 c Q ls (.row g 41 (ws.map wv) :: es) := fun a w ha hw =>
 k a w ha (hw.tl.cons ((RowAt.wat hw.m0 hok).take q) (fun e he => ⟨(fun h => nomatch h), fun hwr b hb ⟨_, o, e'⟩ => by
  cases e';exact ((List.pairwise_cons.1 hw.sep).1 e he).2 hwr _ hb rfl⟩) (fun h => nomatch h))
end
theorem predN {a : Nat} (h0 : 0 < a) (h : a < 9223372036854775807) : Value.int .i64 (IntKind.i64.wrap ((a : Int) - 1)) = .int .i64 ((a - 1 : Nat) : Int) := by
 rw [predI a h]; congr 1; omega
theorem difI {a b : Nat} (hb : b <= a) (h : a < 9223372036854775807) : Value.int .i64 (IntKind.i64.wrap ((a : Int) - b)) = .int .i64 ((a - b : Nat) : Int) := by
 rw [IntWalk.i64_in _ (by omega)]; congr 1; omega
structure FcI (top k : Nat) : Prop where
 h1 : top * 2 ^ k < HB
 h2 : k < 32
theorem dblB {f : Nat} (hf : 2 * f < W) : Value.int .u64 (IntKind.u64.wrap (2 * (f : Int))) = .int .u64 ((2 * f : Nat) : Int) := mulB (a := 2) hf
theorem FcI.next {top k : Nat} (h0 : 1 <= top) (h : top * 2 ^ k < 2147483648) : FcI top (k + 1) := by
 have h1 : top * 2 ^ (k + 1) < HB := by rw [Nat.pow_succ, <- Nat.mul_assoc]; unfold HB; omega
 exact ⟨h1, (Nat.pow_lt_pow_iff_right (show 1 < 2 by decide)).1 (Nat.lt_of_le_of_lt (Nat.le_mul_of_pos_left _ h0) (show top * 2 ^ (k + 1) < 2 ^ 32 from h1))⟩
theorem quoV {a b : Nat} (ha : a < W) (hb : 0 < b) : Value.int .u64 (IntKind.u64.wrap ((a : Int).tdiv (b : Int))) = .int .u64 ((a / b : Nat) : Int) := by
 have h1 := Nat.div_le_self a b;rw [Int.tdiv_eq_ediv_of_nonneg (by omega), <- Int.natCast_ediv, IntKind.wrap_u64];generalize a / b = c at *;unfold W at ha; congr 1; omega
theorem remV {a b : Nat} : Value.int .u64 ((a : Int).tmod (b : Int)) = .int .u64 ((a % b : Nat) : Int) := by
 rw [Int.tmod_eq_emod_of_nonneg (by omega)]; rfl
structure LsX where
 k : Nat
 c : Nat
 T : List Nat
structure DvX where
 k : Nat
 Q : List Nat
 R : List Nat
structure DvO (K N D Z : Nat) (x : DvX) : Prop where
 k1 : x.k <= K
 q1 : x.Q.length = K
 q2 : BOk x.Q
 q3 : ∀ j, j < x.k -> gw x.Q j = 0
 r1 : x.R.length = N
 r2 : BOk x.R
 v1 : bval x.Q * D + bval x.R = Z
 v2 : bval x.R < D * HB ^ x.k
theorem DvO.in_ {K N D Z m : Nat} {Q R : List Nat} (h : DvO K N D Z ⟨m + 1, Q, R⟩) : DvI K N m D Z (bval R) Q R :=
 ⟨h.q1, h.q2, fun j hj => h.q3 j (Nat.lt_succ_of_lt hj), h.r1, h.r2, h.v1, h.v2, by have e : gw Q m = 0 := h.q3 m (Nat.lt_succ_self m); rw [e]; simp, h.v2⟩
theorem DvI.out {K N D Z m r0 : Nat} {Q R : List Nat} (h : DvI K N m D Z r0 Q R) (hm : m <= K) (hlt : bval R < HB ^ m * D) : DvO K N D Z ⟨m, Q, R⟩ :=
 ⟨hm, h.q1, h.q2, h.q3, h.r1, h.r2, h.v1, by show bval R < D * HB ^ m; rw [Nat.mul_comm]; exact hlt⟩
theorem dv_init {A B f la lb : Nat} (hA : A < HB ^ la) (hB : HB ^ (lb - 1) <= B) (h0 : 0 < lb) (h : lb <= la) (hf : 0 < f) : A * f < B * f * HB ^ (la - lb + 1) := by
 have e : HB ^ (lb - 1) * HB ^ (la - lb + 1) = HB ^ la := by rw [<- Nat.pow_add]; congr 1; omega
 have h1 : HB ^ la <= B * HB ^ (la - lb + 1) := by rw [<- e]; exact Nat.mul_le_mul_right _ hB
 rw [Nat.mul_right_comm];exact Nat.mul_lt_mul_of_pos_right (Nat.lt_of_lt_of_le hA h1) hf
set_option maxRecDepth 100000 in
set_option maxHeartbeats 4000000 in
theorem TDivide_c (A B : Nat) (ao bo : Option Addr) (ca cb : Nat) (xs ys : List Nat) (w : World) (hA : Dg w A ao ca xs) (hB : Dg w B bo cb ys) (hlx : xs.length <= 17592186044416) (hly : ys.length <= 17592186044416) (h0 : 0 < ys.length) :
 Calls Tryz.prog 83 #[.slice ao xs.length ca, .slice bo ys.length cb] w fun e w' => (∃ qo cq Qs ro cr Rs, e = .returned (.tuple #[.slice qo Qs.length cq, .slice ro Rs.length cr]) /\ Dg w' (A / B) qo cq Qs /\ Dg w' (A % B) ro cr Rs /\ (∀ b o, qo = some ⟨b, o, none⟩ -> w.heap.size <= b) /\ ((∀ b o, ro = some ⟨b, o, none⟩ -> w.heap.size <= b) ∨ (ro = ao /\ Rs = xs))) /\ Below w.heap.size w w' := by
 refine funW (S0 := fun _ => False) Tryz.func83 (es := [.wat ao xs, .wat bo ys]) (((Fr.nil _ w).w (hx := hB.at_)).w (hx := hA.at_) (hn := by simp [En.wr, En.wat])) ?_;refine goW ?_;refine rW [] ?_;refine dW ?_;refine dW ?_;refine eW ?_;refine goW ?_;refine rW [] ?_;refine dW ?_;refine dW ?_;refine dW ?_;refine dW ?_;refine dW ?_;refine eW ?_;refine goW ?_;refine condW (fun h => ?_) (fun h => ?_)
 · have h : xs.length < ys.length := by have h := of_decide_eq_true h; omega
   refine goW ?_;refine rW [] ?_;refine dW ?_;refine dW ?_;refine dW ?_;refine eW ?_;refine goW ?_;refine fin2 (fun w' H => ?_);have hlt := hA.ex.shorter hB.ex h;refine ⟨_, _, rvT, rvT, ⟨none, 0, [], ao, ca, xs, rfl, ?_, ?_, (fun b o e => nomatch e), .inr ⟨rfl, rfl⟩⟩, H.below⟩
   · rw [Nat.div_eq_of_lt hlt];exact ⟨⟨Ok.nil, fun h => absurd h (by simp)⟩, ⟨fun _ h => (List.not_mem_nil h).elim, rfl, rfl⟩, Nat.le_refl _, by omega⟩
   · rw [Nat.mod_eq_of_lt hlt];exact hA.below H.below
 · have h : ys.length <= xs.length := by have h := of_decide_eq_false h; omega
   obtain ⟨top, htop⟩ : ∃ top, gw ys (ys.length - 1) = top := ⟨_, rfl⟩;have htop1 : 1 <= top := by
    have := tlen_top ys (by rw [hB.ex.trim]; omega);rw [hB.ex.trim] at this;unfold gw at htop; omega
   obtain ⟨bb, bof, rfl⟩ := hB.at_.ao h0;obtain ⟨lp, hlp⟩ : ∃ lp, ys.length - 1 = lp := ⟨_, rfl⟩;have hlp' : (lp : Int) < (ys.length : Int) := by omega
   rw [hlp] at htop;have htB := hB.ex.ok.gw_ lp;rw [htop] at htB;refine goW ?_;refine rW [] ?_;refine dW ?_;refine eW ?_;refine nextW (seqW (joinW (X := Nat) (FcI top) (fun k => [(6, .int .u64 ((2 ^ k : Nat) : Int)), (1, .slice (some ⟨bb, bof, none⟩) ys.length cb), (0, .slice ao xs.length ca)]) (fun _ => [.wat ao xs, .wat (some ⟨bb, bof, none⟩) ys]) ?_ fun k hk => ?_))
   · refine goW ?_;refine loopW (X := Nat) (FcI top) (fun k => 32 - k) (fun k => [(6, .int .u64 ((2 ^ k : Nat) : Int)), (1, .slice (some ⟨bb, bof, none⟩) ys.length cb), (0, .slice ao xs.length ca)]) (fun _ => [.wat ao xs, .wat (some ⟨bb, bof, none⟩) ys]) 0 ⟨by omega, by omega⟩ fun k hk => ?_;have hk1 := hk.h1;have hf : 2 ^ k < HB := Nat.lt_of_le_of_lt (Nat.le_mul_of_pos_left _ htop1) hk1;obtain ⟨f, hf'⟩ : ∃ f, 2 ^ k = f := ⟨_, rfl⟩;rw [hf'] at hk1;have htW : top * f < W := Nat.lt_trans hk1 (by decide);rw [hf'];refine goW ?_;refine wordW lp mm1 (by omega) ?_;rw [htop];refine rW [] ?_;refine dW ?_;refine dW ?_;refine dW ?_;refine dE ((predN (a := ys.length) h0 (by omega)).trans (by rw [hlp])) ?_;refine dW ?_;refine dW ?_;refine dW ?_;refine dE (mulB (a := top) (b := f) htW) ?_;refine dW ?_;refine eW ?_;refine goW ?_;refine condW (fun h => ?_) (fun h => ?_)
     · have h : top * f < 2147483648 := by have h := of_decide_eq_true h; omega
       have hn : FcI top (k + 1) := FcI.next htop1 (by rw [hf']; exact h);obtain ⟨f2, hf2⟩ : ∃ f2, 2 ^ (k + 1) = f2 := ⟨_, rfl⟩;have e2 : 2 * f = f2 := by rw [<- hf2, <- hf', Nat.pow_succ, Nat.mul_comm]
       have hf2W : 2 * f < W := by rw [hf'] at hf; unfold HB W at *; omega
       refine goW ?_;refine rW [] ?_;refine dW ?_;refine dE ((dblB hf2W).trans (by rw [e2])) ?_;refine dW ?_;refine eW ?_;subst hf2;refine goW ?_;exact backW (k + 1) ⟨hn, by have := hn.h2; omega⟩
     · subst hf';refine goW ?_;exact joinE k hk
   · have hk1 := hk.h1;have hf : 2 ^ k < HB := Nat.lt_of_le_of_lt (Nat.le_mul_of_pos_left _ htop1) hk1;have hfp : 0 < 2 ^ k := Nat.pow_pos (by omega);have hft := fac_top hB.ex h0 (by rw [hlp, htop]; exact hk1);obtain ⟨f, hf'⟩ : ∃ f, 2 ^ k = f := ⟨_, rfl⟩;rw [hf'] at hf hfp hft ⊢;obtain ⟨D, hD⟩ : ∃ D, B * f = D := ⟨_, rfl⟩;rw [hD] at hft;obtain ⟨N, hN⟩ : ∃ N, xs.length + 1 = N := ⟨_, rfl⟩;refine goW ?_;refine rW [] ?_;refine dW ?_;refine dW ?_;refine cD (N := N) (Pl := fun ts => ts.length = N /\ BOk ts /\ bval ts = A * f) ?_ (fun w' H => (TScaled_c ao xs.length ca f xs w' H.m0 hA.ex.ok hf rfl hlx).mono (by
      subst hN;rintro e w2 ⟨⟨b, ts, h1, h2, h3, h4, h5, h6⟩, h7⟩;exact ⟨⟨b, ts, h1, h2, ⟨h3, h4, by rw [h5, hA.ex.val]⟩, h6⟩, h7⟩)) fun gr R hR => ?_
     · have hh := hA.ex.lt;obtain ⟨l, h1, h2, h3⟩ := bval_ex N (A * f) (by rw [<- hN, Nat.pow_succ]; exact Nat.lt_of_le_of_lt (Nat.mul_le_mul_right _ (Nat.le_of_lt hh)) (Nat.mul_lt_mul_of_pos_left hf (Nat.pow_pos HB_pos)));exact ⟨l, h1, h2, h3⟩
     obtain ⟨hR1, hR2, hR3⟩ := hR;refine dW ?_;refine eW ?_;refine goW ?_;refine rW [] ?_;refine dW ?_;refine dW ?_;refine cD (N := ys.length + 1) (Pl := fun ts => ts.length = ys.length + 1 /\ BOk ts /\ bval ts = D) ?_ (fun w' H => (TScaled_c (some ⟨bb, bof, none⟩) ys.length cb f ys w' H.m2 hB.ex.ok hf rfl hly).mono (by
      rintro e w2 ⟨⟨b, ts, h1, h2, h3, h4, h5, h6⟩, h7⟩;exact ⟨⟨b, ts, h1, h2, ⟨h3, h4, by rw [h5, hB.ex.val, hD]⟩, h6⟩, h7⟩)) fun gd ts hts => ?_
     · obtain ⟨l, h1, h2, h3⟩ := bval_ex (ys.length + 1) D (Nat.lt_of_lt_of_le hft.1 (Nat.pow_le_pow_right HB_pos (by omega)));exact ⟨l, h1, h2, h3⟩
     obtain ⟨ht1, ht2, ht3⟩ := hts;have htl : tlen ts = ys.length := tlen_val ht2 h0 (by rw [ht3]; exact hft.2) (by rw [ht3]; exact hft.1);refine dW ?_;refine eW ?_;refine goW ?_;refine rW [] ?_;refine dW ?_;refine cV (v := .slice (some ⟨gd, 0, none⟩) ys.length (ys.length + 1)) (fun w' H => (TTrim_c (some ⟨gd, 0, none⟩) (ys.length + 1) (ys.length + 1) ts w' (RowAt.wat H.m0 ht2.ok) ht1.symm (Nat.le_refl _) (by omega)).mono (by rintro e w2 ⟨rfl, rfl⟩; exact ⟨by rw [htl], Below.refl _ _⟩)) ?_;refine dW ?_;refine eW ?_;refine goW ?_;obtain ⟨lb, hlb⟩ : ∃ lb, ys.length = lb := ⟨_, rfl⟩;obtain ⟨ds, hds⟩ : ∃ ds, ts.take lb = ds := ⟨_, rfl⟩;have hdl : ds.length = lb := by rw [<- hds, List.length_take]; omega
     have hdo : BOk ds := by rw [<- hds]; exact ht2.take _
     have hdv : bval ds = D := by rw [<- hds, <- hlb, <- htl, bval_take_tlen, ht3]
     refine pickW (es' := [.row gd 41 (ts.map wv), .row gr 41 (R.map wv)]) ?_;refine readW lb ht2.ok ?_;rw [hds, hlb];obtain ⟨K, hK⟩ : ∃ K, xs.length - lb + 1 = K := ⟨_, rfl⟩;refine rW [] ?_;refine dW ?_;refine dW ?_;refine dW ?_;refine dW ?_;refine dE (difI (a := xs.length) (b := lb) (by omega) (by omega)) ?_;refine dE ((incB (a := xs.length - lb) (by omega)).trans (by rw [hK])) ?_;refine mW K K rfl rfl (Nat.le_refl _) (by omega) fun gq => ?_;refine dW ?_;refine eW ?_;obtain ⟨dt, hdt⟩ : ∃ dt, gw ds lp = dt := ⟨_, rfl⟩;have hdtB := hdo.gw_ lp;rw [hdt] at hdtB;have hlb0 : 0 < lb := by omega
     have hlpb : lb - 1 = lp := by omega
     have hlpb' : (lp : Int) < (lb : Int) := by omega
     have hHW : HB + HB < W := by decide
     obtain ⟨hd, hhd⟩ : ∃ hd, dt + 1 = hd := ⟨_, rfl⟩;refine goW ?_;refine word0W lp mm1 (by omega) ?_;rw [hdt];refine rW [] ?_;refine dW ?_;refine dW ?_;refine dW ?_;refine dE ((predN (a := lb) (by omega) (by omega)).trans (by rw [hlpb])) ?_;refine dW ?_;refine dW ?_;refine dE ((add1B (a := dt) (by omega)).trans (by rw [hhd])) ?_;refine dW ?_;refine eW ?_;refine goW ?_;refine rW [] ?_;refine dW ?_;refine dW ?_;refine dW ?_;refine dW ?_;refine dE (v := .int .i64 ((K : Int) - 1)) ((difI (a := xs.length) (b := lb) (by omega) (by omega)).trans (by congr 1; omega)) ?_;refine dW ?_;refine eW ?_;refine goW ?_;have hDl : D < HB ^ lb := by rw [<- hdv, <- hdl]; exact bval_lt hdo
     have hD0 : 0 < D := Nat.lt_of_lt_of_le (Nat.pow_pos HB_pos) hft.2;refine loopW (X := DvX) (DvO K N D (A * f)) (fun x => x.k) (fun x => [(11, .int .i64 ((x.k : Int) - 1)), (10, .int .u64 (hd : Int)), (9, .slice (some ⟨gq, 0, none⟩) K K), (8, .slice (some ⟨gd, 0, none⟩) lb (lb + 1)), (7, .slice (some ⟨gr, 0, none⟩) N N), (6, .int .u64 (f : Int))])
      (fun x => [.row gq 41 (x.Q.map wv), .row gr 41 (x.R.map wv), .wat (some ⟨gd, 0, none⟩) ds]) ⟨K, List.replicate K 0, R⟩ ⟨Nat.le_refl _, by simp, BOk.replicate _, fun j _ => by simp [gw, List.getElem?_replicate]; split <;> rfl, hR1, hR2, by rw [bval_replicate, hR3]; simp, ?_⟩ fun x hx => ?_
     · show bval R < D * HB ^ K;rw [hR3, <- hD, <- hK];exact dv_init hA.ex.lt (by rw [<- hlb]; exact hB.ex.top h0) hlb0 (by omega) hfp
     obtain ⟨k2, Q1, R1⟩ := x;rcases k2 with _ | m
     · have hf0 : ¬ f = 0 := by omega
       refine goW ?_;refine rW [] ?_;refine dW ?_;refine dB false ?_;refine eW ?_;refine goW ?_;refine cfW ?_;refine goW ?_;refine rW [] ?_;refine dW ?_;refine eW ?_;refine goW ?_;refine rW [] ?_;refine dW ?_;refine dW ?_;refine dE (v := .int .i64 ((N : Int) - 1)) (predI N (by omega)) ?_;refine dW ?_;refine eW ?_;refine goW ?_;refine loopW (X := LsX) (fun y => LsI N f R1 y.k y.c y.T /\ y.k <= N) (fun y => y.k) (fun y => [(16, .int .i64 ((y.k : Int) - 1)), (15, .int .u64 (y.c : Int)), (9, .slice (some ⟨gq, 0, none⟩) K K), (7, .slice (some ⟨gr, 0, none⟩) N N), (6, .int .u64 (f : Int))])
        (fun y => [.row gq 41 (Q1.map wv), .row gr 41 (y.T.map wv)]) ⟨N, 0, R1⟩ ⟨⟨hx.r1, hx.r2, hfp, by rw [List.drop_of_length_le (by rw [hx.r1]; exact Nat.le_refl _)]; simp [bval], fun _ _ => rfl⟩, Nat.le_refl _⟩ fun y hy => ?_
       obtain ⟨k3, c, T⟩ := y;obtain ⟨hy, hkN⟩ := hy;rcases k3 with _ | m
       · have hy : LsI N f R1 0 c T := hy;have hq1 : Q1.length = K := hx.q1;have hq2 : BOk Q1 := hx.q2;obtain ⟨e1, e2⟩ := dv_end (A := A) (B := B) (f := f) hfp (by rw [hD]; exact hx.v1) (by rw [hD]; have := hx.v2; simpa using this) (by have := hy.h4; simpa using this) hy.h3;have hq := Bex.of hq2;have ht := Bex.of hy.h2;rw [e1] at hq;rw [e2] at ht;have lq : (Q1.take (tlen Q1)).length = tlen Q1 := by rw [List.length_take, Nat.min_eq_left (tlen_le Q1)]
         have lt : (T.take (tlen T)).length = tlen T := by rw [List.length_take, Nat.min_eq_left (tlen_le T)]
         have bq := tlen_le Q1;have bt := tlen_le T;rw [hq1] at bq;rw [hy.h1] at bt;refine goW ?_;refine rW [] ?_;refine dW ?_;refine dB false ?_;refine eW ?_;refine goW ?_;refine cfW ?_;refine goW ?_;refine rW [] ?_;refine dW ?_;refine cV (v := .slice (some ⟨gq, 0, none⟩) (tlen Q1) K) (fun w' H => (TTrim_c (some ⟨gq, 0, none⟩) K K Q1 w' (RowAt.wat H.m0 hq2.ok) hq1.symm (Nat.le_refl _) (by omega)).mono (by rintro e w2 ⟨rfl, rfl⟩; exact ⟨rfl, Below.refl _ _⟩)) ?_;refine dW ?_;refine cV (v := .slice (some ⟨gr, 0, none⟩) (tlen T) N) (fun w' H => (TTrim_c (some ⟨gr, 0, none⟩) N N T w' (RowAt.wat H.m1 hy.h2.ok) hy.h1.symm (Nat.le_refl _) (by omega)).mono (by rintro e w2 ⟨rfl, rfl⟩; exact ⟨rfl, Below.refl _ _⟩)) ?_;refine dW ?_;refine dW ?_;refine eW ?_;refine goW ?_;refine fin2 (fun w' H => ?_);rw [<- lq, <- lt] ;exact ⟨_, _, rvT, rvT, ⟨some ⟨gq, 0, none⟩, K, Q1.take (tlen Q1), some ⟨gr, 0, none⟩, N, T.take (tlen T), rfl, ⟨(RowAt.wat H.m0 hq2.ok).take _, hq, by omega, by omega⟩, ⟨(RowAt.wat H.m1 hy.h2.ok).take _, ht, by omega, by omega⟩,
          (fun b o e => by cases e; exact (H.own _ (List.mem_cons_self ..) rfl gq rfl).resolve_left id), .inl (fun b o e => by cases e; exact (H.own _ mm1 rfl gr rfl).resolve_left id)⟩, H.below⟩
       · have em : ((m + 1 : Nat) : Int) - 1 = (m : Int) := by omega
         rw [em];have hy : LsI N f R1 (m + 1) c T := hy;have hkN : m + 1 <= N := hkN;have hg := gw_some (ws := T) (i := m) (by rw [hy.h1]; omega);obtain ⟨d, hd'⟩ : ∃ d, gw T m = d := ⟨_, rfl⟩;have hdB := hy.h2.gw_ m;obtain ⟨z, hz⟩ : ∃ z, c * HB + gw T m = z := ⟨_, rfl⟩;obtain ⟨n1, n2, n3⟩ := hy.next (by omega) hf hz;rw [hd'] at hg hz hdB;have hc := hy.h3;have hcW : c * HB < W := by unfold HB W at *; omega
         have hzW : z < W := by unfold HB W at *; omega
         have hmN : (m : Int) < (N : Int) := by omega
         obtain ⟨a, ha⟩ : ∃ a, z / f = a := ⟨_, rfl⟩;obtain ⟨b, hb⟩ : ∃ b, z % f = b := ⟨_, rfl⟩;rw [ha] at n2;rw [ha, hb] at n3;refine goW ?_;refine rW [] ?_;refine dW ?_;refine dB true ?_;refine eW ?_;refine goW ?_;refine ctW ?_;refine goW ?_;refine rW [] ?_;refine dW ?_;refine dE (mulHB (a := c) hcW) ?_;refine dW ?_;refine dW ?_;refine dW ?_;refine dW ?_;refine dE ((addB (a := c * HB) (b := d) (by rw [hz]; exact hzW)).trans (by rw [hz])) ?_;refine dW ?_;refine eW ?_;refine goW ?_;refine rW [] ?_;refine dW ?_;refine dW ?_;refine dW ?_;refine dW ?_;refine dE ((quoV (a := z) (b := f) hzW hfp).trans (by rw [ha])) ?_;refine dW ?_;refine sU m a (by rw [hy.h1]; omega) rfl (k' := ?_);refine eW ?_;refine goW ?_;refine rW [] ?_;refine dW ?_;refine dW ?_;refine dE ((remV (a := z) (b := f)).trans (by rw [hb])) ?_;refine dW ?_;refine eW ?_;refine goW ?_;refine rW [] ?_;refine dW ?_;refine dE (v := .int .i64 ((m : Int) - 1)) (predI m (by omega)) ?_;refine dW ?_;refine eW ?_;exact backW (⟨m, b, T.set m a⟩ : LsX) ⟨⟨n3, by show m <= N; omega⟩, Nat.lt_succ_self m⟩
     · have em : ((m + 1 : Nat) : Int) - 1 = (m : Int) := by omega
       rw [em];refine goW ?_;refine rW [] ?_;refine dW ?_;refine dB true ?_;refine eW ?_;refine goW ?_;refine ctW ?_;refine goW ?_;refine loopW (X := DvX) (fun y => DvI K N m D (A * f) (bval R1) y.Q y.R) (fun y => bval y.R) (fun _ => [(11, .int .i64 (m : Int)), (10, .int .u64 (hd : Int)), (9, .slice (some ⟨gq, 0, none⟩) K K), (8, .slice (some ⟨gd, 0, none⟩) lb (lb + 1)), (7, .slice (some ⟨gr, 0, none⟩) N N), (6, .int .u64 (f : Int))])
        (fun x => [.row gq 41 (x.Q.map wv), .row gr 41 (x.R.map wv), .wat (some ⟨gd, 0, none⟩) ds]) ⟨m, Q1, R1⟩ hx.in_ fun y hy => ?_
       obtain ⟨_, Q2, R2⟩ := y;have hy : DvI K N m D (A * f) (bval R1) Q2 R2 := hy;have hmK : m + 1 <= K := hx.k1;obtain ⟨L0, hL0⟩ : ∃ L0, m + lp = L0 := ⟨_, rfl⟩;obtain ⟨L1, hL1⟩ : ∃ L1, m + lb = L1 := ⟨_, rfl⟩;have hL10 : L1 - 1 = L0 := by omega
       have hL1N : L1 < N := by omega
       have hL1N' : (L1 : Int) < (N : Int) := by omega
       have hL0N' : (L0 : Int) < (N : Int) := by omega
       have hg0 := gw_some (ws := R2) (i := L0) (by rw [hy.r1]; omega);have hg1 := gw_some (ws := R2) (i := L1) (by rw [hy.r1]; omega);have hu := hy.r2.gw_ L0;have hv := hy.r2.gw_ L1;have gs := fun t n ht hn => guess (R := R2) (ds := ds) (m := m) (lb := lp) (n := n) (t := t) (D := D) (by omega) hdo hdv (by rw [hy.r1]; omega) ht hy.v2 hn;rw [show m + lp + 1 = L1 by omega, hL0, hdt, hhd] at gs;obtain ⟨u, hu'⟩ : ∃ u, gw R2 L0 = u := ⟨_, rfl⟩;obtain ⟨v, hv'⟩ : ∃ v, gw R2 L1 = v := ⟨_, rfl⟩;rw [hu'] at hg0 hu gs;rw [hv'] at hg1 hv gs;have hvH : v * HB < W := by show v * HB < HB * HB; exact Nat.mul_lt_mul_of_pos_right hv HB_pos
       have hvH2 : u + v * HB < W := by unfold HB W at *; omega
       obtain ⟨t, ht⟩ : ∃ t, u + v * HB = t := ⟨_, rfl⟩;rw [ht] at hvH2;obtain ⟨n, hn⟩ : ∃ n, t / hd = n := ⟨_, rfl⟩;obtain ⟨gs1, gs2⟩ := gs t n ht hn;clear gs;have hhd0 : ¬ hd = 0 := by omega
       refine goW ?_;refine rW [] ?_;refine dW ?_;refine dW ?_;refine dW ?_;refine dW ?_;refine dE ((sumI (a := m) (b := lb) (by omega)).trans (by rw [hL1])) ?_;refine dE ((predN (a := L1) (by omega) (by omega)).trans (by rw [hL10])) ?_;refine dW ?_;refine dW ?_;refine dW ?_;refine eW ?_;refine goW ?_;refine rW [] ?_;refine dW ?_;refine dW ?_;refine dW ?_;refine dE ((sumI (a := m) (b := lb) (by omega)).trans (by rw [hL1])) ?_;refine dW ?_;refine dW ?_;refine dB true ?_;refine eW ?_;refine goW ?_;refine ctW ?_;refine goW ?_;refine rW [] ?_;refine dW ?_;refine dW ?_;refine dW ?_;refine dW ?_;refine dW ?_;refine dE ((sumI (a := m) (b := lb) (by omega)).trans (by rw [hL1])) ?_;refine dW ?_;refine dW ?_;refine dE (mulHB (a := v) hvH) ?_;refine dE ((addB (a := u) (b := v * HB) (by rw [ht]; exact hvH2)).trans (by rw [ht])) ?_;refine dW ?_;refine eW ?_;refine goW ?_;refine rW [] ?_;refine dW ?_;refine dW ?_;refine dE ((quoV (a := t) (b := hd) hvH2 (by omega)).trans (by rw [hn])) ?_;refine dW ?_;refine eW ?_;refine nextW (seqW (joinW (X := Nat) (fun n' => 1 <= n' /\ HB ^ m * (n' * D) <= bval R2 /\ n' < HB) (fun n' => [(13, .int .u64 (n' : Int)), (11, .int .i64 (m : Int)), (10, .int .u64 (hd : Int)), (9, .slice (some ⟨gq, 0, none⟩) K K), (8, .slice (some ⟨gd, 0, none⟩) lb (lb + 1)), (7, .slice (some ⟨gr, 0, none⟩) N N), (6, .int .u64 (f : Int))]) (fun _ => [.row gq 41 (Q2.map wv), .row gr 41 (R2.map wv), .wat (some ⟨gd, 0, none⟩) ds]) ?_ fun n' hz => ?_))
       · refine goW ?_;refine rW [] ?_;refine dW ?_;refine dW ?_;refine eW ?_;refine goW ?_;refine condW (fun h => ?_) (fun h => ?_)
         · have h : n = 0 := by
            have h : (n : Int) = 0 := by simpa using h
            omega
           subst h;refine goW ?_;refine rW [] ?_;refine dW ?_;refine dW ?_;refine dW ?_;refine cV (v := .bool (decide (HB ^ m * D <= bval R2))) (fun w' H => (TGoes_c (some ⟨gr, 0, none⟩) N N R2 (some ⟨gd, 0, none⟩) lb (lb + 1) m ds w' (RowAt.wat H.m1 hy.r2.ok) H.m2 hy.r2 hdo hy.r1.symm hdl.symm (by omega) (by omega) (Nat.lt_of_lt_of_le hy.v2 (by rw [show m + lb + 1 = lb + (m + 1) by omega, Nat.pow_add HB lb]; exact Nat.mul_le_mul_right _ (Nat.le_of_lt hDl)))).mono (by rintro e w2 ⟨rfl, hb⟩; exact ⟨by rw [hdv], hb⟩)) ?_;refine dW ?_;refine eW ?_;refine goW ?_;refine rW [] ?_;refine dW ?_;refine dW ?_;refine eW ?_;refine goW ?_;refine condW (fun h => ?_) (fun h => ?_)
           · have hlt : bval R2 < HB ^ m * D := by simpa using h
             refine goW ?_;refine rW [] ?_;refine dW ?_;refine dE (v := .int .i64 ((m : Int) - 1)) (predI m (by omega)) ?_;refine dW ?_;refine eW ?_;exact backW (⟨m, Q2, R2⟩ : DvX) ⟨hy.out (by omega) hlt, Nat.lt_succ_self m⟩
           · have hge : HB ^ m * D <= bval R2 := by simpa using h
             refine goW ?_;refine rW [] ?_;refine dW ?_;refine eW ?_;exact joinE 1 ⟨Nat.le_refl _, by rw [Nat.one_mul]; exact hge, by decide⟩
         · have h : n ≠ 0 := by
            have h : ¬ (n : Int) = 0 := by simpa using h
            omega
           refine skipW ?_;exact joinE n ⟨by omega, gs1, gs2⟩
       · obtain ⟨hz1, hz2, hz3⟩ := hz;have hne : ∃ R' : List Nat, R'.length = N /\ BOk R' /\ bval R' + HB ^ m * (n' * D) = bval R2 := by
          have hlt := bval_lt hy.r2;rw [hy.r1] at hlt;obtain ⟨l, h1, h2, h3⟩ := bval_ex N (bval R2 - HB ^ m * (n' * D)) (by omega);exact ⟨l, h1, h2, by omega⟩
         refine goW ?_;refine rW [] ?_;refine dW ?_;refine dW ?_;refine dW ?_;refine dW ?_;refine cU (α := {R' : List Nat // R'.length = N /\ BOk R' /\ bval R' + HB ^ m * (n' * D) = bval R2}) (mk := fun _ => .tuple #[]) (cs' := fun p => p.1.map wv) (fun w' H => (TTakeOff_c gr N N R2 (some ⟨gd, 0, none⟩) lb (lb + 1) n' m ds w' H.m1 H.m2 (fun _ o e hb => by
          cases e;exact H.apart (e := .row gr 41 (R2.map wv)) (e1 := .wat (some ⟨gd, 0, none⟩) ds) mm1 mm2 rfl rfl (b := gr) rfl ⟨by omega, 0, by rw [show gd = gr from hb]⟩) hy.r2 hdo hy.r1 hdl.symm hz3 (by omega) (by omega) (by omega) (by rw [hdv]; exact hz2)).mono (by
          rintro e w2 ⟨R', rfl, h1, h2, h3, h4, h5⟩;exact ⟨⟨R', h1, h2, by rw [hdv] at h3; exact h3⟩, rfl, h5, h4⟩)) (fun R' => ?_) (by obtain ⟨l, h⟩ := hne; exact ⟨⟨l, h⟩⟩)
         obtain ⟨R3, h1, h2, h3⟩ := R';obtain ⟨nx1, nx2⟩ := hy.next (by omega) h1 h2 h3 hD0;refine eW ?_;have hmQ := gw_some (ws := Q2) (i := m) (by rw [hy.q1]; omega);obtain ⟨v2, hv2⟩ : ∃ v2, gw Q2 m = v2 := ⟨_, rfl⟩;rw [hv2] at hmQ nx1 nx2;have hmK' : (m : Int) < (K : Int) := by omega
         refine goW ?_;refine rW [] ?_;refine dW ?_;refine dW ?_;refine dW ?_;refine dW ?_;refine dW ?_;refine dW ?_;refine dW ?_;refine dE (addB (a := v2) (b := n') (by omega)) ?_;refine dW ?_;refine sU m (v2 + n') (by rw [hy.q1]; omega) rfl (k' := ?_);refine eW ?_;refine goW ?_;exact backW (⟨m, Q2.set m (v2 + n'), R3⟩ : DvX) ⟨nx2, by
          show bval R3 < bval R2;have : 0 < HB ^ m * (n' * D) := Nat.mul_pos (Nat.pow_pos HB_pos) (Nat.mul_pos hz1 hD0);omega⟩
end Go.Proofs.YtdgfhcaokigieaaGreat
