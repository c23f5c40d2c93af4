/- Part 6 of 6 of the proof that the law SnfChains returns true for every input of bulk at most 1048576 and leaves its arguments as they were: the law itself. -/
import Derived.Deep.RegionLaw
import Derived.Test.YtajmkebkgmbfnaaGreatPcE
set_option linter.all false
namespace Go.Proofs.YtajmkebkgmbfnaaGreat
theorem gd_lt (xs : List Int) {i : Nat} (d : Int) (h : i < xs.length) : xs.getD i d = xs[i] := by simp [h]
theorem gd_ge (xs : List Int) {i : Nat} (d : Int) (h : xs.length <= i) : xs.getD i d = d := by simp [h]
def Sh (c : Nat) (R : List Hd) : Prop := ∀ h ∈ R, h.xs.length = c
theorem ent_get {R : List Hd} {i : Nat} (hi : i < R.length) (j : Nat) : ent R i j = R[i].xs.getD j 0 := by
 unfold ent; simp [hi]
theorem ent_out {R : List Hd} {i : Nat} (hi : R.length <= i) (j : Nat) : ent R i j = 0 := by
 unfold ent; rw [List.getElem?_eq_none hi]; rfl
theorem Sh.get {c : Nat} {R : List Hd} (h : Sh c R) {i : Nat} (hi : i < R.length) : R[i].xs.length = c := h _ (List.getElem_mem hi)
theorem Sh.wide {c : Nat} {R : List Hd} (h : Sh c R) (i : Nat) {j : Nat} (hj : c <= j) : ent R i j = 0 := by
 by_cases hi : i < R.length
 · rw [ent_get hi, gd_ge _ _ (by rw [h.get hi]; exact hj)]
 · exact ent_out (by omega) j
theorem Sh.setXs_ {c : Nat} {R : List Hd} (h : Sh c R) (i : Nat) {xs : List Int} (hx : xs.length = c) : Sh c (setXs R i xs) := by
 intro r hr;obtain ⟨j, hj, rfl⟩ := List.getElem_of_mem hr;rw [setXs_length] at hj;rw [setXs_get hj];split
 · exact hx
 · exact h.get hj
theorem ent_setXs {R : List Hd} {i : Nat} (hi : i < R.length) (xs : List Int) (a b : Nat) : ent (setXs R i xs) a b = if a = i then xs.getD b 0 else ent R a b := by
 by_cases ha : a < R.length
 · rw [ent_get (by rw [setXs_length]; exact ha), setXs_get ha];by_cases e : i = a
   · subst e; simp
   · rw [if_neg e, if_neg (fun h => e h.symm), ent_get ha]
 · rw [ent_out (by rw [setXs_length]; omega), if_neg (by omega), ent_out (by omega)]
theorem getD_zipWith {f : Int -> Int -> Int} (hf : f 0 0 = 0) {xs ys : List Int} (h : xs.length = ys.length) (b : Nat) : (List.zipWith f xs ys).getD b 0 = f (xs.getD b 0) (ys.getD b 0) := by
 by_cases hb : b < xs.length
 · have hb2 : b < ys.length := by omega
   have hb3 : b < (List.zipWith f xs ys).length := by simp; omega
   rw [gd_lt _ _ hb3, gd_lt _ _ hb, gd_lt _ _ hb2, List.getElem_zipWith]
 · rw [gd_ge _ _ (by simp; omega), gd_ge _ _ (by omega), gd_ge _ _ (by omega), hf]
theorem ent_addT {c : Nat} {R : List Hd} (hs : Sh c R) {i j : Nat} (hi : i < R.length) (hj : j < R.length) (k : Int) (a b : Nat) : ent (addT R i j k) a b = if a = i then k * ent R j b + ent R i b else ent R a b := by
 rw [addT_eq hi hj]; unfold addR;rw [ent_setXs hi];unfold addRow;rw [getD_zipWith (by simp) (by rw [hs.get hi, hs.get hj]), <- ent_get hi, <- ent_get hj]
theorem Sh.addT_ {c : Nat} {R : List Hd} (hs : Sh c R) (i j : Nat) (k : Int) : Sh c (addT R i j k) := by
 unfold addT;split
 · rename_i h;unfold addR;exact hs.setXs_ i (by unfold addRow; rw [List.length_zipWith, hs.get h.1, hs.get h.2]; omega)
 · exact hs
theorem blk_addT (R : List Hd) (i j : Nat) (k : Int) : (addT R i j k).map Hd.blk = R.map Hd.blk := by
 unfold addT; split
 · exact setXs_blk ..
 · rfl
theorem ent_mixT {c : Nat} {R : List Hd} (hs : Sh c R) {i j : Nat} (hi : i < R.length) (hj : j < R.length) (hij : i ≠ j) (p q r s : Int) (a b : Nat) : ent (mixT R i j p q r s) a b = if a = i then p * ent R i b + q * ent R j b else if a = j then r * ent R i b + s * ent R j b else ent R a b := by
 rw [mixT_eq hi hj]; unfold mixR;rw [ent_setXs (by rw [setXs_length]; exact hj), ent_setXs hi];have hl : R[i].xs.length = R[j].xs.length := by rw [hs.get hi, hs.get hj]
 unfold mixRow;rw [getD_zipWith (by simp) hl, getD_zipWith (by simp) hl, <- ent_get hi, <- ent_get hj];by_cases e : a = i
 · subst e; rw [if_neg hij, if_pos rfl, if_pos rfl]
 · rw [if_neg e, if_neg e]
theorem Sh.mixT_ {c : Nat} {R : List Hd} (hs : Sh c R) (i j : Nat) (p q r s : Int) : Sh c (mixT R i j p q r s) := by
 unfold mixT;split
 · rename_i h;unfold mixR;refine (hs.setXs_ i ?_).setXs_ j ?_ <;> (unfold mixRow; rw [List.length_zipWith, hs.get h.1, hs.get h.2]; omega)
 · exact hs
theorem blk_mixT (R : List Hd) (i j : Nat) (p q r s : Int) : (mixT R i j p q r s).map Hd.blk = R.map Hd.blk := by
 unfold mixT; split
 · unfold mixR; rw [setXs_blk, setXs_blk]
 · rfl
theorem ent_turnT {R : List Hd} {i : Nat} (hi : i < R.length) (a b : Nat) : ent (turnT R i) a b = if a = i then - ent R i b else ent R a b := by
 rw [turnT_eq hi]; unfold turnR;rw [ent_setXs hi, ent_get hi];split
 · unfold negRow;by_cases hb : b < R[i].xs.length
   · rw [gd_lt _ _ (by simpa using hb), gd_lt _ _ hb]; simp
   · rw [gd_ge _ _ (by simp; omega), gd_ge _ _ (by omega)]; rfl
 · rfl
theorem Sh.turnT_ {c : Nat} {R : List Hd} (hs : Sh c R) (i : Nat) : Sh c (turnT R i) := by
 unfold turnT;split
 · rename_i h;unfold turnR;exact hs.setXs_ i (by simp [negRow, hs.get h])
 · exact hs
theorem swapT_get {R : List Hd} {i j m : Nat} (hi : i < R.length) (hj : j < R.length) (hm : m < R.length) : (swapT R i j)[m]'(by rw [swapT_length]; exact hm) = R[swp i j m]'(swp_lt hi hj hm) := by
 have := swapR_get hi hj hm;rw [<- this]; congr 1; exact swapT_eq hi hj
theorem ent_swapT {R : List Hd} {i j : Nat} (hi : i < R.length) (hj : j < R.length) (a b : Nat) : ent (swapT R i j) a b = ent R (swp i j a) b := by
 by_cases ha : a < R.length
 · rw [ent_get (by rw [swapT_length]; exact ha), swapT_get hi hj ha, ent_get]
 · rw [ent_out (by rw [swapT_length]; omega), ent_out];unfold swp; split
   · omega
   · split <;> omega
theorem Sh.swapT_ {c : Nat} {R : List Hd} (hs : Sh c R) (i j : Nat) : Sh c (swapT R i j) := by
 unfold swapT;split
 · rename_i h;intro r hr;obtain ⟨m, hm, rfl⟩ := List.getElem_of_mem hr;rw [swapR_length] at hm;rw [swapR_get h.1 h.2 hm];exact hs.get _
 · exact hs
theorem lead_ent {R : List Hd} {i : Nat} (hi : i < R.length) {c : Nat} (hs : Sh c R) : (leadOf R i <= c) /\ (∀ b, b < leadOf R i -> ent R i b = 0) /\ (leadOf R i < c -> ent R i (leadOf R i) ≠ 0) := by
 rw [leadOf_eq hi];have key : ∀ xs : List Int, (∀ b, b < lead xs -> xs.getD b 0 = 0) /\ (lead xs < xs.length -> xs.getD (lead xs) 0 ≠ 0) := by
  intro xs;induction xs with
  | nil => exact ⟨fun b _ => by simp, fun h => by simp at h⟩
  | cons x xs ih =>
   unfold lead;by_cases hx : x = 0
   · rw [if_pos hx];refine ⟨fun b hb => ?_, fun h => ?_⟩
     · cases b with
       | zero => simpa using hx
       | succ b => rw [List.getD_cons_succ]; exact ih.1 b (by omega)
     · rw [List.getD_cons_succ]; exact ih.2 (by simpa using h)
   · rw [if_neg hx];exact ⟨fun b hb => by omega, fun _ => by simpa using hx⟩
 have hl := hs.get hi;have h1 := key R[i].xs;refine ⟨hl ▸ lead_le _, fun b hb => ?_, fun h => ?_⟩
 · rw [ent_get hi]; exact h1.1 b hb
 · rw [ent_get hi]; exact h1.2 (by omega)
theorem leadOf_at {R : List Hd} {i : Nat} (hi : i < R.length) {c : Nat} (hs : Sh c R) {j : Nat} (h0 : ∀ b, b < j -> ent R i b = 0) (hj : ent R i j ≠ 0) : leadOf R i = j := by
 have h1 := lead_ent hi hs;have hjc : j < c := by
  by_cases h : j < c
  · exact h
  · exact absurd (hs.wide i (by omega)) hj
 rcases Nat.lt_trichotomy (leadOf R i) j with h | h | h
 · exact absurd (h0 _ h) (h1.2.2 (by omega))
 · exact h
 · exact absurd (h1.2.1 _ h) hj
theorem Fit.of {B c : Nat} {R : List Hd} (hs : Sh c R) (h : ∀ a b, (ent R a b).natAbs < W ^ B) : Fit B c R := by
 refine ⟨hs, fun r hr x hx => ?_⟩;obtain ⟨i, hi, rfl⟩ := List.getElem_of_mem hr;obtain ⟨j, hj, rfl⟩ := List.getElem_of_mem hx;have := h i j;rw [ent_get hi, gd_lt _ _ hj] at this;exact wlen_le_of_lt this
/-! Bounds by powers of the base. -/
theorem pw_le {u v : Nat} (h : u <= v) : W ^ u <= W ^ v := Nat.pow_le_pow_right W_pos h
theorem pw_lt {n u v : Nat} (h : n < W ^ u) (k : u <= v) : n < W ^ v := Nat.lt_of_lt_of_le h (pw_le k)
theorem pw_pos (u : Nat) : 0 < W ^ u := Nat.pow_pos W_pos
theorem pw_muladd {k y x u d : Nat} (hk : k < W ^ u) (hy : y < W ^ d) (hx : x < W ^ u) : k * y + x < W ^ (u + d) := by
 have h1 : (k + 1) * W ^ d <= W ^ u * W ^ d := Nat.mul_le_mul_right _ hk;have h2 : k * (y + 1) <= k * W ^ d := Nat.mul_le_mul_left _ hy;rw [Nat.pow_add];rw [Nat.succ_mul] at h1;rw [Nat.mul_add, Nat.mul_one] at h2;have h3 : W ^ u <= W ^ u * W ^ d := by have := Nat.mul_le_mul_left (W ^ u) (pw_pos d); omega
 by_cases hk0 : k = 0
 · subst hk0; omega
 · have h4 : k * y + k <= k * W ^ d := h2;have h5 : (W ^ u - 1) * y + (W ^ u - 1) <= (W ^ u - 1) * W ^ d := by
    have := Nat.mul_le_mul_left (W ^ u - 1) hy;rw [Nat.mul_succ] at this; exact this
   have h6 : k * y <= (W ^ u - 1) * y := Nat.mul_le_mul_right _ (by omega);have h7 : (W ^ u - 1) * W ^ d < W ^ u * W ^ d := Nat.mul_lt_mul_of_pos_right (by have := pw_pos u; omega) (pw_pos d);omega
theorem natAbs_muladd (k y x : Int) : (k * y + x).natAbs <= k.natAbs * y.natAbs + x.natAbs := by
 have := Int.natAbs_add_le (k * y) x
 rwa [Int.natAbs_mul] at this
theorem fdiv_le {x y : Int} (hy : 0 < y) : (x.fdiv y).natAbs <= x.natAbs := by
 rw [Int.fdiv_eq_ediv_of_nonneg _ (Int.le_of_lt hy)];exact Int.natAbs_ediv_le_natAbs x y
theorem fmod_lt' {x y : Int} (hy : 0 < y) : 0 <= x.fmod y /\ x.fmod y < y := by
 rw [Int.fmod_eq_emod_of_nonneg _ (Int.le_of_lt hy)];exact ⟨Int.emod_nonneg _ (by omega), Int.emod_lt_of_pos _ hy⟩
theorem fmod_def' {x y : Int} (hy : 0 < y) : -(x.fdiv y) * y + x = x.fmod y := by
 rw [Int.fdiv_eq_ediv_of_nonneg _ (Int.le_of_lt hy), Int.fmod_eq_emod_of_nonneg _ (Int.le_of_lt hy), Int.emod_def, Int.mul_comm y, Int.neg_mul]; omega
/-! settle. -/
def sinF (ls : List Nat) (i : Nat) : Nat -> Nat -> List Hd -> List Hd
 | 0, _, R => R
 | f + 1, k, R => sinF ls i f (k + 1) (addT R i k (-((ent R i (ls.getD k 0)).fdiv (ent R k (ls.getD k 0)))))
def soutF (ls : List Nat) (n : Nat) : Nat -> List Hd -> List Hd
 | 0, R => R
 | m + 1, R => soutF ls n m (sinF ls m (n - (m + 1)) (m + 1) R)
theorem SpEq.add {n : Nat} {E F : Nat -> Nat -> Int} {i k : Nat} (hi : i < n) (hk : k < n) (hik : i ≠ k) (q : Int) (h : ∀ a b, F a b = if a = i then q * E k b + E i b else E a b) : SpEq n E n F := by
 refine ⟨fun a ha => ?_, fun a ha => ?_⟩
 · by_cases e : a = i
   · subst e;refine ((Sp.row F ha).add ((Sp.row F hk).smul (-q))).congr (fun j => ?_);rw [h a j, if_pos rfl, h k j, if_neg (fun e => hik e.symm), Int.neg_mul]; omega
   · exact (Sp.row F ha).congr (fun j => by rw [h, if_neg e])
 · by_cases e : a = i
   · subst e;refine (((Sp.row E hk).smul q).add (Sp.row E ha)).congr (fun j => ?_);rw [h, if_pos rfl]
   · exact (Sp.row E ha).congr (fun j => by rw [h, if_neg e])
structure SinOk (n c i k : Nat) (l : Nat -> Nat) (R R' : List Hd) : Prop where
 same : ∀ a, a ≠ i -> ∀ b, ent R' a b = ent R a b
 low : ∀ b, (∀ m, k <= m -> m < n -> b < l m) -> ent R' i b = ent R i b
 red : ∀ m, k <= m -> m < n -> 0 <= ent R' i (l m) /\ ent R' i (l m) < ent R m (l m)
 sh : Sh c R'
 len : R'.length = R.length
 blk : R'.map Hd.blk = R.map Hd.blk
 sp : SpEq n (ent R) n (ent R')
theorem Ech.add {n c : Nat} {E F : Nat -> Nat -> Int} {l : Nat -> Nat} (h : Ech n c E l) {i k : Nat} (hik : i < k) (hk : k < n) (q : Int) (e : ∀ a b, F a b = if a = i then q * E k b + E i b else E a b) : Ech n c F l := by
 refine ⟨h.inc, h.lt, fun a ha j hj => ?_, fun a ha => ?_⟩
 · rw [e]; split
   · rename_i e'; subst e';rw [h.zero k hk j (by have := h.inc a k hik hk; omega), h.zero a ha j hj]; simp
   · exact h.zero a ha j hj
 · rw [e]; split
   · rename_i e'; subst e';rw [h.zero k hk _ (h.inc a k hik hk)]; have := h.pos a ha; simpa using this
   · exact h.pos a ha
theorem sinF_ok {n c i : Nat} {l : Nat -> Nat} {ls : List Nat} (hls : ∀ k, k < n -> ls.getD k 0 = l k) : ∀ (f k : Nat) (R : List Hd), k + f = n -> i < k -> Sh c R -> n <= R.length -> Ech n c (ent R) l -> SinOk n c i k l R (sinF ls i f k R)
 | 0, k, R, hf, hik, hs, hn, hE => ⟨fun _ _ _ => rfl, fun _ _ => rfl, fun m h1 h2 => by omega, hs, rfl, rfl, SpEq.refl _ _⟩
 | f + 1, k, R, hf, hik, hs, hn, hE => by
  have hk : k < n := by omega
  have he := fun (a b : Nat) => ent_addT hs (i := i) (j := k) (by omega) (by omega) (-((ent R i (ls.getD k 0)).fdiv (ent R k (ls.getD k 0)))) a b;have ih := sinF_ok (i := i) hls f (k + 1) (addT R i k (-((ent R i (ls.getD k 0)).fdiv (ent R k (ls.getD k 0))))) (by omega) (by omega) (hs.addT_ i k _) (by rw [addT_length]; exact hn) (hE.add hik hk _ he);rw [hls k hk] at he;have hp := hE.pos k hk;refine ⟨fun a ha b => ?_, fun b hb => ?_, fun m hm hmn => ?_, ih.sh, ih.len.trans (addT_length ..), ih.blk.trans (blk_addT ..), (SpEq.add (by omega) hk (by omega) _ he).trans (by rw [<- hls k hk]; exact ih.sp)⟩
  · show ent (sinF ls i f (k + 1) _) a b = _;rw [ih.same a ha b, hls k hk, he, if_neg ha]
  · show ent (sinF ls i f (k + 1) _) i b = _;rw [ih.low b (fun m h1 h2 => hb m (by omega) h2), hls k hk, he, if_pos rfl, hE.zero k hk b (hb k (Nat.le_refl _) hk)]; omega
  · by_cases e : m = k
    · subst e;show 0 <= ent (sinF ls i f (m + 1) _) i (l m) /\ ent (sinF ls i f (m + 1) _) i (l m) < _;rw [ih.low (l m) (fun q h1 h2 => hE.inc m q (by omega) h2), hls m hk, he, if_pos rfl, fmod_def' hp];exact fmod_lt' hp
    · have h1 := ih.red m (by omega) hmn;rw [hls k hk, he m, if_neg (by omega)] at h1;show 0 <= ent (sinF ls i f (k + 1) _) i (l m) /\ ent (sinF ls i f (k + 1) _) i (l m) < _;rw [hls k hk];exact h1
theorem Ech.congr {n c : Nat} {E F : Nat -> Nat -> Int} {l : Nat -> Nat} (h : Ech n c E l) (e : ∀ a, a < n -> ∀ b, F a b = E a b) : Ech n c F l :=
 ⟨h.inc, h.lt, fun a ha j hj => (e a ha j).trans (h.zero a ha j hj), fun a ha => by rw [e a ha]; exact h.pos a ha⟩
theorem SinOk.ech {n c i k : Nat} {l : Nat -> Nat} {R R' : List Hd} (h : SinOk n c i k l R R') (hE : Ech n c (ent R) l) (hik : i < k) (hin : i < n) : Ech n c (ent R') l := by
 have hlow : ∀ b, b <= l i -> ent R' i b = ent R i b := fun b hb => h.low b (fun m h1 h2 => by have := hE.inc i m (by omega) h2; omega);refine ⟨hE.inc, hE.lt, fun a ha j hj => ?_, fun a ha => ?_⟩
 · by_cases e : a = i
   · subst e; rw [hlow j (by omega)]; exact hE.zero a ha j hj
   · rw [h.same a e]; exact hE.zero a ha j hj
 · by_cases e : a = i
   · subst e; rw [hlow _ (Nat.le_refl _)]; exact hE.pos a ha
   · rw [h.same a e]; exact hE.pos a ha
structure SoutOk (n c m : Nat) (l : Nat -> Nat) (R R' : List Hd) : Prop where
 same : ∀ a, m <= a -> ∀ b, ent R' a b = ent R a b
 herm : Herm n c (ent R') l
 sh : Sh c R'
 len : R'.length = R.length
 blk : R'.map Hd.blk = R.map Hd.blk
 sp : SpEq n (ent R) n (ent R')
theorem soutF_ok {n c : Nat} {l : Nat -> Nat} {ls : List Nat} (hls : ∀ k, k < n -> ls.getD k 0 = l k) : ∀ (m : Nat) (R : List Hd), m <= n -> Sh c R -> n <= R.length -> Ech n c (ent R) l -> (∀ i k, m <= i -> i < k -> k < n -> 0 <= ent R i (l k) /\ ent R i (l k) < ent R k (l k)) -> SoutOk n c m l R (soutF ls n m R)
 | 0, R, hm, hs, hn, hE, hr => ⟨fun _ _ _ => rfl, ⟨hE, fun i k => hr i k (Nat.zero_le _)⟩, hs, rfl, rfl, SpEq.refl _ _⟩
 | m + 1, R, hm, hs, hn, hE, hr => by
  have h1 := sinF_ok (i := m) hls (n - (m + 1)) (m + 1) R (by omega) (by omega) hs hn hE;have h2 := soutF_ok hls m (sinF ls m (n - (m + 1)) (m + 1) R) (by omega) h1.sh (by rw [h1.len]; exact hn) (h1.ech hE (by omega) (by omega)) (fun i k hi hik hk => by
   by_cases e : i = m
   · subst e;rw [h1.same k (by omega)];exact h1.red k (by omega) hk
   · rw [h1.same i e, h1.same k (by omega)];exact hr i k (by omega) hik hk)
  exact ⟨fun a ha b => (h2.same a (by omega) b).trans (h1.same a (by omega) b), h2.herm, h2.sh, h2.len.trans h1.len, h2.blk.trans h1.blk, h1.sp.trans h2.sp⟩
theorem SIn_of {n c i B δ : Nat} {l : Nat -> Nat} {ls : List Nat} (hls : ∀ k, k < n -> ls.getD k 0 = l k) : ∀ (f k u : Nat) (R : List Hd), k + f = n -> i < k -> Sh c R -> n <= R.length -> Ech n c (ent R) l ->
 (∀ a b, (ent R a b).natAbs < W ^ B) -> (∀ b, (ent R i b).natAbs < W ^ u) -> (∀ a, k <= a -> a < n -> ∀ b, (ent R a b).natAbs < W ^ δ) -> u + f * δ <= B -> SIn B c ls i n k R (sinF ls i f k R)
 | 0, k, u, R, hf, hik, hs, hn, hE, hB, hu, hd, hb => .done (by omega)
 | f + 1, k, u, R, hf, hik, hs, hn, hE, hB, hu, hd, hb => by
  have hk : k < n := by omega
  have he := fun (a b : Nat) => ent_addT hs (i := i) (j := k) (by omega) (by omega) (-((ent R i (ls.getD k 0)).fdiv (ent R k (ls.getD k 0)))) a b;have hp := hE.pos k hk;have hq : ((ent R i (ls.getD k 0)).fdiv (ent R k (ls.getD k 0))).natAbs < W ^ u := by
   rw [hls k hk];exact Nat.lt_of_le_of_lt (fdiv_le hp) (hu _)
  have hrow : ∀ b, (ent (addT R i k (-((ent R i (ls.getD k 0)).fdiv (ent R k (ls.getD k 0))))) i b).natAbs < W ^ (u + δ) := by
   intro b;rw [he, if_pos rfl];refine Nat.lt_of_le_of_lt (natAbs_muladd _ _ _) ?_;rw [Int.natAbs_neg];exact pw_muladd hq (hd k (Nat.le_refl _) hk b) (hu b)
  have e1 : (f + 1) * δ = f * δ + δ := Nat.succ_mul ..;refine .step hk (Fit.of hs hB) (by rw [hls k hk]; exact hE.lt k hk) (by rw [hls k hk]; omega) ?_;refine SIn_of (δ := δ) hls f (k + 1) (u + δ) _ (by omega) (by omega) (hs.addT_ i k _) (by rw [addT_length]; exact hn) (hE.add hik hk _ he) (fun a b => ?_) hrow (fun a h1 h2 b => ?_) (by omega)
  · by_cases e : a = i
    · subst e; exact pw_lt (hrow b) (by omega)
    · rw [he, if_neg e]; exact hB a b
  · rw [he, if_neg (by omega)]; exact hd a (by omega) h2 b
theorem SOut_of {n c B δ u : Nat} {l : Nat -> Nat} {ls : List Nat} (hls : ∀ k, k < n -> ls.getD k 0 = l k) (hb : u + n * δ <= B) : ∀ (m : Nat) (R : List Hd), m <= n -> Sh c R -> n <= R.length -> Ech n c (ent R) l -> (∀ i k, m <= i -> i < k -> k < n -> 0 <= ent R i (l k) /\ ent R i (l k) < ent R k (l k)) ->
 (∀ a b, (ent R a b).natAbs < W ^ B) -> (∀ a, a < m -> ∀ b, (ent R a b).natAbs < W ^ u) -> (∀ a, a < n -> ∀ b, (ent (soutF ls n m R) a b).natAbs < W ^ δ) -> SOut B c ls n m R (soutF ls n m R)
 | 0, R, hm, hs, hn, hE, hr, hB, hu, hd => .done
 | m + 1, R, hm, hs, hn, hE, hr, hB, hu, hd => by
  have hout := soutF_ok hls (m + 1) R hm hs hn hE hr;have h1 := sinF_ok (i := m) hls (n - (m + 1)) (m + 1) R (by omega) (by omega) hs hn hE;have hr1 : ∀ i k, m <= i -> i < k -> k < n -> 0 <= ent (sinF ls m (n - (m + 1)) (m + 1) R) i (l k) /\ ent (sinF ls m (n - (m + 1)) (m + 1) R) i (l k) < ent (sinF ls m (n - (m + 1)) (m + 1) R) k (l k) := fun i k hi hik hk => by
   by_cases e : i = m
   · subst e;rw [h1.same k (by omega)];exact h1.red k (by omega) hk
   · rw [h1.same i e, h1.same k (by omega)];exact hr i k (by omega) hik hk
  have h2 := soutF_ok hls m (sinF ls m (n - (m + 1)) (m + 1) R) (by omega) h1.sh (by rw [h1.len]; exact hn) (h1.ech hE (by omega) (by omega)) hr1;have hmul : (n - (m + 1)) * δ <= n * δ := Nat.mul_le_mul_right _ (by omega);have hδ : δ <= n * δ := by have := Nat.mul_le_mul_right δ (show 1 <= n by omega); omega
  refine .step (SIn_of (δ := δ) hls (n - (m + 1)) (m + 1) u R (by omega) (by omega) hs hn hE hB (fun b => hu m (by omega) b) (fun a h3 h4 b => ?_) (by omega)) ?_
  · rw [<- hout.same a h3 b]; exact hd a h4 b
  · refine SOut_of hls hb m _ (by omega) h1.sh (by rw [h1.len]; exact hn) (h1.ech hE (by omega) (by omega)) hr1 (fun a b => ?_) (fun a ha b => ?_) hd
    · by_cases e : a = m
      · subst e;rw [<- h2.same a (Nat.le_refl _) b];exact pw_lt (hd a (by omega) b) (by omega)
      · rw [h1.same a e]; exact hB a b
    · rw [h1.same a (by omega)]; exact hu a (by omega) b
/-! meet. -/
theorem ext_eq (a b : Int) (hb : b ≠ 0) : a * extX a b + b * extY a b = extG a b := by
 have h := ext_is a b;unfold ExtIs at h;rw [if_neg hb] at h;exact h.2.2.2
theorem SpEq.two {N : Nat} {E F : Nat -> Nat -> Int} {k n : Nat} (hk : k < N) (hn : n < N) (hkn : k ≠ n) (hs : ∀ a, a ≠ k -> a ≠ n -> ∀ b, F a b = E a b)
 {x y z t x' y' z' t' : Int} (h1 : ∀ b, F k b = x * E k b + y * E n b) (h2 : ∀ b, F n b = z * E k b + t * E n b) (h3 : ∀ b, E k b = x' * F k b + y' * F n b) (h4 : ∀ b, E n b = z' * F k b + t' * F n b) : SpEq N E N F := by
 refine ⟨fun a ha => ?_, fun a ha => ?_⟩
 · by_cases e : a = k
   · subst e; exact (((Sp.row F hk).smul x').add ((Sp.row F hn).smul y')).congr h3
   · by_cases e' : a = n
     · subst e'; exact (((Sp.row F hk).smul z').add ((Sp.row F hn).smul t')).congr h4
     · exact (Sp.row F ha).congr (fun j => (hs a e e' j).symm)
 · by_cases e : a = k
   · subst e; exact (((Sp.row E hk).smul x).add ((Sp.row E hn).smul y)).congr h1
   · by_cases e' : a = n
     · subst e'; exact (((Sp.row E hk).smul z).add ((Sp.row E hn).smul t)).congr h2
     · exact (Sp.row E ha).congr (fun j => hs a e e' j)
structure MeetOk (c k n j δ u : Nat) (R R' : List Hd) : Prop where
 same : ∀ a, a ≠ k -> a ≠ n -> ∀ b, ent R' a b = ent R a b
 low : ∀ b, b < j -> ent R' k b = 0
 piv : 0 < ent R' k j
 gone : ∀ b, b <= j -> ent R' n b = 0
 comb : ∃ t s : Int, t ≠ 0 /\ ∀ b, ent R' n b = t * ent R n b + s * ent R k b
 sp : ∀ N, k < N -> n < N -> SpEq N (ent R) N (ent R')
 bk : ∀ b, (ent R' k b).natAbs < W ^ (u + 2 * δ + 1)
 bn : ∀ b, (ent R' n b).natAbs < W ^ (u + 2 * δ + 1)
 sh : Sh c R'
 len : R'.length = R.length
 blk : R'.map Hd.blk = R.map Hd.blk
theorem meetA_ent {c : Nat} {R : List Hd} (hs : Sh c R) {k n : Nat} (hk : k < R.length) (hn : n < R.length) (j a b : Nat) : ent (meetA R k n j) a b = if a = n then -((ent R n j).fdiv (ent R k j)) * ent R k b + ent R n b else ent R a b :=
 ent_addT hs hn hk _ a b
theorem pw_two {x y z t u d : Nat} (hx : x <= W ^ d) (hy : y < W ^ d) (hz : z <= W ^ d) (ht : t < W ^ (u + d)) : x * y + z * t < W ^ (u + 2 * d + 1) := by
 have h1 : x * y <= W ^ d * W ^ d := Nat.mul_le_mul hx (Nat.le_of_lt hy);have h2 : z * t <= W ^ d * W ^ (u + d) := Nat.mul_le_mul hz (Nat.le_of_lt ht);have e1 : W ^ d * W ^ d <= W ^ (u + 2 * d) := by rw [<- Nat.pow_add]; exact pw_le (by omega)
 have e2 : W ^ d * W ^ (u + d) = W ^ (u + 2 * d) := by rw [<- Nat.pow_add]; congr 1; omega
 have e3 : W ^ (u + 2 * d) * 2 < W ^ (u + 2 * d + 1) := by
  rw [Nat.pow_succ];exact Nat.mul_lt_mul_of_pos_left (by unfold W; omega) (pw_pos _)
 omega
theorem meetA_bound {c : Nat} {R : List Hd} (hs : Sh c R) {k n j δ u : Nat} (hk : k < R.length) (hn : n < R.length) (hp : 0 < ent R k j) (hbk : ∀ b, (ent R k b).natAbs < W ^ δ) (hbn : ∀ b, (ent R n b).natAbs < W ^ u) (b : Nat) : (ent (meetA R k n j) n b).natAbs < W ^ (u + δ) := by
 rw [meetA_ent hs hk hn, if_pos rfl];refine Nat.lt_of_le_of_lt (natAbs_muladd _ _ _) ?_;rw [Int.natAbs_neg];exact pw_muladd (Nat.lt_of_le_of_lt (fdiv_le hp) (hbn j)) (hbk b) (hbn b)
theorem blk_meetT (R : List Hd) (k n j : Nat) : (meetT R k n j).map Hd.blk = R.map Hd.blk := by
 unfold meetT meetA; split
 · exact blk_addT ..
 · rw [blk_mixT]; exact blk_addT ..
theorem meet_ok {c k n j δ u : Nat} {R : List Hd} (hs : Sh c R) (hk : k < R.length) (hn : n < R.length) (hkn : k ≠ n) (hp : 0 < ent R k j) (h0 : ∀ b, b < j -> ent R k b = 0) (h1 : ∀ b, b < j -> ent R n b = 0)
 (hbk : ∀ b, (ent R k b).natAbs < W ^ δ) (hbn : ∀ b, (ent R n b).natAbs < W ^ u) : MeetOk c k n j δ u R (meetT R k n j) := by
 have hA := meetA_ent hs hk hn j;have hAn := fun b => (hA n b).trans (if_pos rfl);have hAk := fun b => (hA k b).trans (if_neg hkn);have hAs := fun a b (h : a ≠ n) => (hA a b).trans (if_neg h);have hsA : Sh c (meetA R k n j) := hs.addT_ n k _;have hlA : (meetA R k n j).length = R.length := addT_length ..;have hbA := meetA_bound hs hk hn hp hbk hbn;have hr : ent (meetA R k n j) n j = (ent R n j).fmod (ent R k j) := by rw [hAn, fmod_def' hp]
 have hrr := fmod_lt' (x := ent R n j) hp;by_cases hz : (ent R n j).fmod (ent R k j) = 0
 · have e : meetT R k n j = meetA R k n j := by unfold meetT; rw [if_pos hz]
   rw [e];refine ⟨fun a _ h b => hAs a b h, fun b hb => (hAk b).trans (h0 b hb), by rw [hAk]; exact hp, fun b hb => ?_, ⟨1, -((ent R n j).fdiv (ent R k j)), by omega, fun b => ?_⟩, fun N hkN hnN => SpEq.add hnN hkN (fun e => hkn e.symm) _ hA, fun b => ?_, fun b => pw_lt (hbA b) (by omega), hsA, hlA, blk_addT ..⟩
   · rcases Nat.lt_or_eq_of_le hb with h | h
     · rw [hAn, h0 b h, h1 b h]; simp
     · subst h; rw [hr, hz]
   · rw [hAn, Int.one_mul]; omega
   · rw [hAk]; exact pw_lt (hbk b) (by omega)
 · obtain ⟨M, hM⟩ : ∃ M, meetA R k n j = M := ⟨_, rfl⟩;rw [hM] at hAn hAk hAs hsA hlA hbA hr;have e : meetT R k n j = mixT M k n (extX (ent M k j) (ent M n j)) (extY (ent M k j) (ent M n j)) (-(ent M n j / extG (ent M k j) (ent M n j))) (ent M k j / extG (ent M k j) (ent M n j)) := by
    unfold meetT; rw [if_neg hz, hM]
   obtain ⟨p, hp'⟩ : ∃ p, ent M k j = p := ⟨_, rfl⟩;obtain ⟨r, hr'⟩ : ∃ r, ent M n j = r := ⟨_, rfl⟩;have hpp : p = ent R k j := hp'.symm.trans (hAk j);rw [hr'] at hr;rw [hp', hr'] at e;have hrne : r ≠ 0 := by rw [hr]; exact hz
   rw [<- hr, <- hpp] at hrr;have hrp : 0 < r := by omega
   have hg := extG_dvd p r;have hx := ext_eq p r hrne;have hxl := extX_le p r;have hyl := extY_le p r;obtain ⟨g, hgd⟩ : ∃ g, extG p r = g := ⟨_, rfl⟩;obtain ⟨x, hxd⟩ : ∃ x, extX p r = x := ⟨_, rfl⟩;obtain ⟨y, hyd⟩ : ∃ y, extY p r = y := ⟨_, rfl⟩;rw [hgd] at hg hx e;rw [hxd] at hx hxl e;rw [hyd] at hx hyl e;have hgp : 0 < g := by have := hg.2.2.1 (by omega); have := hg.2.2.2; omega
   obtain ⟨p', hp1⟩ := hg.1;obtain ⟨r', hr1⟩ := hg.2.1;have hpd : p / g = p' := by rw [hp1, Int.mul_ediv_cancel_left _ (by omega)]
   have hrd : r / g = r' := by rw [hr1, Int.mul_ediv_cancel_left _ (by omega)]
   rw [hpd, hrd] at e;have hk1 : p' * x + r' * y = 1 := by
    have : g * (p' * x + r' * y) = g * 1 := by
     rw [Int.mul_add, <- Int.mul_assoc, <- Int.mul_assoc, <- hp1, <- hr1, hx]; omega
    exact Int.eq_of_mul_eq_mul_left (by omega) this
   have hp0 : p' ≠ 0 := fun h => by rw [h, Int.mul_zero] at hp1; omega
   have hmix := ent_mixT hsA (by omega : k < M.length) (by omega : n < M.length) hkn x y (-r') p';rw [<- e] at hmix;have hmk := fun b => (hmix k b).trans (if_pos rfl);have hmn := fun b => ((hmix n b).trans (if_neg (fun h => hkn h.symm))).trans (if_pos rfl);have hms := fun a b (h : a ≠ k) (h' : a ≠ n) => ((hmix a b).trans (if_neg h)).trans (if_neg h');have hM0 : ∀ b, b < j -> ent M n b = 0 := fun b hb => by rw [hAn, h0 b hb, h1 b hb]; simp
   have hpD : p.natAbs < W ^ δ := by rw [hpp]; exact hbk j
   have hrD : r.natAbs < W ^ δ := by omega
   have hp'D : p'.natAbs <= W ^ δ := by
    have h2 : p'.natAbs <= p.natAbs := by
     rw [hp1, Int.natAbs_mul];have := Nat.mul_le_mul_right p'.natAbs (show 1 <= g.natAbs by omega);omega
    omega
   have hr'D : r'.natAbs <= W ^ δ := by
    have h2 : r'.natAbs <= r.natAbs := by
     rw [hr1, Int.natAbs_mul];have := Nat.mul_le_mul_right r'.natAbs (show 1 <= g.natAbs by omega);omega
    omega
   have bnd : ∀ (s t : Int) b, s.natAbs <= W ^ δ -> t.natAbs <= W ^ δ -> (s * ent M k b + t * ent M n b).natAbs < W ^ (u + 2 * δ + 1) := by
    intro s t b hs' ht';refine Nat.lt_of_le_of_lt (Int.natAbs_add_le _ _) ?_;rw [Int.natAbs_mul, Int.natAbs_mul];exact pw_two hs' (by rw [hAk]; exact hbk b) ht' (hbA b)
   have hspA : ∀ N, k < N -> n < N -> SpEq N (ent R) N (ent M) := fun N hkN hnN => by
    rw [<- hM]; exact SpEq.add hnN hkN (fun e => hkn e.symm) _ hA
   refine ⟨fun a h h' b => ?_, fun b hb => ?_, ?_, fun b hb => ?_, ?_, fun N hkN hnN => ?_, fun b => ?_, fun b => ?_, ?_, ?_, blk_meetT ..⟩
   · rw [hms a b h h', hAs a b h']
   · rw [hmk, hAk, h0 b hb, hM0 b hb]; simp
   · rw [hmk, hp', hr', Int.mul_comm x, Int.mul_comm y, hx]; exact hgp
   · rw [hmn];rcases Nat.lt_or_eq_of_le hb with h | h
     · rw [hAk, h0 b h, hM0 b h]; simp
     · subst h;rw [hp', hr', hp1, hr1, Int.neg_mul, Int.mul_left_comm r', Int.mul_left_comm p', Int.mul_comm r' p']; omega
   · refine ⟨p', -r' + p' * (-((ent R n j).fdiv (ent R k j))), hp0, fun b => ?_⟩;rw [hmn, hAk, hAn, Int.mul_add, Int.add_mul, <- Int.mul_assoc]; omega
   · refine (hspA N hkN hnN).trans (SpEq.two hkN hnN hkn (fun a h h' b => hms a b h h') hmk hmn (x' := p') (y' := -y) (z' := r') (t' := x) (fun b => ?_) (fun b => ?_))
     · rw [hmk, hmn];have : p' * (x * ent M k b + y * ent M n b) + -y * (-r' * ent M k b + p' * ent M n b) = (p' * x + r' * y) * ent M k b := by
        simp only [Int.mul_add, Int.add_mul, Int.neg_mul, Int.mul_neg, Int.neg_neg];have a1 : p' * (y * ent M n b) = y * (p' * ent M n b) := Int.mul_left_comm ..;have a2 : y * (r' * ent M k b) = r' * y * ent M k b := by rw [<- Int.mul_assoc, Int.mul_comm y]
        have a3 : p' * (x * ent M k b) = p' * x * ent M k b := (Int.mul_assoc ..).symm;omega
       rw [this, hk1, Int.one_mul]
     · rw [hmk, hmn];have : r' * (x * ent M k b + y * ent M n b) + x * (-r' * ent M k b + p' * ent M n b) = (p' * x + r' * y) * ent M n b := by
        simp only [Int.mul_add, Int.add_mul, Int.neg_mul, Int.mul_neg];have a1 : r' * (x * ent M k b) = x * (r' * ent M k b) := Int.mul_left_comm ..;have a2 : r' * (y * ent M n b) = r' * y * ent M n b := (Int.mul_assoc ..).symm;have a3 : x * (p' * ent M n b) = p' * x * ent M n b := by rw [<- Int.mul_assoc, Int.mul_comm x]
        omega
       rw [this, hk1, Int.one_mul]
   · rw [hmk]; exact bnd x y b (by omega) (by omega)
   · rw [hmn]; exact bnd (-r') p' b (by rw [Int.natAbs_neg]; exact hr'D) hp'D
   · rw [e]; exact hsA.mixT_ k n _ _ _ _
   · exact meetT_length ..
/-! put. -/
theorem leadsOf_get (R : List Hd) {n k : Nat} (hk : k < n) : (leadsOf R n).getD k 0 = leadOf R k := by
 unfold leadsOf; simp [hk]
theorem settle_ok {c n B δ u : Nat} {l : Nat -> Nat} {R : List Hd} (hs : Sh c R) (hn : n <= R.length) (hE : Ech n c (ent R) l) (hu : ∀ a b, (ent R a b).natAbs < W ^ u) (hb : u + n * δ <= B)
 (hD : ∀ E', Herm n c E' l -> SpEq n (ent R) n E' -> ∀ i, i < n -> ∀ j, (E' i j).natAbs < W ^ δ) : ∃ R', SOut B c (leadsOf R n) n n R R' /\ SoutOk n c n l R R' := by
 have hls : ∀ k, k < n -> (leadsOf R n).getD k 0 = l k := fun k hk => by
  rw [leadsOf_get R hk];exact leadOf_at (by omega) hs (hE.zero k hk) (by have := hE.pos k hk; omega)
 have h1 := soutF_ok hls n R (Nat.le_refl _) hs hn hE (fun i k h1 h2 h3 => by omega);exact ⟨_, SOut_of (δ := δ) (u := u) hls hb n R (Nat.le_refl _) hs hn hE (fun i k h1 h2 h3 => by omega) (fun a b => pw_lt (hu a b) (by omega)) (fun a _ b => hu a b) (hD _ h1.herm h1.sp), h1⟩
theorem ent_swapsT {a : Nat} : ∀ (n : Nat) (R : List Hd), a <= n -> n < R.length -> ∀ i b, ent (swapsT a n R) i b = if i < a then ent R i b else if i = a then ent R n b else if i <= n then ent R (i - 1) b else ent R i b
 | 0, R, ha, hn, i, b => by
  obtain rfl : a = 0 := by omega
  unfold swapsT;by_cases h : i = 0
  · subst h; simp
  · rw [if_neg (by omega), if_neg h, if_neg (by omega)]
 | n + 1, R, ha, hn, i, b => by
  unfold swapsT;by_cases h : n + 1 <= a
  · obtain rfl : a = n + 1 := by omega
    rw [if_pos h];by_cases h1 : i < n + 1
    · rw [if_pos h1]
    · rw [if_neg h1];by_cases h2 : i = n + 1
      · subst h2; rw [if_pos rfl]
      · rw [if_neg h2, if_neg (by omega)]
  · rw [if_neg h, ent_swapsT n _ (by omega) (by rw [swapT_length]; omega)];have hsw := fun x => ent_swapT (R := R) (i := n + 1) (j := n) hn (by omega) x b;rw [hsw, hsw, hsw];by_cases h1 : i < a
    · rw [if_pos h1, if_pos h1];unfold swp; rw [if_neg (by omega), if_neg (by omega)]
    · rw [if_neg h1, if_neg h1];by_cases h2 : i = a
      · rw [if_pos h2, if_pos h2];unfold swp; rw [if_pos rfl]
      · rw [if_neg h2, if_neg h2];by_cases h3 : i <= n
        · rw [if_pos h3, if_pos (by omega)];unfold swp; rw [if_neg (by omega), if_neg (by omega)]
        · rw [if_neg h3];by_cases h4 : i = n + 1
          · subst h4; rw [if_pos (by omega)];unfold swp; rw [if_neg (by omega), if_pos rfl]; rfl
          · rw [if_neg (by omega : ¬ i <= n + 1)];unfold swp; rw [if_neg (by omega), if_neg h4]
theorem shSwapsT {c a : Nat} : ∀ (n : Nat) (R : List Hd), Sh c R -> Sh c (swapsT a n R)
 | 0, R, h => h
 | n + 1, R, h => by
  unfold swapsT; split
  · exact h
  · exact shSwapsT n _ (h.swapT_ _ _)
structure PI (c n δ u s : Nat) (l : Nat -> Nat) (last : Int) (E0 : Nat -> Nat -> Int) (v0 : Nat -> Int) (Ro R : List Hd) : Prop where
 sh : Sh c R
 len : R.length = Ro.length
 ech : Ech n c (ent R) l
 sn : s <= n
 lo : ∀ i, i < s -> (l i : Int) <= last
 hi : ∀ i, s <= i -> i < n -> last < (l i : Int)
 un : ∀ i, s <= i -> i < n -> ∀ b, ent R i b = E0 i b
 z : ∀ b : Nat, (b : Int) <= last -> ent R n b = 0
 bd : ∀ a b, (ent R a b).natAbs < W ^ u
 cb : ∃ (t : Int) (w : Nat -> Int), t ≠ 0 /\ Sp n E0 w /\ ∀ b, ent R n b = t * v0 b + w b
 sp : SpEq (n + 1) (ent Ro) (n + 1) (ent R)
 oth : ∀ a, n < a -> ∀ b, ent R a b = ent Ro a b
structure PutOk (c n : Nat) (E0 : Nat -> Nat -> Int) (v0 : Nat -> Int) (Ro : List Hd) (b : Bool) (R' : List Hd) : Prop where
 sh : Sh c R'
 len : R'.length = Ro.length
 oth : ∀ a, n < a -> ∀ b, ent R' a b = ent Ro a b
 no : b = false -> (∃ l', Herm n c (ent R') l') /\ (∀ b, ent R' n b = 0) /\ SpEq (n + 1) (ent Ro) n (ent R')
 yes : b = true -> (∃ l', Herm (n + 1) c (ent R') l') /\ SpEq (n + 1) (ent Ro) (n + 1) (ent R') /\ ∀ s : Int, Sp n E0 (fun j => s * v0 j) -> s = 0
theorem first_at {n s j : Nat} {l : Nat -> Nat} (h : s <= n) : ∃ a, s <= a /\ a <= n /\ (∀ i, s <= i -> i < a -> l i < j) /\ (a = n ∨ (a < n /\ j <= l a)) := by
 obtain ⟨f, hf⟩ : ∃ f, n - s = f := ⟨_, rfl⟩;induction f generalizing s with
 | zero => exact ⟨s, Nat.le_refl _, h, fun i h1 h2 => by omega, .inl (by omega)⟩
 | succ f ih =>
  by_cases hj : j <= l s
  · exact ⟨s, Nat.le_refl _, h, fun i h1 h2 => by omega, .inr ⟨by omega, hj⟩⟩
  · obtain ⟨a, h1, h2, h3, h4⟩ := ih (s := s + 1) (by omega) (by omega);refine ⟨a, by omega, h2, fun i hi hia => ?_, h4⟩;by_cases e : i = s
    · subst e; omega
    · exact h3 i (by omega) hia
theorem ech_insert {c n a j : Nat} {l : Nat -> Nat} {E F : Nat -> Nat -> Int} (h : Ech n c E l) (ha : a <= n) (hlo : ∀ i, i < a -> l i < j) (hhi : ∀ i, a <= i -> i < n -> j < l i) (hj : j < c) (h0 : ∀ b, b < j -> E n b = 0) (hp : 0 < E n j)
 (hF : ∀ i b, i <= n -> F i b = if i < a then E i b else if i = a then E n b else E (i - 1) b) : Ech (n + 1) c F (fun i => if i < a then l i else if i = a then j else l (i - 1)) := by
 refine ⟨fun i k hik hk => ?_, fun i hi => ?_, fun i hi b hb => ?_, fun i hi => ?_⟩
 · show (if i < a then l i else if i = a then j else l (i - 1)) < (if k < a then l k else if k = a then j else l (k - 1));by_cases h1 : k < a
   · rw [if_pos h1, if_pos (by omega)]; exact h.inc i k hik (by omega)
   · rw [if_neg h1];by_cases h2 : k = a
     · rw [if_pos h2, if_pos (by omega)]; exact hlo i (by omega)
     · rw [if_neg h2];by_cases h3 : i < a
       · rw [if_pos h3]; exact h.inc i (k - 1) (by omega) (by omega)
       · rw [if_neg h3];by_cases h4 : i = a
         · rw [if_pos h4]; exact hhi (k - 1) (by omega) (by omega)
         · rw [if_neg h4]; exact h.inc (i - 1) (k - 1) (by omega) (by omega)
 · show (if i < a then l i else if i = a then j else l (i - 1)) < c;split
   · exact h.lt i (by omega)
   · split
     · exact hj
     · exact h.lt (i - 1) (by omega)
 · rw [hF i b (by omega)];have hb : b < (if i < a then l i else if i = a then j else l (i - 1)) := hb;split at hb
   · rename_i h1; rw [if_pos h1]; exact h.zero i (by omega) b hb
   · rename_i h1; rw [if_neg h1];split at hb
     · rename_i h2; rw [if_pos h2]; exact h0 b hb
     · rename_i h2; rw [if_neg h2]; exact h.zero (i - 1) (by omega) b hb
 · rw [hF i _ (by omega)];show 0 < (if i < a then E i (if i < a then l i else if i = a then j else l (i - 1)) else if i = a then E n (if i < a then l i else if i = a then j else l (i - 1)) else E (i - 1) (if i < a then l i else if i = a then j else l (i - 1)));split
   · exact h.pos i (by omega)
   · split
     · exact hp
     · exact h.pos (i - 1) (by omega)
theorem SpEq.perm {n a : Nat} {E F : Nat -> Nat -> Int} (ha : a <= n) (hF : ∀ i b, i <= n -> F i b = if i < a then E i b else if i = a then E n b else E (i - 1) b) : SpEq (n + 1) E (n + 1) F := by
 refine ⟨fun k hk => ?_, fun k hk => ?_⟩
 · by_cases h1 : k < a
   · exact (Sp.row F hk).congr (fun b => by rw [hF k b (by omega), if_pos h1])
   · by_cases h2 : k = n
     · subst h2;exact (Sp.row F (show a < k + 1 by omega)).congr (fun b => by rw [hF a b (by omega), if_neg (by omega), if_pos rfl])
     · exact (Sp.row F (show k + 1 < n + 1 by omega)).congr (fun b => by rw [hF (k + 1) b (by omega), if_neg (by omega), if_neg (by omega)]; rfl)
 · by_cases h1 : k < a
   · exact (Sp.row E hk).congr (fun b => by rw [hF k b (by omega), if_pos h1])
   · by_cases h2 : k = a
     · exact (Sp.row E (show n < n + 1 by omega)).congr (fun b => by rw [hF k b (by omega), if_neg h1, if_pos h2])
     · exact (Sp.row E (show k - 1 < n + 1 by omega)).congr (fun b => by rw [hF k b (by omega), if_neg h1, if_neg h2])
theorem SpEq.neg {N n : Nat} {E F : Nat -> Nat -> Int} (hn : n < N) (hs : ∀ a, a ≠ n -> ∀ b, F a b = E a b) (h : ∀ b, F n b = - E n b) : SpEq N E N F := by
 refine ⟨fun k hk => ?_, fun k hk => ?_⟩
 · by_cases e : k = n
   · subst e; exact ((Sp.row F hk).smul (-1)).congr (fun b => by rw [h]; omega)
   · exact (Sp.row F hk).congr (fun b => (hs k e b).symm)
 · by_cases e : k = n
   · subst e; exact ((Sp.row E hk).smul (-1)).congr (fun b => by rw [h]; omega)
   · exact (Sp.row E hk).congr (fun b => hs k e b)
theorem putLoop_end {c n δ B U : Nat} {l : Nat -> Nat} {E0 : Nat -> Nat -> Int} {v0 : Nat -> Int} {Ro : List Hd} (hn : n < Ro.length) (hH0 : Ech n c E0 l) (hδ : ∀ a, a < n -> ∀ b, (E0 a b).natAbs < W ^ δ) (hUB : U + (n + 1) * δ <= B)
 (hZ : ∀ E' l', Herm n c E' l' -> SpEq (n + 1) (ent Ro) n E' -> ∀ i, i < n -> ∀ j, (E' i j).natAbs < W ^ δ)
 (hS : (∀ s : Int, Sp n E0 (fun j => s * v0 j) -> s = 0) -> ∀ E' l', Herm (n + 1) c E' l' -> SpEq (n + 1) (ent Ro) (n + 1) E' -> ∀ i, i < n + 1 -> ∀ j, (E' i j).natAbs < W ^ δ)
 (s u at_ : Nat) (last : Int) (R : List Hd) (hI : PI c n δ u s l last E0 v0 Ro R) (hat : at_ <= s) (hu : u + (n - s) * (2 * δ + 1) <= U)
 (hnext : ∀ a, s <= a -> a < n -> ∀ R1 u1, PI c n δ u1 (a + 1) l (l a) E0 v0 Ro R1 -> u1 + (n - (a + 1)) * (2 * δ + 1) <= U -> ∃ b R', PutT B c n a (l a) R1 b R' /\ PutOk c n E0 v0 Ro b R') :
 ∃ b R', PutT B c n at_ last R b R' /\ PutOk c n E0 v0 Ro b R' := by
 have hnR : n < R.length := by rw [hI.len]; exact hn
 have hle := lead_ent hnR hI.sh;have huB : u <= B := by have := Nat.zero_le ((n - s) * (2 * δ + 1)); have := Nat.zero_le ((n + 1) * δ); omega
 have hFit : Fit B c R := Fit.of hI.sh (fun a b => pw_lt (hI.bd a b) huB);have hnδ : n * δ <= (n + 1) * δ := Nat.mul_le_mul_right _ (by omega);have huU : u <= U := by have := Nat.zero_le ((n - s) * (2 * δ + 1)); omega
 by_cases hc : leadOf R n = c
 · -- nothing is left
   have hz : ∀ b, ent R n b = 0 := fun b => by
    by_cases h : b < c
    · exact hle.2.1 b (by omega)
    · exact hI.sh.wide n (by omega)
   have hspz : SpEq (n + 1) (ent R) n (ent R) := by
    refine ⟨fun k hk => ?_, fun k hk => Sp.row _ (by omega)⟩;by_cases e : k = n
    · subst e; exact (Sp.zero _ _).congr hz
    · exact Sp.row _ (by omega)
   obtain ⟨R', h1, h2⟩ := settle_ok (B := B) (δ := δ) hI.sh (by omega : n <= R.length) hI.ech hI.bd (by omega) (fun E' hE' hsp => hZ E' l hE' (hI.sp.trans (hspz.trans hsp)));exact ⟨false, R', .zero hFit (.inl hc) h1, h2.sh, h2.len.trans hI.len, fun a ha b => (h2.same a (by omega) b).trans (hI.oth a ha b), fun _ => ⟨⟨l, h2.herm⟩, fun b => (h2.same n (Nat.le_refl _) b).trans (hz b), hI.sp.trans (hspz.trans h2.sp)⟩, fun h => by cases h⟩
 · have hjc : leadOf R n < c := by have := hle.1; omega
   obtain ⟨j, hj⟩ : ∃ j, leadOf R n = j := ⟨_, rfl⟩;rw [hj] at hjc hc hle;have hvj := hle.2.2 hjc;have hlast : last < (j : Int) := by
    by_cases h : last < (j : Int)
    · exact h
    · exact absurd (hI.z j (by omega)) hvj
   obtain ⟨a, hsa, han, hlt, hend⟩ := first_at (l := l) (j := j) hI.sn;have hlead : ∀ i, i < n -> leadOf R i = l i := fun i hi => leadOf_at (by omega) hI.sh (hI.ech.zero i hi) (by have := hI.ech.pos i hi; omega);have hlo : ∀ i, i < a -> l i < j := fun i hi => by
    by_cases h : s <= i
    · exact hlt i h hi
    · have := hI.lo i (by omega); omega
   by_cases hm : a < n /\ l a = j
   · obtain ⟨ha, hla⟩ := hm;have hrow : ∀ b, (ent R a b).natAbs < W ^ δ := fun b => by rw [hI.un a hsa ha]; exact hδ a ha b
     have hp : 0 < ent R a j := by rw [<- hla]; exact hI.ech.pos a ha
     have h0a : ∀ b, b < j -> ent R a b = 0 := fun b hb => hI.ech.zero a ha b (by omega);have hok := meet_ok (j := j) hI.sh (by omega : a < R.length) hnR (by omega) hp h0a hle.2.1 hrow (hI.bd n);have hA := meetA_ent hI.sh (by omega : a < R.length) hnR j;have hbA := meetA_bound (j := j) hI.sh (by omega : a < R.length) hnR hp hrow (hI.bd n);have h2n : (n - s) * (2 * δ + 1) = (n - (a + 1)) * (2 * δ + 1) + (a + 1 - s) * (2 * δ + 1) := by rw [<- Nat.add_mul]; congr 1; omega
     have h2a : 2 * δ + 1 <= (a + 1 - s) * (2 * δ + 1) := by have := Nat.mul_le_mul_right (2 * δ + 1) (show 1 <= a + 1 - s by omega); omega
     have hbud : u + 2 * δ + 1 + (n - (a + 1)) * (2 * δ + 1) <= U := by omega
     have hudB : u + 2 * δ + 1 <= B := by
      have := Nat.zero_le ((n - (a + 1)) * (2 * δ + 1)); have := Nat.zero_le ((n + 1) * δ); omega
     have hFitA : Fit B c (meetA R a n j) := Fit.of (hI.sh.addT_ n a _) (fun x b => by
      by_cases e : x = n
      · subst e; exact pw_lt (hbA b) (by omega)
      · rw [hA, if_neg e]; exact pw_lt (hI.bd x b) huB)
     have hpA : ent (meetA R a n j) a j ≠ 0 := by rw [hA, if_neg (by omega)]; omega
     have hPI : PI c n δ (u + 2 * δ + 1) (a + 1) l (l a) E0 v0 Ro (meetT R a n j) := by
      refine ⟨hok.sh, hok.len.trans hI.len, ?_, by omega, ?_, ?_, ?_, ?_, ?_, ?_, hI.sp.trans (hok.sp (n + 1) (by omega) (by omega)), ?_⟩
      · refine ⟨hI.ech.inc, hI.ech.lt, fun i hi b hb => ?_, fun i hi => ?_⟩
        · by_cases e : i = a
          · subst e; exact hok.low b (by omega)
          · rw [hok.same i e (by omega)]; exact hI.ech.zero i hi b hb
        · by_cases e : i = a
          · subst e; rw [hla]; exact hok.piv
          · rw [hok.same i e (by omega)]; exact hI.ech.pos i hi
      · intro i hi;by_cases e : i = a
        · subst e; exact Int.le_refl _
        · have := hI.ech.inc i a (by omega) ha; omega
      · intro i hi hin;have := hI.ech.inc a i (by omega) hin; omega
      · intro i hi hin b;rw [hok.same i (by omega) (by omega)]; exact hI.un i (by omega) hin b
      · intro b hb;exact hok.gone b (by omega)
      · intro x b;by_cases e : x = a
        · subst e; exact hok.bk b
        · by_cases e' : x = n
          · subst e'; exact hok.bn b
          · rw [hok.same x e e']; exact pw_lt (hI.bd x b) (by omega)
      · obtain ⟨t, w, ht, hw, hv⟩ := hI.cb;obtain ⟨t', s', ht', hv'⟩ := hok.comb;refine ⟨t' * t, fun b => t' * w b + s' * E0 a b, fun e => ?_, (hw.smul t').add ((Sp.row E0 ha).smul s'), fun b => ?_⟩
        · rcases Int.mul_eq_zero.1 e with e | e
          · exact ht' e
          · exact ht e
        · show ent (meetT R a n j) n b = t' * t * v0 b + (t' * w b + s' * E0 a b);rw [hv', hv, hI.un a hsa ha, Int.mul_add, Int.mul_assoc]; omega
      · intro x hx b;rw [hok.same x (by omega) (by omega)]; exact hI.oth x hx b
     obtain ⟨b, R', h1, h2⟩ := hnext a hsa ha (meetT R a n j) (u + 2 * δ + 1) hPI hbud;refine ⟨b, R', .meet hFit (by rw [hj]; exact hjc) (by rw [hj]; exact hlast) a (by omega) ha (fun i h3 h4 => ?_) ?_ ?_ ?_ ?_ ?_, h2⟩
     · rw [hj, hlead i (by omega)]; exact hlo i h4
     · rw [hj, hlead a ha, hla]
     · rw [hj]; omega
     · rw [hj]; exact hFitA
     · rw [hj]; exact hpA
     · rw [hj]; rw [hla] at h1; exact h1
   · have hhi : ∀ i, a <= i -> i < n -> j < l i := fun i h1 h2 => by
      rcases hend with h3 | ⟨h3, h4⟩
      · omega
      · by_cases e : i = a
        · subst e;have : l i ≠ j := fun h => hm ⟨h3, h⟩;omega
        · have := hI.ech.inc a i (by omega) h2; omega
     obtain ⟨R1, hR1⟩ : ∃ R1, (if ent R n (leadOf R n) < 0 then turnT R n else R) = R1 := ⟨_, rfl⟩;have hR1e : ∀ x, x ≠ n -> ∀ b, ent R1 x b = ent R x b := fun x hx b => by
      rw [<- hR1]; split
      · rw [ent_turnT hnR, if_neg hx]
      · rfl
     have hR1n : (∀ b, (ent R1 n b).natAbs = (ent R n b).natAbs) /\ 0 < ent R1 n j /\ ((∀ b, ent R1 n b = ent R n b) ∨ (∀ b, ent R1 n b = - ent R n b)) := by
      rw [<- hR1]; split
      · rename_i h;rw [hj] at h;have h1 := fun b => (ent_turnT hnR n b).trans (if_pos rfl);exact ⟨fun b => by rw [h1, Int.natAbs_neg], by rw [h1]; omega, .inr h1⟩
      · rename_i h;rw [hj] at h;exact ⟨fun b => rfl, by omega, .inl (fun b => rfl)⟩
     have hR1s : Sh c R1 := by
      rw [<- hR1]; split
      · exact hI.sh.turnT_ n
      · exact hI.sh
     have hR1l : R1.length = R.length := by
      rw [<- hR1]; split
      · exact turnT_length ..
      · rfl
     have hR1b : ∀ x b, (ent R1 x b).natAbs < W ^ u := fun x b => by
      by_cases e : x = n
      · subst e; rw [hR1n.1]; exact hI.bd x b
      · rw [hR1e x e]; exact hI.bd x b
     have hsp1 : SpEq (n + 1) (ent R) (n + 1) (ent R1) := by
      rcases hR1n.2.2 with h | h
      · exact SpEq.of_eq (fun k hk b => by
         by_cases e : k = n
         · subst e; exact (h b).symm
         · exact (hR1e k e b).symm)
      · exact SpEq.neg (by omega) hR1e h
     have hsw := ent_swapsT (a := a) n R1 han (by omega);obtain ⟨R2, hR2⟩ : ∃ R2, swapsT a n R1 = R2 := ⟨_, rfl⟩;have hs2 : Sh c R2 := hR2 ▸ shSwapsT n R1 hR1s;have hl2 : R2.length = R.length := by rw [<- hR2, swapsT_length, hR1l]
     rw [hR2] at hsw;have hsw2 : ∀ i b, i <= n -> ent R2 i b = if i < a then ent R1 i b else if i = a then ent R1 n b else ent R1 (i - 1) b := fun i b hi => by
      rw [hsw];by_cases h1 : i < a
      · rw [if_pos h1, if_pos h1]
      · rw [if_neg h1, if_neg h1];by_cases h2 : i = a
        · rw [if_pos h2, if_pos h2]
        · rw [if_neg h2, if_neg h2, if_pos hi]
     have hb2 : ∀ x b, (ent R2 x b).natAbs < W ^ u := fun x b => by
      rw [hsw]; split
      · exact hR1b ..
      · split
        · exact hR1b ..
        · split <;> exact hR1b ..
     have hE1 : Ech n c (ent R1) l := hI.ech.congr (fun x hx b => hR1e x (by omega) b);have h10 : ∀ b, b < j -> ent R1 n b = 0 := fun b hb => by
      have h1 := hR1n.1 b;rw [hle.2.1 b hb] at h1; omega
     have hE2 := ech_insert hE1 han hlo hhi hjc h10 hR1n.2.1 hsw2;have hsp2 := SpEq.perm han hsw2;have hind : ∀ t : Int, Sp n E0 (fun b => t * v0 b) -> t = 0 := by
      intro t ht;obtain ⟨t', w, ht', hw, hv⟩ := hI.cb;by_cases h0 : t = 0
      · exact h0
      · exfalso;have hin : Sp n E0 (fun b => t * ent R n b) := ((ht.smul t').add (hw.smul t)).congr (fun b => by
         rw [hv, Int.mul_add, <- Int.mul_assoc, <- Int.mul_assoc, Int.mul_comm t' t])
        obtain ⟨k, hk, hlk, _⟩ := hH0.lead hin (q := j) (fun e => by
         rcases Int.mul_eq_zero.1 e with e | e
         · exact h0 e
         · exact hvj e) (fun b hb => by
           show t * ent R n b = 0;rw [hle.2.1 b hb, Int.mul_zero])
        by_cases hka : k < a
        · have := hlo k hka; omega
        · have := hhi k (by omega) hk; omega
     obtain ⟨R', h1, h2⟩ := settle_ok (B := B) (δ := δ) (n := n + 1) hs2 (by omega) hE2 hb2 (by omega) (fun E' hE' hsp => hS hind E' _ hE' (hI.sp.trans (hsp1.trans (hsp2.trans hsp))));refine ⟨true, R', .stop hFit (by rw [hj]; exact hjc) (by rw [hj]; exact hlast) a (by omega) han (fun i h3 h4 => ?_) ?_ ?_ ?_, h2.sh, h2.len.trans (hl2.trans hI.len), fun x hx b => ?_, fun h => (by cases h), fun _ => ⟨⟨_, h2.herm⟩, hI.sp.trans (hsp1.trans (hsp2.trans h2.sp)), hind⟩⟩
     · rw [hj, hlead i (by omega)]; exact hlo i h4
     · rcases Nat.lt_or_eq_of_le han with h | h
       · refine .inr ?_;rw [hj, hlead a h]; exact hhi a (Nat.le_refl _) h
       · exact .inl h
     · rw [hR1, hR2]; exact Fit.of hs2 (fun a b => pw_lt (hb2 a b) huB)
     · rw [hR1, hR2]; exact h1
     · rw [h2.same x (by omega), hsw, if_neg (by omega), if_neg (by omega), if_neg (by omega), hR1e x (by omega)];exact hI.oth x hx b
theorem putLoop {c n δ B U : Nat} {l : Nat -> Nat} {E0 : Nat -> Nat -> Int} {v0 : Nat -> Int} {Ro : List Hd} (hn : n < Ro.length) (hH0 : Ech n c E0 l) (hδ : ∀ a, a < n -> ∀ b, (E0 a b).natAbs < W ^ δ) (hUB : U + (n + 1) * δ <= B)
 (hZ : ∀ E' l', Herm n c E' l' -> SpEq (n + 1) (ent Ro) n E' -> ∀ i, i < n -> ∀ j, (E' i j).natAbs < W ^ δ)
 (hS : (∀ s : Int, Sp n E0 (fun j => s * v0 j) -> s = 0) -> ∀ E' l', Herm (n + 1) c E' l' -> SpEq (n + 1) (ent Ro) (n + 1) E' -> ∀ i, i < n + 1 -> ∀ j, (E' i j).natAbs < W ^ δ) :
 ∀ (f s u at_ : Nat) (last : Int) (R : List Hd), n - s <= f -> PI c n δ u s l last E0 v0 Ro R -> at_ <= s -> u + (n - s) * (2 * δ + 1) <= U -> ∃ b R', PutT B c n at_ last R b R' /\ PutOk c n E0 v0 Ro b R' := by
 intro f;induction f with
 | zero =>
  intro s u at_ last R hf hI hat hu;exact putLoop_end hn hH0 hδ hUB hZ hS s u at_ last R hI hat hu (fun a ha1 ha2 => by omega)
 | succ f ih =>
  intro s u at_ last R hf hI hat hu;refine putLoop_end hn hH0 hδ hUB hZ hS s u at_ last R hI hat hu (fun a ha1 ha2 R1 u1 hI1 hu1 => ?_);exact ih (a + 1) u1 a (l a) R1 (by omega) hI1 (by omega) hu1
/-! Reduce. -/
def hermW (N m : Nat) : Nat := 2 * (m + 1) * N + 1
theorem hermD_lt {n N m : Nat} (hn : n <= N) (hN : N <= 1048576) : hermD n (W ^ m) < W ^ hermW N m := by
 unfold hermD hermW;rcases Nat.eq_zero_or_pos n with h | h
 · subst h; simp; exact pw_pos _
 · have h1 : 2 * n * W ^ m + 1 <= W ^ (m + 1) := by
    rw [Nat.pow_succ, Nat.mul_comm (W ^ m)];have h2 : (2 * n + 1) * W ^ m <= W * W ^ m := Nat.mul_le_mul_right _ (by unfold W; omega);have h3 : (2 * n + 1) * W ^ m = 2 * n * W ^ m + W ^ m := by rw [Nat.add_mul, Nat.one_mul]
    have := pw_pos m;omega
   have h2 : (2 * n * W ^ m + 1) ^ (n - 1) <= W ^ ((m + 1) * (n - 1)) := by
    rw [Nat.pow_mul]; exact Nat.pow_le_pow_left h1 _
   have h3 : n * ((2 * n * W ^ m + 1) ^ (n - 1) * W ^ m) <= W ^ ((m + 1) * n) := by
    have h4 : (2 * n * W ^ m + 1) ^ (n - 1) * W ^ m <= W ^ ((m + 1) * (n - 1)) * W ^ m := Nat.mul_le_mul_right _ h2;have h5 : n * ((2 * n * W ^ m + 1) ^ (n - 1) * W ^ m) <= W * (W ^ ((m + 1) * (n - 1)) * W ^ m) := Nat.mul_le_mul (by unfold W; omega) h4;refine Nat.le_trans h5 ?_;have e : W * (W ^ ((m + 1) * (n - 1)) * W ^ m) = W ^ ((m + 1) * (n - 1) + m + 1) := by
     rw [<- Nat.pow_add, Nat.mul_comm W, <- Nat.pow_succ]
    rw [e];have e2 : (m + 1) * (n - 1) + m + 1 = (m + 1) * n := by
     have : n = n - 1 + 1 := by omega
     rw [Nat.add_assoc]
     conv => rhs; rw [this, Nat.mul_add, Nat.mul_one]
    rw [e2]; exact Nat.le_refl _
   obtain ⟨D, hD⟩ : ∃ D, n * ((2 * n * W ^ m + 1) ^ (n - 1) * W ^ m) = D := ⟨_, rfl⟩;rw [hD] at h3 ⊢;have h6 : D * D <= W ^ (2 * (m + 1) * n) := by
    have := Nat.mul_le_mul h3 h3;rw [<- Nat.pow_add] at this;have e : (m + 1) * n + (m + 1) * n = 2 * (m + 1) * n := by rw [Nat.mul_assoc]; omega
    rwa [e] at this
   have h7 : n * D * D < W * W ^ (2 * (m + 1) * n) := by
    rw [Nat.mul_assoc];refine Nat.lt_of_le_of_lt (Nat.mul_le_mul_left n h6) ?_;exact Nat.mul_lt_mul_of_pos_right (by unfold W; omega) (pw_pos _)
   refine Nat.lt_of_lt_of_le h7 ?_;rw [Nat.mul_comm W, <- Nat.pow_succ];refine pw_le ?_;have : 2 * (m + 1) * n <= 2 * (m + 1) * N := Nat.mul_le_mul_left _ hn;omega
def ladW (N m : Nat) : Nat := hermW N m + N * (2 * hermW N m + 1) + (N + 1) * hermW N m
theorem Indep.snoc {n : Nat} {a E0 : Nat -> Nat -> Int} {v : Nat -> Int} (h : Indep n a) (ha : ∀ k, k < n -> Sp n E0 (a k)) (hv : ∀ s : Int, Sp n E0 (fun j => s * v j) -> s = 0) : Indep (n + 1) (fun k => if k < n then a k else v) := by
 intro x hx k hk;have e : ∀ j, sm n (fun k => x k * a k j) + x n * v j = 0 := fun j => by
  have := hx j;unfold sm at this;rw [sm_congr (g := fun k => x k * a k j) (fun k hk => by simp [hk])] at this;simpa using this
 have h0 : x n = 0 := by
  refine hv _ (((Sp.sm (x := fun k => - x k) ha)).congr (fun j => ?_));have h1 := e j;have h2 : sm n (fun k => - x k * a k j) = - sm n (fun k => x k * a k j) := by
   have := sm_mul n (-1) (fun k => x k * a k j);rw [Int.neg_one_mul] at this;rw [<- this]; exact sm_congr (fun k _ => by rw [Int.neg_mul, Int.neg_one_mul])
  rw [h2]; omega
 by_cases hkn : k = n
 · subst hkn; exact h0
 · refine h x (fun j => ?_) k (by omega);have := e j;rw [h0] at this; simpa using this
theorem ent_rotT : ∀ (k i : Nat) (R : List Hd), i + k < R.length -> ∀ a b, ent (rotT k i R) a b = if a < i then ent R a b else if a < i + k then ent R (a + 1) b else if a = i + k then ent R i b else ent R a b
 | 0, i, R, h, a, b => by
  unfold rotT;by_cases h1 : a < i
  · rw [if_pos h1]
  · rw [if_neg h1, if_neg (by omega)];by_cases h2 : a = i + 0
    · rw [if_pos h2]; subst h2; rfl
    · rw [if_neg h2]
 | k + 1, i, R, h, a, b => by
  unfold rotT;rw [ent_rotT k (i + 1) _ (by rw [swapT_length]; omega)];have hsw := fun x => ent_swapT (R := R) (i := i) (j := i + 1) (by omega) (by omega) x b;rw [hsw, hsw, hsw];by_cases h1 : a < i
  · rw [if_pos (by omega), if_pos h1];unfold swp; rw [if_neg (by omega), if_neg (by omega)]
  · rw [if_neg h1];by_cases h2 : a = i
    · rw [if_pos (by omega), if_pos (by omega)];unfold swp; rw [if_neg (by omega), if_pos h2, h2]
    · rw [if_neg (by omega)];by_cases h3 : a < i + (k + 1)
      · rw [if_pos (by omega), if_pos h3];unfold swp; rw [if_neg (by omega), if_neg (by omega)]
      · rw [if_neg (by omega), if_neg h3];by_cases h4 : a = i + (k + 1)
        · rw [if_pos (by omega), if_pos h4];unfold swp; rw [if_pos rfl]
        · rw [if_neg (by omega), if_neg h4];unfold swp; rw [if_neg (by omega), if_neg (by omega)]
theorem shRotT {c : Nat} : ∀ (k i : Nat) (R : List Hd), Sh c R -> Sh c (rotT k i R)
 | 0, i, R, h => h
 | k + 1, i, R, h => shRotT k (i + 1) _ (h.swapT_ _ _)
theorem rotT_length : ∀ (k i : Nat) (R : List Hd), (rotT k i R).length = R.length
 | 0, i, R => rfl
 | k + 1, i, R => (rotT_length k (i + 1) _).trans (swapT_length ..)
theorem Herm.congr {n c : Nat} {E F : Nat -> Nat -> Int} {l : Nat -> Nat} (h : Herm n c E l) (e : ∀ a, a < n -> ∀ b, F a b = E a b) : Herm n c F l :=
 ⟨h.toEch.congr e, fun i k hik hk => by rw [e i (by omega), e k hk]; exact h.red i k hik hk⟩
structure RI (c m : Nat) (Ro : List Hd) (d e : Nat) (R : List Hd) : Prop where
 sh : Sh c R
 len : R.length = Ro.length
 de : d <= e
 el : e <= Ro.length
 herm : ∃ l, Herm d c (ent R) l
 raw : ∀ i, d <= i -> i < e -> ∀ b, (ent R i b).natAbs < W ^ m
 zero : ∀ i, e <= i -> ∀ b, ent R i b = 0
 sp : SpEq Ro.length (ent Ro) e (ent R)
 ind : ∃ a : Nat -> Nat -> Int, (∀ k, k < d -> Sp d (ent R) (a k)) /\ Indep d a /\ ∀ k b, k < d -> (a k b).natAbs <= W ^ m
structure RedOk (c D : Nat) (Ro : List Hd) (k : Nat) (R' : List Hd) : Prop where
 sh : Sh c R'
 len : R'.length = Ro.length
 kl : k <= Ro.length
 herm : ∃ l, Herm k c (ent R') l
 zero : ∀ i, k <= i -> ∀ b, ent R' i b = 0
 sp : SpEq Ro.length (ent Ro) k (ent R')
 bd : ∀ i b, (ent R' i b).natAbs < W ^ D
theorem RI.done {c m N d : Nat} {Ro R : List Hd} (hI : RI c m Ro d d R) (hN : Ro.length <= N) (hN1 : N <= 1048576) : RedOk c (hermW N m) Ro d R := by
 refine ⟨hI.sh, hI.len, hI.el, hI.herm, hI.zero, hI.sp, fun i b => ?_⟩;obtain ⟨l, hH⟩ := hI.herm;obtain ⟨a, ha1, ha2, ha3⟩ := hI.ind;by_cases h : i < d
 · exact Nat.lt_of_le_of_lt (hH.bound ha1 ha2 (fun k j hk => ha3 k j hk) i b h) (hermD_lt (by have := hI.el; omega) hN1)
 · rw [hI.zero i (by omega)]; simpa using pw_pos _
theorem red_ok {c m N B : Nat} {Ro : List Hd} (hN : Ro.length <= N) (hN1 : N <= 1048576) (hB : ladW N m <= B) : ∀ (f d e : Nat) (R : List Hd), e - d <= f -> RI c m Ro d e R -> ∃ k R', RedT B c d e R k R' /\ RedOk c (hermW N m) Ro k R'
 | 0, d, e, R, hf, hI => by
  have : d = e := by have := hI.de; omega
  subst this;exact ⟨d, R, .fin (Nat.le_refl _), hI.done hN hN1⟩
 | f + 1, d, e, R, hf, hI => by
  by_cases hde : d < e
  · obtain ⟨δ, hδ⟩ : ∃ δ, hermW N m = δ := ⟨_, rfl⟩;unfold ladW at hB;rw [hδ] at hB;obtain ⟨l, hH⟩ := hI.herm;obtain ⟨a, ha1, ha2, ha3⟩ := hI.ind;have hdl : d < Ro.length := by have := hI.el; omega
    have hmδ : m <= δ := by
     have h1 : (m + 1) * 1 <= (m + 1) * (2 * N) := Nat.mul_le_mul_left _ (by omega);rw [<- hδ]; unfold hermW;have h2 : 2 * (m + 1) * N = (m + 1) * (2 * N) := by rw [Nat.mul_comm 2, Nat.mul_assoc]
     omega
    have hbnd : ∀ i, i < d -> ∀ b, (ent R i b).natAbs < W ^ δ := fun i hi b => by
     have := hH.bound ha1 ha2 (fun k j hk => ha3 k j hk) i b hi;exact Nat.lt_of_le_of_lt this (hδ ▸ hermD_lt (by omega) hN1)
    have hall : ∀ x b, (ent R x b).natAbs < W ^ δ := fun x b => by
     by_cases h1 : x < d
     · exact hbnd x h1 b
     · by_cases h2 : x < e
       · exact pw_lt (hI.raw x (by omega) h2 b) hmδ
       · rw [hI.zero x (by omega)]; simpa using pw_pos δ
    have hsub : ∀ {M : Nat} {E' : Nat -> Nat -> Int}, SpEq (d + 1) (ent R) M E' -> ∀ k, k < d -> Sp M E' (a k) := fun hsp k hk =>
     (ha1 k hk).trans (fun i hi => hsp.1 i (by omega))
    have hZ : ∀ E' l', Herm d c E' l' -> SpEq (d + 1) (ent R) d E' -> ∀ i, i < d -> ∀ j, (E' i j).natAbs < W ^ δ := fun E' l' hE' hsp i hi j =>
     Nat.lt_of_le_of_lt (hE'.bound (hsub hsp) ha2 (fun k j hk => ha3 k j hk) i j hi) (hδ ▸ hermD_lt (by omega) hN1)
    have hS : (∀ s : Int, Sp d (ent R) (fun j => s * ent R d j) -> s = 0) -> ∀ E' l', Herm (d + 1) c E' l' -> SpEq (d + 1) (ent R) (d + 1) E' -> ∀ i, i < d + 1 -> ∀ j, (E' i j).natAbs < W ^ δ := fun hv E' l' hE' hsp i hi j => by
     have hb := hE'.bound (a := fun k => if k < d then a k else ent R d) (M := W ^ m) (fun k hk => by
      by_cases h : k < d
      · simp only [if_pos h]; exact hsub hsp k h
      · simp only [if_neg h]; exact hsp.1 d (by omega)) (ha2.snoc ha1 hv) (fun k j hk => by
      by_cases h : k < d
      · simp only [if_pos h]; exact ha3 k j h
      · simp only [if_neg h]; exact Nat.le_of_lt (hI.raw d (Nat.le_refl _) hde j)) i j hi
     exact Nat.lt_of_le_of_lt hb (hδ ▸ hermD_lt (by omega) hN1)
    have hmulN : (d - 0) * (2 * δ + 1) <= N * (2 * δ + 1) := Nat.mul_le_mul_right _ (by omega);have hmulN2 : (d + 1) * δ <= (N + 1) * δ := Nat.mul_le_mul_right _ (by omega);obtain ⟨b, R1, hput, hok⟩ := putLoop (δ := δ) (B := B) (U := δ + N * (2 * δ + 1)) (v0 := ent R d) (by rw [hI.len]; exact hdl : d < R.length) hH.toEch hbnd (by omega) hZ hS d 0 δ 0 (-1) R (by omega)
     ⟨hI.sh, rfl, hH.toEch, Nat.zero_le _, fun i hi => by omega, fun i _ _ => by omega, fun i _ _ _ => rfl, fun b hb => by omega, hall, ⟨1, fun _ => 0, by omega, Sp.zero _ _, fun b => by simp⟩, SpEq.refl _ _, fun _ _ _ => rfl⟩ (Nat.le_refl _) (by omega)
    cases b
    · obtain ⟨⟨l', hH'⟩, hz, hsp⟩ := hok.no rfl;have hl1 : R1.length = R.length := hok.len;have hrot := ent_rotT (e - 1 - d) d R1 (by rw [hl1, hI.len]; have := hI.el; omega);have e1 : d + (e - 1 - d) = e - 1 := by omega
      rw [e1] at hrot;obtain ⟨R2, hR2⟩ : ∃ R2, rotT (e - 1 - d) d R1 = R2 := ⟨_, rfl⟩;have hlo : ∀ i, i < d -> ∀ b, ent R2 i b = ent R1 i b := fun i hi b => by rw [<- hR2, hrot, if_pos hi]
      have hmid : ∀ i, d <= i -> i < e - 1 -> ∀ b, ent R2 i b = ent R (i + 1) b := fun i h1 h2 b => by
       rw [<- hR2, hrot, if_neg (by omega), if_pos h2, hok.oth (i + 1) (by omega)]
      have hsp2 : SpEq Ro.length (ent Ro) (e - 1) (ent R2) := by
       refine hI.sp.trans ⟨fun k hk => ?_, fun k hk => ?_⟩
       · by_cases h1 : k <= d
         · refine (hsp.1 k (by omega)).trans (fun i hi => ?_);exact (Sp.row (ent R2) (by omega : i < e - 1)).congr (fun b => (hlo i hi b).symm)
         · refine (Sp.row (ent R2) (by omega : k - 1 < e - 1)).congr (fun b => ?_);rw [hmid (k - 1) (by omega) (by omega)]; congr 1; omega
       · by_cases h1 : k < d
         · refine ((hsp.2 k h1).congr (hlo k h1)).trans (fun i hi => Sp.row _ (by omega))
         · exact (Sp.row (ent R) (by omega : k + 1 < e)).congr (hmid k (by omega) hk)
      have hRI : RI c m Ro d (e - 1) R2 := by
       refine ⟨hR2 ▸ shRotT _ _ _ hok.sh, by rw [<- hR2, rotT_length, hl1, hI.len], by omega, by have := hI.el; omega, ⟨l', hH'.congr hlo⟩, fun i h3 h4 b => ?_, fun i h3 b => ?_, hsp2, ⟨a, fun k hk => ?_, ha2, ha3⟩⟩
       · rw [hmid i h3 h4]; exact hI.raw (i + 1) (by omega) (by omega) b
       · rw [<- hR2, hrot, if_neg (by omega), if_neg (by omega)];by_cases h4 : i = e - 1
         · rw [if_pos h4]; exact hz b
         · rw [if_neg h4, hok.oth i (by omega)]; exact hI.zero i (by omega) b
       · refine (hsub hsp k hk).trans (fun i hi => ?_);exact (Sp.row (ent R2) hi).congr (fun b => (hlo i hi b).symm)
      obtain ⟨k, R', h1, h2⟩ := red_ok hN hN1 (by unfold ladW; rw [hδ]; exact hB) f d (e - 1) R2 (by omega) hRI;exact ⟨k, R', .zero hde hput (by rw [hR2]; exact h1), h2⟩
    · obtain ⟨⟨l', hH'⟩, hsp, hv⟩ := hok.yes rfl;have hl1 : R1.length = R.length := hok.len;have hsp2 : SpEq Ro.length (ent Ro) e (ent R1) := by
       refine hI.sp.trans ⟨fun k hk => ?_, fun k hk => ?_⟩
       · by_cases h1 : k < d + 1
         · exact (hsp.1 k h1).trans (fun i hi => Sp.row _ (by omega))
         · exact (Sp.row (ent R1) hk).congr (fun b => (hok.oth k (by omega) b).symm)
       · by_cases h1 : k < d + 1
         · exact (hsp.2 k h1).trans (fun i hi => Sp.row _ (by omega))
         · exact (Sp.row (ent R) hk).congr (fun b => hok.oth k (by omega) b)
      have hRI : RI c m Ro (d + 1) e R1 := by
       refine ⟨hok.sh, hl1.trans hI.len, by omega, hI.el, ⟨l', hH'⟩, fun i h3 h4 b => ?_, fun i h3 b => ?_, hsp2, ⟨fun k => if k < d then a k else ent R d, fun k hk => ?_, ha2.snoc ha1 hv, fun k b hk => ?_⟩⟩
       · rw [hok.oth i (by omega)]; exact hI.raw i (by omega) h4 b
       · rw [hok.oth i (by omega)]; exact hI.zero i h3 b
       · by_cases h : k < d
         · simp only [if_pos h]; exact hsub hsp k h
         · simp only [if_neg h]; exact hsp.1 d (by omega)
       · by_cases h : k < d
         · simp only [if_pos h]; exact ha3 k b h
         · simp only [if_neg h]; exact Nat.le_of_lt (hI.raw d (Nat.le_refl _) hde b)
      obtain ⟨k, R', h1, h2⟩ := red_ok hN hN1 (by unfold ladW; rw [hδ]; exact hB) f (d + 1) e R1 (by omega) hRI;exact ⟨k, R', .ok hde hput h1, h2⟩
  · have : d = e := by have := hI.de; omega
    subst this;exact ⟨d, R, .fin (Nat.le_refl _), hI.done hN hN1⟩
theorem reduce_ok {c m N B : Nat} {Ro : List Hd} (hs : Sh c Ro) (hm : ∀ i b, (ent Ro i b).natAbs < W ^ m) (hN : Ro.length <= N) (hN1 : N <= 1048576) (hB : ladW N m <= B) : ∃ k R', RedT B c 0 Ro.length Ro k R' /\ RedOk c (hermW N m) Ro k R' :=
 red_ok hN hN1 hB Ro.length 0 Ro.length Ro (by omega)
  ⟨hs, rfl, Nat.zero_le _, Nat.le_refl _, ⟨fun _ => 0, ⟨fun i k _ h => by omega, fun i h => by omega, fun i h => by omega, fun i h => by omega⟩, fun i k _ h => by omega⟩, fun i _ _ b => hm i b, fun i hi b => ent_out hi b, SpEq.refl _ _, ⟨fun _ _ => 0, fun k h => by omega, fun x _ k h => by omega, fun k b h => by omega⟩⟩
def matE (xs : List Int) (r c i j : Nat) : Int := if i < r /\ j < c then xs.getD (i * c + j) 0 else 0
theorem idx_lt {r c i j : Nat} (hi : i < r) (hj : j < c) : i * c + j < r * c := by
 have h1 : (i + 1) * c <= r * c := Nat.mul_le_mul_right _ hi;have h2 : (i + 1) * c = i * c + c := Nat.succ_mul i c;omega
theorem idx_of {r c n : Nat} (h : n < r * c) : ∃ i j, i < r /\ j < c /\ n = i * c + j := by
 have hc : 0 < c := by
  rcases Nat.eq_zero_or_pos c with h0 | h0
  · subst h0; simp at h
  · exact h0
 exact ⟨n / c, n % c, (Nat.div_lt_iff_lt_mul hc).2 h, Nat.mod_lt _ hc, by have := Nat.div_add_mod n c; rw [Nat.mul_comm] at this; omega⟩
theorem matE_eq {xs : List Int} {r c i j : Nat} (hi : i < r) (hj : j < c) : matE xs r c i j = xs.getD (i * c + j) 0 := by
 unfold matE; rw [if_pos ⟨hi, hj⟩]
theorem matE_row {xs : List Int} {r c i : Nat} (hi : r <= i) (j : Nat) : matE xs r c i j = 0 := by
 unfold matE; rw [if_neg (by omega)]
theorem matE_col {xs : List Int} {r c j : Nat} (i : Nat) (hj : c <= j) : matE xs r c i j = 0 := by
 unfold matE; rw [if_neg (by omega)]
theorem matE_ext {xs ys : List Int} {r c : Nat} (hx : xs.length = r * c) (hy : ys.length = r * c) (h : ∀ i j, i < r -> j < c -> matE xs r c i j = matE ys r c i j) : xs = ys := by
 refine List.ext_getElem (by omega) fun n h1 h2 => ?_;obtain ⟨i, j, hi, hj, e⟩ := idx_of (by omega : n < r * c);have := h i j hi hj;rw [matE_eq hi hj, matE_eq hi hj, <- e, gd_lt _ _ h1, gd_lt _ _ h2] at this;exact this
theorem matE_bound {xs : List Int} {r c B : Nat} (hB : 0 < B) (h : ∀ x ∈ xs, x.natAbs < B) (i j : Nat) : (matE xs r c i j).natAbs < B := by
 unfold matE;split
 · by_cases hl : i * c + j < xs.length
   · rw [gd_lt _ _ hl]; exact h _ (List.getElem_mem _)
   · rw [gd_ge _ _ (by omega)]; simpa using hB
 · simpa using hB
theorem bound_matE {xs : List Int} {r c B : Nat} (hx : xs.length = r * c) (h : ∀ i j, i < r -> j < c -> (matE xs r c i j).natAbs < B) : ∀ x ∈ xs, x.natAbs < B := by
 intro x hm;obtain ⟨n, hn, rfl⟩ := List.getElem_of_mem hm;obtain ⟨i, j, hi, hj, e⟩ := idx_of (by omega : n < r * c);have := h i j hi hj;rw [matE_eq hi hj, <- e, gd_lt _ _ hn] at this;exact this
theorem getD_rowOf (xs : List Int) (c k j : Nat) (hj : j < c) : (rowOf xs c k).getD j 0 = xs.getD (k * c + j) 0 := by
 unfold rowOf;simp [hj]
theorem getD_flatten : ∀ (xss : List (List Int)) (c : Nat), (∀ x ∈ xss, x.length = c) -> ∀ i j, (hi : i < xss.length) -> j < c -> xss.flatten.getD (i * c + j) 0 = (xss[i]).getD j 0
 | [], c, h, i, j, hi, hj => by simp at hi
 | x :: xss, c, h, 0, j, hi, hj => by
  have hx := h x (List.mem_cons_self ..);rw [List.flatten_cons, Nat.zero_mul, Nat.zero_add, List.getElem_cons_zero];rw [gd_lt _ _ (by rw [List.length_append]; omega), gd_lt _ _ (by omega), List.getElem_append_left]
 | x :: xss, c, h, i + 1, j, hi, hj => by
  have hx := h x (List.mem_cons_self ..);rw [List.flatten_cons, List.getElem_cons_succ, <- getD_flatten xss c (fun y hy => h y (List.mem_cons_of_mem _ hy)) i j (by simpa using hi) hj];have e : (i + 1) * c + j = x.length + (i * c + j) := by rw [Nat.succ_mul, hx]; omega
  rw [e, List.getD_eq_getElem?_getD, List.getElem?_append_right (by omega), List.getD_eq_getElem?_getD];congr 2; omega
structure IsHnf (r c : Nat) (xs hs : List Int) (k : Nat) (l : Nat -> Nat) : Prop where
 len : hs.length = r * c
 kr : k <= r
 herm : Herm k c (matE hs r c) l
 zero : ∀ i, k <= i -> ∀ b, matE hs r c i b = 0
 sp : SpEq r (matE xs r c) k (matE hs r c)
theorem IsHnf.unique {r c : Nat} {xs hs hs' : List Int} {k k' : Nat} {l l' : Nat -> Nat} (h : IsHnf r c xs hs k l) (h' : IsHnf r c xs hs' k' l') : hs = hs' /\ k = k' /\ ∀ i, i < k -> l i = l' i := by
 obtain ⟨h1, h2, h3⟩ := h.herm.unique h'.herm (h.sp.symm.trans h'.sp);refine ⟨matE_ext h.len h'.len fun i j hi hj => ?_, h1, h2⟩;by_cases hk : i < k
 · exact h3 i hk j
 · rw [h.zero i (by omega), h'.zero i (by omega)]
theorem ent_rows {R : List Hd} {xs : List Int} {r c : Nat} (hl : R.length = r) (hx : xs.length = r * c) (h : ∀ k (hk : k < R.length), R[k].xs = rowOf xs c k) : Sh c R /\ ∀ i j, ent R i j = matE xs r c i j := by
 have hlen : ∀ k, k < r -> (rowOf xs c k).length = c := fun k hk => by
  have := idx_lt (c := c + 1) hk (Nat.lt_succ_self c);unfold rowOf;have h1 : (k + 1) * c <= r * c := Nat.mul_le_mul_right _ hk;have h2 : (k + 1) * c = k * c + c := Nat.succ_mul k c;simp [hx]; omega
 have hsh : Sh c R := fun q hq => by
  obtain ⟨k, hk, rfl⟩ := List.getElem_of_mem hq;rw [h k hk]; exact hlen k (by omega)
 refine ⟨hsh, fun i j => ?_⟩;by_cases hi : i < r
 · by_cases hj : j < c
   · rw [ent_get (by omega), h i (by omega), getD_rowOf _ _ _ _ hj, matE_eq hi hj]
   · rw [hsh.wide i (by omega), matE_col _ (by omega)]
 · rw [ent_out (by omega), matE_row (by omega)]
theorem matE_rows {R : List Hd} {r c : Nat} (hl : R.length = r) (hs : Sh c R) : (R.map Hd.xs).flatten.length = r * c /\ ∀ i j, matE (R.map Hd.xs).flatten r c i j = ent R i j := by
 have hc : ∀ x ∈ R.map Hd.xs, x.length = c := fun x hx => by
  obtain ⟨q, hq, rfl⟩ := List.mem_map.1 hx; exact hs q hq
 refine ⟨?_, fun i j => ?_⟩
 · have : ∀ (xss : List (List Int)), (∀ x ∈ xss, x.length = c) -> xss.flatten.length = xss.length * c := by
    intro xss;induction xss with
    | nil => intro _; simp
    | cons x xs ih =>
     intro h;rw [List.flatten_cons, List.length_append, ih (fun y hy => h y (List.mem_cons_of_mem _ hy)), h x (List.mem_cons_self ..), List.length_cons, Nat.succ_mul]; omega
   rw [this _ hc, List.length_map, hl]
 · by_cases hi : i < r
   · by_cases hj : j < c
     · rw [matE_eq hi hj, getD_flatten _ c hc i j (by simp; omega) hj, List.getElem_map, ent_get (by omega)]
     · rw [hs.wide i (by omega), matE_col _ (by omega)]
   · rw [ent_out (by omega), matE_row (by omega)]
theorem SpEq.left {n m : Nat} {E E' F : Nat -> Nat -> Int} (h : SpEq n E m F) (e : ∀ i j, E' i j = E i j) : SpEq n E' m F :=
 (SpEq.of_eq (fun k _ j => e k j)).trans h
theorem SpEq.right {n m : Nat} {E F F' : Nat -> Nat -> Int} (h : SpEq n E m F) (e : ∀ i j, F' i j = F i j) : SpEq n E m F' :=
 h.trans (SpEq.of_eq (fun k _ j => (e k j).symm))
theorem hnf_of {R R' : List Hd} {xs : List Int} {r c D k : Nat} (hl : R.length = r) (he : ∀ i j, ent R i j = matE xs r c i j) (h : RedOk c D R k R') : ∃ l, IsHnf r c xs (R'.map Hd.xs).flatten k l /\ ∀ x ∈ (R'.map Hd.xs).flatten, x.natAbs < W ^ D := by
 obtain ⟨l, hH⟩ := h.herm;have hm := matE_rows (h.len.trans hl) h.sh;refine ⟨l, ⟨hm.1, hl ▸ h.kl, hH.congr (fun a _ b => hm.2 a b), fun i hi b => (hm.2 i b).trans (h.zero i hi b), ?_⟩, bound_matE hm.1 (fun i j _ _ => by rw [hm.2]; exact h.bd i j)⟩;have := h.sp;rw [hl] at this;exact (this.left (fun i j => (he i j).symm)).right hm.2
end Go.Proofs.YtajmkebkgmbfnaaGreat
namespace Go.Proofs.YtajmkebkgmbfnaaGreat
open Go.RowKit
set_option maxRecDepth 100000 in
set_option maxHeartbeats 4000000 in
theorem reduced_c (o cap B c k : Nat) (R R' : List Hd) (w : World) (h : MatN w o R) (hB : B <= 4000000000000) (hP : RedT B c 0 R.length R k R') (hR : R.length <= 100000) (hc : c <= 1000000) :
 Calls Tryz.prog 104 #[.slice (some ⟨o, 0, none⟩) R.length cap] w fun e w' => e = .returned (.tuple #[.slice (some ⟨o, 0, none⟩) R'.length cap, .int .i64 (k : Int)]) /\ MatN w' o R' /\ Chg (fun q => q = o ∨ ∃ r ∈ R, r.blk = q) w w' := by
 have HM := Lib.hid h; clear h;have HP := Lib.hid hP; clear hP;go_enter Tryz.func104, Tryz.ntmps104;go_wp2_with fail
 refine (New_c o cap R _ HM.out).mono ?_;rintro e w2 ⟨⟨lb, sb, g, rfl, hL, h1, h2, h3⟩, hb2⟩;have HL := Lib.hid hL; clear hL;have HB2 := Lib.hid hb2; clear hb2;go_wp2_with fail
 refine (Reduce_c ⟨lb, o, sb, g, cap, R, none⟩ B c k R' _ HL.out hB HP.out hR hc (fun t h => by cases h)).mono ?_;rintro e w3 ⟨rfl, hL3, hC3⟩;have L3 := Lib.hid hL3;have C3 : Hid (Chg (fun q => q = o ∨ ∃ r ∈ R, r.blk = q) w w3) := Lib.hid ((Chg.of_below HB2.out).trans (hC3.mono (fun q _ e => by rcases e with e | ⟨t, ht, _⟩; exact e; cases ht)));have cb : w3.cell? ⟨lb, 0, none⟩ = some (.slice (some ⟨o, 0, none⟩) R'.length cap) := L3.out.lad.cell 0;clear hL3 hC3;go_wp2;refine bodyPost_ret (results_tmp2 (t := 2) (u := 3) (by kernel_rfl) _ _ _) rfl ?_;exact ⟨rfl, L3.out.mat, C3.out⟩
theorem results_mat {fn : Func} {p : Tmp} (h : fn.results = #[.cell p 28]) (tmps : Array Value) (w : World) (g : Nat) (a b c : Value) (hp : tmps.getD p undef = .pointer (some ⟨g, 0, none⟩)) (hr : RowAt w g 28 [a, b, c]) :
 (results fn tmps).run Tryz.prog w = .ok (.agg #[a, b, c]) w :=
 results_cell_row h tmps w g 28 #[a, b, c] (0, 0) _ hp hr Tryz.underlying28 rfl (by kernel_rfl)
structure RowsAt (w : World) (L o : Nat) (xss : List (List Int)) : Prop where
 lt : o < w.heap.size
 row : ∀ i (h : i < xss.length), ∃ ao cap, w.cell? ⟨o, i, none⟩ = some (.slice ao xss[i].length cap) /\ LsAt w L ao xss[i]
structure MatI (w : World) (b m n c N : Nat) (cu : List Int) (W : World) : Prop where
 box : RowAt W m 28 [.int .i64 (n : Int), .int .i64 (c : Int), .slice (some ⟨b, 0, none⟩) cu.length N]
 row : RowN W b (cu ++ List.replicate (N - cu.length) 0)
 res : RowAt W w.heap.size 28 [.int .i64 0, .int .i64 0, .slice none 0 0]
 bel : Below w.heap.size w W
theorem MatI.app {w : World} {b m n c N k : Nat} {cu : List Int} {W : World} (h : MatI w b m n c N cu W) (hb : w.heap.size < b /\ b < m) (hk : cu.length = k) (hkN : k + 1 <= N) {p : P4} {x : Int} (hx : NumAt W (av p) x) (W2 : World)
 (e : (W.alloc (.cells #[.bool p.1, .slice p.2.1 p.2.2.1 p.2.2.2] 44)).setCells b (k * 2) [.bool p.1, .slice p.2.1 p.2.2.1 p.2.2.2] = W2) :
 RowAt W2 m 28 [.int .i64 (n : Int), .int .i64 (c : Int), .slice (some ⟨b, 0, none⟩) k N] /\ MatI w b m n c N (cu ++ [x]) (W2.setCell ⟨m, 2, none⟩ (.slice (some ⟨b, 0, none⟩) (k + 1) N)) := by
 have hb1 : Below W.heap.size W (W.alloc (.cells #[.bool p.1, .slice p.2.1 p.2.2.1 p.2.2.2] 44)) := (Below.refl _ _).alloc (Nat.le_refl _) _;generalize W.alloc (.cells #[.bool p.1, .slice p.2.1 p.2.2.1 p.2.2.2] 44) = W1 at *;subst hk;have hx1 := hx.below hb1;have hr1 := h.row.below hb1;have hm1 := h.box.below hb1 h.box.lt;have hs1 := h.res.below hb1 h.res.lt;have hB1 := h.bel.trans (hb1.mono h.bel.size);have e2 : (W1.setCell ⟨b, cu.length * 2, none⟩ (.bool p.1)).setCell ⟨b, cu.length * 2 + 1, none⟩ (.slice p.2.1 p.2.2.1 p.2.2.2) = W2 := by rw [<- e]; rfl
 have hr2 : RowN W2 b ((cu ++ List.replicate (N - cu.length) 0).set cu.length x) := by rw [<- e2]; exact hr1.set cu.length hx1
 have hne : m ≠ b := by omega
 have hm2 : RowAt W2 m 28 [.int .i64 (n : Int), .int .i64 (c : Int), .slice (some ⟨b, 0, none⟩) cu.length N] := by
  rw [<- e2]; exact (hm1.other (p := ⟨b, cu.length * 2, none⟩) hne _).other (p := ⟨b, cu.length * 2 + 1, none⟩) hne _
 have hs2 : RowAt W2 w.heap.size 28 [.int .i64 0, .int .i64 0, .slice none 0 0] := by
  rw [<- e2]; exact (hs1.other (p := ⟨b, cu.length * 2, none⟩) (by show w.heap.size ≠ b; omega) _).other (p := ⟨b, cu.length * 2 + 1, none⟩) (by show w.heap.size ≠ b; omega) _
 have hB2 : Below w.heap.size w W2 := by
  rw [<- e2]; exact (hB1.setCell (p := ⟨b, cu.length * 2, none⟩) (Nat.le_of_lt hb.1) _).setCell (p := ⟨b, cu.length * 2 + 1, none⟩) (Nat.le_of_lt hb.1) _
 refine ⟨hm2, ?_, ?_, ?_, ?_⟩
 · have := hm2.set 2 (.slice (some ⟨b, 0, none⟩) (cu.length + 1) N);simpa using this
 · have e3 : (cu ++ List.replicate (N - cu.length) 0).set cu.length x = (cu ++ [x]) ++ List.replicate (N - (cu ++ [x]).length) 0 := by
    obtain ⟨q, hq⟩ : ∃ q, N - cu.length = q + 1 := ⟨N - cu.length - 1, by omega⟩;have hq2 : N - (cu ++ [x]).length = q := by simp; omega
    rw [hq, hq2, List.replicate_succ, List.set_append_right _ _ (Nat.le_refl _)];simp
   rw [<- e3];exact hr2.setFar hm2 (by decide) (NoW.mat (n : Int) (c : Int) _ _ _) 2 _
 · exact hs2.other (p := ⟨m, 2, none⟩) (by show w.heap.size ≠ m; omega) _
 · exact hB2.setCell (p := ⟨m, 2, none⟩) (by show w.heap.size <= m; omega) _
theorem two_cells (w : World) (x y : Value) (t : TypeId) : ∀ j u, [x, y][j]? = some u -> (w.alloc (.cells #[x, y] t)).cell? ((⟨w.heap.size, 0, none⟩ : Addr).add j) = some u := by
 intro j u hj;have := (RowAt.new w #[x, y] t).cell j;have e : ((⟨w.heap.size, 0, none⟩ : Addr).add j) = ⟨w.heap.size, j, none⟩ := by unfold Addr.add; simp; omega
 rw [e, this]; exact hj
theorem MatI.spare {w : World} {b m n c N k : Nat} {cu : List Int} {W : World} (h : MatI w b m n c N cu W) (hk : cu.length = k) (hkN : k + 1 <= N) (X : Obj) (j : Nat) (hj : j < 2) : ((W.alloc X).cell? ⟨b, 0 + k * 2 + j, none⟩).isSome = true /\ (W.alloc X).frozen? ⟨b, 0 + k * 2 + j, none⟩ = false := by
 have hb1 : Below W.heap.size W (W.alloc X) := (Below.refl _ _).alloc (Nat.le_refl _) _;have hr1 := h.row.below hb1;refine ⟨?_, hr1.free _⟩;obtain ⟨q, h0, h1, _⟩ := hr1.get (i := k) (by simp [hk]; omega);have hj2 : j = 0 ∨ j = 1 := by omega
 rcases hj2 with rfl | rfl
 · rw [Nat.zero_add, Nat.add_zero, h0]; rfl
 · rw [Nat.zero_add, h1]; rfl
theorem flatten_len {xss : List (List Int)} {c : Nat} (hc : ∀ x ∈ xss, x.length = c) : xss.flatten.length = xss.length * c := by
 induction xss with
 | nil => simp
 | cons x xs ih =>
  rw [List.flatten_cons, List.length_append, ih (fun y hy => hc y (List.mem_cons_of_mem _ hy)), hc x (List.mem_cons_self ..), List.length_cons, Nat.succ_mul]; omega
theorem flatten_take_len {xss : List (List Int)} {c i : Nat} (hc : ∀ x ∈ xss, x.length = c) (hi : i <= xss.length) : (xss.take i).flatten.length = i * c := by
 rw [flatten_len (fun x hx => hc x (List.mem_of_mem_take hx)), List.length_take, Nat.min_eq_left hi]
theorem flatten_take_succ {xss : List (List Int)} {i : Nat} (hi : i < xss.length) : (xss.take (i + 1)).flatten = (xss.take i).flatten ++ xss[i] := by
 rw [List.take_succ_eq_append_getElem hi, List.flatten_append]; simp
set_option maxRecDepth 100000 in
set_option maxHeartbeats 4000000 in
theorem matrix_c (o cap n c : Nat) (xss : List (List Int)) (w : World) (h : RowsAt w 17592186044415 o xss) (hn : xss.length = n) (hc : ∀ x ∈ xss, x.length = c) (hn1 : n <= 10000) (hc1 : c <= 10000) :
 Calls Tryz.prog 106 #[.slice (some ⟨o, 0, none⟩) n cap, .int .i64 (c : Int)] w fun e w' => (∃ b, e = .returned (.agg #[.int .i64 (n : Int), .int .i64 (c : Int), .slice (some ⟨b, 0, none⟩) (n * c) (n * c)]) /\ w.heap.size <= b /\ RowN w' b xss.flatten) /\ Below w.heap.size w w' := by
 have hnc : n * c <= 100000000 := Nat.mul_le_mul hn1 hc1;have hw1 : wrap64 ((n : Int) * (c : Int)) = ((n * c : Nat) : Int) := by
  rw [<- Int.natCast_mul]; unfold wrap64; omega
 obtain ⟨N, hN⟩ : ∃ N, n * c = N := ⟨_, rfl⟩;rw [hN] at hw1 hnc ⊢;have HN := Lib.hid hN; clear hN;have HX := Lib.hid h; clear h;go_enter Tryz.func106, Tryz.ntmps106;go_wp2_with (at_make; refine mk_nums rfl _ _ rfl 0 N rfl rfl rfl (by omega) (Nat.zero_le _) (by omega) ?_; intro b w1 hm1)
 have hI : MatI w b w1.heap.size n c N [] (w1.alloc (.cells #[.int .i64 (n : Int), .int .i64 (c : Int), .slice (some ⟨b, 0, none⟩) 0 N] 28)) := by
  have h0 := RowAt.new w #[.int .i64 0, .int .i64 0, .slice none 0 0] 28;have hb0 : Below w.heap.size w (w.alloc (.cells #[.int .i64 0, .int .i64 0, .slice none 0 0] 28)) := (Below.refl _ _).alloc (Nat.le_refl _) _;have hb1 : Below w1.heap.size w1 (w1.alloc (.cells #[.int .i64 (n : Int), .int .i64 (c : Int), .slice (some ⟨b, 0, none⟩) 0 N] 28)) := (Below.refl _ _).alloc (Nat.le_refl _) _;refine ⟨RowAt.new _ _ _, ?_, ?_, ?_⟩
  · simpa using (RowN.zeros hm1.row).below hb1
  · exact (h0.below hm1.below h0.lt).alloc _
  · exact (hb0.trans (hm1.below.mono hb0.size)).trans (hb1.mono (Nat.le_trans hb0.size hm1.below.size))
 have hbl : w.heap.size < b /\ b < w1.heap.size := by
  have h1 := hm1.at_; have h2 := hm1.size; rw [World.size_alloc] at h1 h2; omega
 have HI := Lib.hid hI; clear hI;clear hm1;generalize w1.alloc (.cells #[.int .i64 (n : Int), .int .i64 (c : Int), .slice (some ⟨b, 0, none⟩) 0 N] 28) = w2 at *;obtain ⟨m, hm⟩ : ∃ m, w1.heap.size = m := ⟨_, rfl⟩;rw [hm] at hbl HI ⊢;clear hm;have HC := Lib.hid hc; clear hc;go_loopw [21] (fun i_ wr => ∃ (i : Nat), i <= n /\ i_ = .int .i64 (i : Int) /\ Hid (MatI w b m n c N (xss.take i).flatten wr)) (fun i_ _ => n - (intOf i_).toNat)
 case atStart => exact ⟨0, Nat.zero_le _, rfl, Lib.hid (by simpa using HI.out)⟩
 case round =>
  obtain ⟨i, hi, rfl, hIr⟩ := hrel;by_cases hin : i < n
  · have hix : i < xss.length := by omega
    have hin1 : (i : Int) < (n : Int) := by omega
    obtain ⟨ra, rc, hroww, hls⟩ := HX.out.row i hix;have hrow0 := (hIr.out.bel.cell (p := ⟨o, i, none⟩) HX.out.lt).trans hroww;clear hroww;have hxl : xss[i].length = c := HC.out _ (List.getElem_mem hix);rw [hxl] at hrow0;have HXL := Lib.hid hxl; clear hxl;have HLS := Lib.hid hls; clear hls;have hmul : (i + 1) * c <= N := by rw [<- HN.out]; exact Nat.mul_le_mul_right _ hin
    have hmul2 : (i + 1) * c = i * c + c := Nat.succ_mul i c;have hfl : (xss.take i).flatten.length = i * c := flatten_take_len HC.out (by omega);have HFL := Lib.hid hfl; clear hfl;have HM := Lib.hid (And.intro hmul hmul2); clear hmul hmul2;go_wp2;go_loopw [27] (fun j_ wq => ∃ (j : Nat), j <= c /\ j_ = .int .i64 (j : Int) /\ Hid (MatI w b m n c N ((xss.take i).flatten ++ xss[i].take j) wq)) (fun j_ _ => c - (intOf j_).toNat)
    case atStart => exact ⟨0, Nat.zero_le _, rfl, Lib.hid (by simpa using hIr.out)⟩
    case round =>
     obtain ⟨j, hj, rfl, hIq⟩ := hrel;by_cases hjc : j < c
     · have hjc1 : (j : Int) < (c : Int) := by omega
       have hjx : j < xss[i].length := by rw [HXL.out]; exact hjc
       obtain ⟨k, hk⟩ : ∃ k, i * c + j = k := ⟨_, rfl⟩;have hkN : k + 1 <= N := by have := HM.out; omega
       obtain ⟨cu, hcu⟩ : ∃ cu, (xss.take i).flatten ++ xss[i].take j = cu := ⟨_, rfl⟩;rw [hcu] at hIq;have hcl : cu.length = k := by rw [<- hcu, List.length_append, HFL.out, List.length_take, Nat.min_eq_left (by omega)]; exact hk
       have hcu2 : (xss.take i).flatten ++ xss[i].take (j + 1) = cu ++ [xss[i][j]] := by
        rw [List.take_succ_eq_append_getElem hjx, <- List.append_assoc, hcu]
       obtain ⟨x, hx⟩ : ∃ x, xss[i][j] = x := ⟨_, rfl⟩;obtain ⟨ab, aoff, hra, hab, hcells⟩ := (HLS.out.below hIq.out.bel) (by omega);subst hra;obtain ⟨px, cx0, cx1, hnx⟩ := hcells j hjx;rw [hx] at hnx hcu2;have HCU := Lib.hid hcu2; clear hcu2 hcu hcells hx;have HK := Lib.hid hk; clear hk;have hb1 : Below wr.heap.size wr (wr.alloc (.cells #[.bool px.1, .slice px.2.1 px.2.2.1 px.2.2.2] 44)) := (Below.refl _ _).alloc (Nat.le_refl _) _;have Hnx := Lib.hid (hnx.below hb1); clear hnx;have hIa : MatI w b m n c N cu (wr.alloc (.cells #[.bool px.1, .slice px.2.1 px.2.2.1 px.2.2.2] 44)) :=
        ⟨hIq.out.box.below hb1 hIq.out.box.lt, hIq.out.row.below hb1, hIq.out.res.below hb1 hIq.out.res.lt, hIq.out.bel.trans (hb1.mono hIq.out.bel.size)⟩
       have HIa := Lib.hid hIa; clear hIa;have hxr := RowAt.new wr #[.bool px.1, .slice px.2.1 px.2.2.1 px.2.2.2] 44;have HXR := Lib.hid hxr; clear hxr;have hsm : m < wr.heap.size := hIq.out.box.lt;clear hIq hb1;go_wp2;generalize wr.alloc (.cells #[.bool px.1, .slice px.2.1 px.2.2.1 px.2.2.2] 44) = w5 at *;obtain ⟨xb, hxb⟩ : ∃ xb, wr.heap.size = xb := ⟨_, rfl⟩;rw [hxb] at HXR hsm ⊢;have q0 : w5.cell? ⟨xb, 0, none⟩ = some (.bool px.1) := HXR.out.cell 0;have q1 : w5.cell? ⟨xb, 1, none⟩ = some (.slice px.2.1 px.2.2.1 px.2.2.2) := HXR.out.cell 1;have c2 : w5.cell? ⟨m, 2, none⟩ = some (.slice (some ⟨b, 0, none⟩) k N) := by have := HIa.out.box.cell 2; rw [hcl] at this; exact this
       clear cx0 cx1 hrow0;obtain ⟨i0, hi0, hz0, hsz0, hby0⟩ := info_parts info_Int;have hrl : (cu ++ List.replicate (N - cu.length) 0).length = N := by rw [List.length_append, List.length_replicate, hcl]; omega
       go_region_law (first
        | (refine step_append_room rfl (.tmp 32) (.tmp 35) 22 rfl 44 i0 2 Tryz.underlying22 hi0 hsz0 b 0 k N rfl ⟨w6.heap.size, 0, none⟩ 1 1 [.bool pz.1, .slice pz.2.1 pz.2.2.1 pz.2.2.2] rfl rfl (two_cells w6 _ _ _) (by simp [Value.oneCell']) (by omega) (fun j hj => HI6.out.spare hcl hkN _ j hj) ?_; obtain ⟨w7, hw7⟩ : ∃ w7, (w6.alloc (.cells #[.bool pz.1, .slice pz.2.1 pz.2.2.1 pz.2.2.2] 44)).setCells b (k * 2) [.bool pz.1, .slice pz.2.1 pz.2.2.1 pz.2.2.2] = w7 := ⟨_, rfl⟩; have hI7 := HI6.out.app hbl hcl hkN HZ6.out w7 hw7; simp only [Nat.zero_add]; rw [hw7]; have g2 := hI7.1.cell 2; have gf2 := hI7.1.free 2; simp only [List.getElem?_cons_zero, List.getElem?_cons_succ] at g2; have HI7 := Lib.hid hI7; clear hI7 hw7)
        | (go_simp; go_at_call 82; refine (ILeast_c (av px) x _ (IntAt.below (w := w5) Hnx.out (Below.refl _ _).drew)).mono ?_; rintro e w6 ⟨⟨vz, rfl, hvz⟩, hb6⟩; obtain ⟨pz, rfl⟩ := NumAt.parts hvz.num; have HZ6 := Lib.hid hvz.num; unfold av at *; have hI6 : MatI w b m n c N cu w6 := ⟨RowAt.below (w := w5.drew) HIa.out.box hb6 HIa.out.box.lt, RowN.below (w := w5.drew) HIa.out.row hb6, RowAt.below (w := w5.drew) HIa.out.res hb6 HIa.out.res.lt, HIa.out.bel.drew.trans (hb6.mono HIa.out.bel.size)⟩; have HI6 := Lib.hid hI6; clear hI6; have k2 := HI6.out.box.cell 2; rw [hcl] at k2; have k3 := (HI6.out.box.alloc (.cells #[.bool pz.1, .slice pz.2.1 pz.2.2.1 pz.2.2.2] 44)).cell 2; rw [hcl] at k3; simp only [List.getElem?_cons_zero, List.getElem?_cons_succ] at k2 k3; clear hb6 hvz))
       all_goals go_wp2
       all_goals refine ⟨⟨j + 1, by omega, by go_num, Lib.hid ?_⟩, ?_⟩
       all_goals first
        | (rw [HCU.out]; exact HI7.out.2)
        | (simp [intOf]; omega)
     · obtain rfl : j = c := by omega
       go_wp2;go_roundw
       case rel =>
        refine ⟨i + 1, by omega, by go_num, Lib.hid ?_⟩;rw [flatten_take_succ hix];have h9 := hIq.out;rw [List.take_of_length_le (l := xss[i]) (by rw [HXL.out]; exact Nat.le_refl _)] at h9;exact h9
       case measure => simp [intOf]; omega
  · obtain rfl : i = n := by omega
    have hce : (xss.take i).flatten = xss.flatten := by rw [List.take_of_length_le (by omega)]
    have HCE := Lib.hid hce; clear hce;have hcl : (xss.take i).flatten.length = N := by rw [HCE.out, flatten_len HC.out, hn]; exact HN.out
    have c0 := hIr.out.box.cell 0;have c1 := hIr.out.box.cell 1;have c2 := hIr.out.box.cell 2;have d0 := hIr.out.res.cell 0;have d1 := hIr.out.res.cell 1;have d2 := hIr.out.res.cell 2;have f0 := hIr.out.res.free 0;have f1 := hIr.out.res.free 1;have f2 := hIr.out.res.free 2;rw [hcl] at c2;simp only [List.getElem?_cons_zero, List.getElem?_cons_succ] at c0 c1 c2 d0 d1 d2;clear hcl;go_wp2;have hrm := hIr.out.row;rw [HCE.out, flatten_len HC.out, hn, HN.out, Nat.sub_self] at hrm;simp only [List.replicate_zero, List.append_nil] at hrm;refine bodyPost_ret (results_mat (p := 4) (by kernel_rfl) _ _ w.heap.size _ _ _ rfl (hIr.out.res.set3 (.int .i64 (i : Int)) (.int .i64 (c : Int)) (.slice (some ⟨b, 0, none⟩) N N))) rfl ?_;exact ⟨⟨b, rfl, by omega, hrm.setMat hIr.out.res (i : Int) (c : Int) _ _ _⟩, ((hIr.out.bel.setCell (p := ⟨w.heap.size, 0, none⟩) (Nat.le_refl _) _).setCell (p := ⟨w.heap.size, 1, none⟩) (Nat.le_refl _) _).setCell (p := ⟨w.heap.size, 2, none⟩) (Nat.le_refl _) _⟩
theorem results_mat_err {fn : Func} {p q : Tmp} (h : fn.results = #[.cell p 28, .tmp q]) (tmps : Array Value) (w : World) (g : Nat) (a b c : Value) (hp : tmps.getD p undef = .pointer (some ⟨g, 0, none⟩)) (hr : RowAt w g 28 [a, b, c]) :
 (results fn tmps).run Tryz.prog w = .ok (.tuple #[.agg #[a, b, c], tmps.getD q undef]) w := results_mat_tmp h tmps w g a b c hp hr
theorem RowN.lsAt {w : World} {b : Nat} {xs : List Int} (h : RowN w b xs) {L : Nat} (hL : ∀ x ∈ xs, wlen x.natAbs <= L) : LsAt w L (some ⟨b, 0, none⟩) xs := by
 intro _;refine ⟨b, 0, rfl, h.lt, fun i hi => ?_⟩;obtain ⟨p, h0, h1, hn⟩ := h.get hi;exact ⟨p, by simpa using h0, by simpa using h1, hn.int (hL _ (List.getElem_mem hi))⟩
theorem MatN.rowsAt {w : World} {o : Nat} {R : List Hd} (h : MatN w o R) {L : Nat} (hL : ∀ r ∈ R, ∀ x ∈ r.xs, wlen x.natAbs <= L) (k : Nat) (hk : k <= R.length) : RowsAt w L o ((R.take k).map Hd.xs) := by
 refine ⟨h.lt, fun i hi => ?_⟩;have hi' : i < R.length := by simp at hi; omega
 have hm : R[i] ∈ R := List.getElem_mem hi';refine ⟨some ⟨R[i].blk, 0, none⟩, R[i].cap, ?_, ?_⟩
 · rw [h.hdr hi'];simp [Hd.hdr]
 · have := (h.row _ hm).lsAt (hL _ hm);simpa using this
theorem ent_words {R : List Hd} {D : Nat} (h : ∀ i b, (ent R i b).natAbs < W ^ D) : ∀ r ∈ R, ∀ x ∈ r.xs, wlen x.natAbs <= D := by
 intro r hr x hx;obtain ⟨i, hi, rfl⟩ := List.getElem_of_mem hr;obtain ⟨j, hj, rfl⟩ := List.getElem_of_mem hx;have := h i j;rw [ent_get hi, gd_lt _ _ hj] at this;exact wlen_le_of_lt this
abbrev hW (m : Nat) : Nat := hermW 66 m
set_option maxRecDepth 100000 in
set_option maxHeartbeats 4000000 in
theorem Form_c (r c m : Nat) (ao : Option Addr) (len cap : Nat) (xs : List Int) (w : World) (hr : r <= 64) (hc : c <= 64) (h : LsAt w 17592186044415 ao xs) (hm : ∀ x ∈ xs, x.natAbs < W ^ m) (hm1 : m <= 140000000) (hl : len = xs.length) (hs : xs.length = r * c) :
 Calls Tryz.prog 50 #[.agg #[.int .i64 (r : Int), .int .i64 (c : Int), .slice ao len cap]] w fun e w' => (∃ b hs k l, e = .returned (.tuple #[.agg #[.int .i64 (r : Int), .int .i64 (c : Int), .slice (some ⟨b, 0, none⟩) (r * c) (r * c)], .int .i64 0]) /\ w.heap.size <= b /\ RowN w' b hs /\ IsHnf r c xs hs k l /\ ∀ x ∈ hs, x.natAbs < W ^ hW m) /\ Below w.heap.size w w' := by
 subst hl;have hlad : ladW 66 m <= 4000000000000 := by unfold ladW hermW; omega
 have hhw : hW m <= 17592186044415 := by unfold hW hermW; omega
 have hwl : ∀ x ∈ xs, wlen x.natAbs <= 17592186044415 := fun x hx => Nat.le_trans (wlen_le_of_lt (hm x hx)) (by omega);have HXS := Lib.hid h; clear h;have HLad := Lib.hid (And.intro hlad (And.intro hhw hwl)); clear hlad hhw hwl;have HMM := Lib.hid hm; clear hm;have hsnd : soundM (r : Int) (c : Int) xs.length = true := by
  unfold soundM sideOk;rw [hs]; simp; omega
 have HS := Lib.hid hs; clear hs;have HCK := Lib.hid (chkM_ok hsnd); clear hsnd;go_enter Tryz.func50, Tryz.ntmps50;go_wp2_with fail
 obtain ⟨r1, r2, hb⟩ := two_new w #[.int .i64 (r : Int), .int .i64 (c : Int), .slice ao xs.length cap] #[.int .i64 0, .int .i64 0, .slice none 0 0] 28 28;generalize (w.alloc (.cells #[.int .i64 (r : Int), .int .i64 (c : Int), .slice ao xs.length cap] 28)).alloc (.cells #[.int .i64 0, .int .i64 0, .slice none 0 0] 28) = w2 at *;refine (Check_c (r : Int) (c : Int) ao xs.length cap _ (by omega) (by omega)).mono ?_;rintro e w3 ⟨rfl, hb3⟩;rw [HCK.out];have R1 := Lib.hid (r1.below hb3 r1.lt);have R2 := Lib.hid (r2.below hb3 r2.lt);have L3 := Lib.hid ((HXS.out.below hb).below hb3);have B3 := Lib.hid (hb.trans (hb3.mono hb.size));have hs2 : w.heap.size + 1 < w3.heap.size := R2.out.lt;have e0 : w3.cell? ⟨w.heap.size, 0, none⟩ = some (.int .i64 (r : Int)) := R1.out.cell 0;have e1 : w3.cell? ⟨w.heap.size, 1, none⟩ = some (.int .i64 (c : Int)) := R1.out.cell 1;have e2 : w3.cell? ⟨w.heap.size, 2, none⟩ = some (.slice ao xs.length cap) := R1.out.cell 2;clear r1 r2 hb hb3;go_wp2_with fail
 refine (callsIn_wide.1 (lines_c r c ao xs.length cap xs w3 hr hc L3.out HLad.out.2.2 rfl HS.out)).mono ?_;rintro e w4 ⟨⟨o, R, rfl, hM, hRl, hRx, hob, hRb⟩, hb4⟩;obtain ⟨hSh, hE⟩ := ent_rows hRl HS.out hRx;obtain ⟨k, R', hRed, hOk⟩ := reduce_ok (N := 66) (B := 4000000000000) (m := m) hSh (fun i b => by rw [hE]; exact matE_bound (pw_pos m) HMM.out i b) (by omega) (by omega) HLad.out.1;have hlR' : R'.length = r := hOk.len.trans hRl;obtain ⟨l, hH, hHb⟩ := hnf_of hRl hE hOk;have hred := reduced_c o r 4000000000000 c k R R' w4 hM (Nat.le_refl _) hRed (by omega) (by omega);rw [hRl] at hred;have HRed := Lib.hid hred; clear hred;have HOk := Lib.hid hOk; clear hOk;have HH := Lib.hid (And.intro hH hHb); clear hH hHb;have R14 := Lib.hid (R1.out.below hb4 R1.out.lt);have R24 := Lib.hid (R2.out.below hb4 R2.out.lt);have B4 := Lib.hid (B3.out.trans (hb4.mono B3.out.size));have HRb := Lib.hid (And.intro hob hRb);clear hRed hM hb4 e0 e1 e2 hSh hE hRx hob hRb R1 R2 L3 B3;rw [hRl];go_wp2_with fail
 refine HRed.out.mono ?_;rintro e w5 ⟨rfl, hM5, hC5⟩;rw [hlR'];have hown : ∀ q, (q = o ∨ ∃ x ∈ R, x.blk = q) -> w3.heap.size <= q := by
  rintro q (rfl | ⟨x, hx, rfl⟩)
  · exact HRb.out.1
  · exact HRb.out.2 x hx
 have hns : ∀ q, q < w3.heap.size -> ¬ (q = o ∨ ∃ x ∈ R, x.blk = q) := fun q hq h => by have := hown q h; omega
 have R15 := Lib.hid (hC5.row R14.out (hns _ (by omega)));have R25 := Lib.hid (hC5.row R24.out (hns _ hs2));have B5 : Hid (Below w.heap.size w w5) := Lib.hid (B4.out.trans (hC5.to_below (B := w.heap.size) (fun q hq => by have := hown q hq; omega) B4.out.size));have hrows := hM5.rowsAt (L := 17592186044415) (fun x hx y hy => Nat.le_trans (ent_words HOk.out.bd x hx y hy) HLad.out.2.1) r (by omega);rw [List.take_of_length_le (by omega)] at hrows;have HRows := Lib.hid hrows; clear hrows;have c1 : w5.cell? ⟨w.heap.size, 1, none⟩ = some (.int .i64 (c : Int)) := R15.out.cell 1;have hsh5 : ∀ x ∈ R'.map Hd.xs, x.length = c := fun x hx => by
  obtain ⟨q, hq, rfl⟩ := List.mem_map.1 hx; exact HOk.out.sh q hq
 clear hM5 hC5 R14 R24 B4 HRed hown hns;go_wp2_with fail
 refine (matrix_c o r r c (R'.map Hd.xs) w5 HRows.out (by rw [List.length_map, hlR']) hsh5 (by omega) (by omega)).mono ?_;rintro e w6 ⟨⟨b, rfl, hbb, hRb6⟩, hb6⟩;have R26 := Lib.hid (R25.out.below hb6 R25.out.lt);have B6 := Lib.hid (B5.out.trans (hb6.mono B5.out.size));have HR6 := Lib.hid hRb6;have hs5 : w.heap.size <= w5.heap.size := B5.out.size;clear hRb6 hb6 c1;have z0 := R26.out.cell 0;have z1 := R26.out.cell 1;have z2 := R26.out.cell 2;have y0 := R26.out.free 0;have y1 := R26.out.free 1;have y2 := R26.out.free 2;go_wp2;refine bodyPost_ret (results_mat_err (p := 2) (q := 3) (by kernel_rfl) _ _ (w.heap.size + 1) _ _ _ rfl (R26.out.set3 (.int .i64 (r : Int)) (.int .i64 (c : Int)) (.slice (some ⟨b, 0, none⟩) (r * c) (r * c)))) rfl ?_;exact ⟨⟨b, _, k, l, rfl, by omega, HR6.out.setMat R26.out (r : Int) (c : Int) _ _ _, HH.out.1, HH.out.2⟩, ((B6.out.setCell (p := ⟨w.heap.size + 1, 0, none⟩) (Nat.le_succ _) _).setCell (p := ⟨w.heap.size + 1, 1, none⟩) (Nat.le_succ _) _).setCell (p := ⟨w.heap.size + 1, 2, none⟩) (Nat.le_succ _) _⟩
end Go.Proofs.YtajmkebkgmbfnaaGreat
namespace Go.Proofs.YtajmkebkgmbfnaaGreat
end Go.Proofs.YtajmkebkgmbfnaaGreat
namespace Go.Proofs.YtajmkebkgmbfnaaGreat
open Go.RowKit
def diagN (c k : Nat) (xs : List Int) : List Nat := (diagL c k xs).map Int.natAbs
set_option maxRecDepth 100000 in
set_option maxHeartbeats 2000000 in
theorem SForm_c (r c m : Nat) (ao : Option Addr) (cap : Nat) (xs : List Int) (w : World) (hr : r <= 64) (hc : c <= 64) (h : LsAt w 17592186044415 ao xs) (hm : ∀ x ∈ xs, x.natAbs < W ^ m) (hm1 : m <= 1048576) (hs : xs.length = r * c) (hd : ∀ hs k l, IsHnf r c xs hs k l -> IsDg r c hs) :
 Calls Tryz.prog 14 #[.agg #[.int .i64 (r : Int), .int .i64 (c : Int), .slice ao xs.length cap]] w fun e w' => (∃ p : List Int × Option Addr × Nat, e = .returned (.tuple #[.agg #[.int .i64 (r : Int), .int .i64 (c : Int), .slice p.2.1 (r * c) p.2.2], .int .i64 0]) /\ LsN w' p.2.1 (tabK c (diagF (nt (chProg (diagN c (min r c) p.1)))) (r * c)) /\ (∃ k l, IsHnf r c xs p.1 k l) /\ ∀ b o, p.2.1 = some ⟨b, o, none⟩ -> w.heap.size <= b) /\ Below w.heap.size w w' := by
 have HF0 : Hid (∀ w', LsAt w' 17592186044415 ao xs -> Calls Tryz.prog 50 #[.agg #[.int .i64 (r : Int), .int .i64 (c : Int), .slice ao xs.length cap]] w' fun e w'' => (∃ p : Nat × List Int, e = .returned (.tuple #[.agg #[.int .i64 (r : Int), .int .i64 (c : Int), .slice (some ⟨p.1, 0, none⟩) (r * c) (r * c)], .int .i64 0]) /\ LsN w'' (some ⟨p.1, 0, none⟩) p.2 /\ ((∃ k l, IsHnf r c xs p.2 k l) /\ p.2.length = r * c /\ ∀ x ∈ p.2, x.natAbs < W ^ hW m) /\ ∀ b o, some (⟨p.1, 0, none⟩ : Addr) = some ⟨b, o, none⟩ -> w'.heap.size <= b) /\ Below w'.heap.size w' w'') :=
  Lib.hid fun w' h' => (Form_c r c m ao xs.length cap xs w' hr hc h' hm (by omega) rfl hs).mono fun e w'' ⟨⟨b, hs', k, l, he, hb, hR, hH, hB⟩, hbl⟩ => ⟨⟨(b, hs'), he, hR.lsN, ⟨⟨k, l, hH⟩, hH.len, hB⟩, fun b' o e => by cases e; exact hb⟩, hbl⟩
 have hhw : hW m * 64 + 1 <= 8796093022207 := by unfold hW hermW; omega
 obtain ⟨M, hM⟩ : ∃ M, hW m = M := ⟨_, rfl⟩;rw [hM] at HF0 hhw;have HD : Hid (∀ hs k l, IsHnf r c xs hs k l -> IsDg r c hs) := Lib.hid hd;have hrc : r * c <= 4096 := Nat.mul_le_mul hr hc;clear hs hd hm hM;refine funW (S0 := fun _ => False) Tryz.func14 ((Fr.nil _ w).l h (by simp)) ?_;refine goW ?_;refine rW [] ?_;refine aW fun g1 => ?_;refine aW fun g2 => ?_;refine dW ?_;refine eW ?_;refine goW ?_;refine rW [] ?_;refine dW ?_;refine cLn (α := Nat × List Int) (mk := fun p => .tuple #[.agg #[.int .i64 (r : Int), .int .i64 (c : Int), .slice (some ⟨p.1, 0, none⟩) (r * c) (r * c)], .int .i64 0]) (ao := fun p => some ⟨p.1, 0, none⟩) (xs := fun p => p.2) (A := fun p => (∃ k l, IsHnf r c xs p.2 k l) /\ p.2.length = r * c /\ ∀ x ∈ p.2, x.natAbs < W ^ M) (fun w' H => HF0.out w' H.m2) fun p => ?_;obtain ⟨b, hs⟩ := p;refine dW ?_;refine dW ?_;refine dW ?_;refine aW fun g4 => ?_;refine sG ?_;refine dW ?_;refine eW ?_;refine prW (A := ((∃ k l, IsHnf r c xs hs k l) /\ hs.length = r * c /\ ∀ x ∈ hs, x.natAbs < W ^ M) /\ ∀ b' o, some (⟨b, 0, none⟩ : Addr) = some ⟨b', o, none⟩ -> w.heap.size <= b') (by simp) fun hA => ?_;obtain ⟨⟨hH, hl, hB⟩, _⟩ := hA;have hdg : IsDg r c hs := by obtain ⟨k, l, h⟩ := hH; exact HD.out _ _ _ h
 have HH : Hid ((∃ k l, IsHnf r c xs hs k l) /\ IsDg r c hs /\ hs.length = r * c /\ ∀ x ∈ hs, x.natAbs < W ^ M) := Lib.hid ⟨hH, hdg, hl, hB⟩;have hwl : ∀ x ∈ hs, wlen x.natAbs <= 17592186044415 := fun x hx => Nat.le_trans (wlen_le_of_lt (hB x hx)) (by omega);have HWL : Hid (∀ x ∈ hs, wlen x.natAbs <= 17592186044415) := Lib.hid hwl;clear hH hl hB hdg hwl;refine goW ?_;refine rW [] ?_;refine dW ?_;refine dW ?_;refine eW ?_;refine goW ?_;refine cfW ?_;refine goW ?_;refine rW [] ?_;refine dW ?_;refine eW ?_;refine goW ?_;refine loopW (X := Unit) (fun _ => True) (fun _ => 0) (fun _ => [(6, .bool false), (4, .pointer (some ⟨g4, 0, none⟩)), (2, .pointer (some ⟨g2, 0, none⟩)), (1, .pointer (some ⟨g1, 0, none⟩))])
  (fun _ => [.row g4 28 [.int .i64 (r : Int), .int .i64 (c : Int), .slice (some ⟨b, 0, none⟩) (r * c) (r * c)], .row g2 28 [.int .i64 0, .int .i64 0, .slice none 0 0], .row g1 28 [.int .i64 (r : Int), .int .i64 (c : Int), .slice ao xs.length cap], .lsn (some ⟨b, 0, none⟩) hs]) () trivial fun _ _ => ?_
 refine goW ?_;refine rW [] ?_;refine dW ?_;refine cV (v := .bool true) (fun w' H => by
  have h1 : LsN w' (some ⟨b, 0, none⟩) hs := H.m3;have := SDiag_c r c (some ⟨b, 0, none⟩) (r * c) 17592186044415 hs w' hr hc (h1.lsAt HWL.out) (by omega) HH.out.2.2.1 HH.out.2.1;rw [HH.out.2.2.1] at this; exact this) ?_
 refine dW ?_;refine eW ?_;refine goW ?_;refine cfW ?_;refine goW ?_;have hkr : min r c <= 64 := Nat.le_trans (Nat.min_le_left ..) hr;have HDN : Hid (∀ w', LsN w' (some ⟨b, 0, none⟩) hs -> Calls Tryz.prog 54 #[.agg #[.int .i64 (r : Int), .int .i64 (c : Int), .slice (some ⟨b, 0, none⟩) (r * c) (r * c)]] w' fun e w'' => (∃ q : Nat, e = .returned (.slice (some ⟨q, 0, none⟩) (min r c) (min r c)) /\ LsN w'' (some ⟨q, 0, none⟩) (diagL c (min r c) hs) /\ True /\ ∀ b o, some (⟨q, 0, none⟩ : Addr) = some ⟨b, o, none⟩ -> w'.heap.size <= b) /\ Below w'.heap.size w' w'') := Lib.hid fun w' h1 => by
  have := SList_c r c (some ⟨b, 0, none⟩) (r * c) 17592186044415 hs w' hr hc (h1.lsAt HWL.out) (by omega) HH.out.2.2.1;rw [HH.out.2.2.1] at this;exact this.mono fun e w'' ⟨⟨q, he, hq, hR⟩, hb⟩ => ⟨⟨q, he, hR.lsN, trivial, fun b' o e => by cases e; exact hq⟩, hb⟩
 have hdl : ∀ x ∈ diagL c (min r c) hs, x.natAbs < W ^ M := fun x hx => by
  unfold diagL at hx;obtain ⟨i, hi, rfl⟩ := List.mem_map.1 hx;have hi := List.mem_range.1 hi;refine HH.out.2.2.2 _ (gi_mem ?_);rw [HH.out.2.2.1];exact idxL (by have := Nat.min_le_left r c; omega) (by have := Nat.min_le_right r c; omega)
 have hP : wlen (prodNZ (diagN c (min r c) hs)) <= 8796093022207 := by
  have h1 := prodNZ_lt M (diagN c (min r c) hs) (fun x hx => by
   unfold diagN at hx;obtain ⟨y, hy, rfl⟩ := List.mem_map.1 hx;exact hdl y hy)
  have h2 : (diagN c (min r c) hs).length = min r c := by rw [diagN, List.length_map, diagL_length]
  rw [h2] at h1;have h3 : M * min r c <= M * 64 := Nat.mul_le_mul_left _ hkr;have h4 := wlen_le_of_lt (Nat.lt_of_le_of_lt h1 (Nat.pow_lt_pow_right (by decide : 1 < W) (Nat.lt_succ_self (M * min r c))));omega
 have hcl : (chProg (diagN c (min r c) hs)).length = min r c := by rw [chProg_ref, chRef_length, diagN, List.length_map, diagL_length]
 have HCH : Hid (∀ w' q, LsN w' (some ⟨q, 0, none⟩) (diagL c (min r c) hs) -> Calls Tryz.prog 11 #[.slice (some ⟨q, 0, none⟩) (min r c) (min r c)] w' fun e w'' => (∃ q2 : Nat, e = .returned (.slice (some ⟨q2, 0, none⟩) (min r c) (min r c)) /\ LsN w'' (some ⟨q2, 0, none⟩) (nt (chProg (diagN c (min r c) hs))) /\ True /\ ∀ b o, some (⟨q2, 0, none⟩ : Addr) = some ⟨b, o, none⟩ -> w'.heap.size <= b) /\ Below w'.heap.size w' w'') := Lib.hid fun w' q h1 => by
  have := SChain_c (some ⟨q, 0, none⟩) (min r c) 17592186044415 (diagL c (min r c) hs) w' (h1.lsAt fun x hx => Nat.le_trans (wlen_le_of_lt (hdl x hx)) (by omega)) (Nat.le_refl _) (by rw [diagL_length]; omega) hP;rw [diagL_length] at this;exact this.mono fun e w'' ⟨⟨q2, he, hq, hR⟩, hb⟩ => ⟨⟨q2, he, hR.lsN, trivial, fun b' o e => by cases e; exact hq⟩, hb⟩
 have hnl : ∀ x ∈ nt (chProg (diagN c (min r c) hs)), wlen x.natAbs <= 17592186044415 := fun x hx => by
  unfold nt at hx;obtain ⟨y, hy, rfl⟩ := List.mem_map.1 hx;have := chProg_dv (P := prodNZ (diagN c (min r c) hs)) (fun z hz => Dv.of_mem hz) y hy;exact Nat.le_trans (wlen_mono (this.le (prodNZ_pos _))) (Nat.le_trans hP (by omega))
 have HDG : Hid (∀ w' q, LsN w' (some ⟨q, 0, none⟩) (nt (chProg (diagN c (min r c) hs))) -> Calls Tryz.prog 53 #[.int .i64 (r : Int), .int .i64 (c : Int), .slice (some ⟨q, 0, none⟩) (min r c) (min r c)] w' fun e w'' => (∃ p : Option Addr × Nat, e = .returned (.tuple #[.agg #[.int .i64 (r : Int), .int .i64 (c : Int), .slice p.1 (r * c) p.2], .int .i64 0]) /\ LsN w'' p.1 (tabK c (diagF (nt (chProg (diagN c (min r c) hs)))) (r * c)) /\ True /\ ∀ b o, p.1 = some ⟨b, o, none⟩ -> w'.heap.size <= b) /\ Below w'.heap.size w' w'') := Lib.hid fun w' q h1 => by
  have := MDiag_c r c (some ⟨q, 0, none⟩) (min r c) 17592186044415 (nt (chProg (diagN c (min r c) hs))) w' hr hc (by rw [nt_length, hcl]; exact Nat.le_refl _) (h1.lsAt hnl) (Nat.le_refl _);rw [nt_length, hcl] at this;exact this
 clear hcl hnl hP hdl hkr;obtain ⟨k, hk⟩ : ∃ k, min r c = k := ⟨_, rfl⟩;rw [hk] at HDN HCH HDG ⊢;clear hk;refine rW [] ?_;refine dW ?_;refine dW ?_;refine dW ?_;refine dW ?_;refine dW ?_;refine cLn (α := Nat) (mk := fun q => .slice (some ⟨q, 0, none⟩) k k) (ao := fun q => some ⟨q, 0, none⟩) (xs := fun _ => diagL c k hs) (A := fun _ => True) (fun w' H => HDN.out w' H.m3) fun q1 => ?_;refine cLn (α := Nat) (mk := fun q => .slice (some ⟨q, 0, none⟩) k k) (ao := fun q => some ⟨q, 0, none⟩) (xs := fun _ => nt (chProg (diagN c k hs))) (A := fun _ => True) (fun w' H => HCH.out w' q1 H.m0) fun q2 => ?_;refine cLn (α := Option Addr × Nat) (mk := fun p => .tuple #[.agg #[.int .i64 (r : Int), .int .i64 (c : Int), .slice p.1 (r * c) p.2], .int .i64 0]) (ao := fun p => p.1) (xs := fun _ => tabK c (diagF (nt (chProg (diagN c k hs)))) (r * c)) (A := fun _ => True) (fun w' H => HDG.out w' q2 H.m0) fun q3 => ?_;refine dW ?_;refine dW ?_;refine sW ?_;refine dW ?_;refine eW ?_;refine goW ?_;refine fin2 fun w' H => ?_;exact ⟨_, _, rvM H.m7, rvT, ⟨(hs, q3), rfl, H.m0, HH.out.1, (show True /\ ∀ b o, q3.1 = some ⟨b, o, none⟩ -> w.heap.size <= b from H.m1).2⟩, H.below⟩
attribute [local go_sem] wv
theorem gw_take_ (R : List Nat) (k j : Nat) (h : j < k) : gw (R.take k) j = gw R j := by rw [gw_take, if_pos h]
theorem gw_ge (R : List Nat) (j : Nat) (h : R.length <= j) : gw R j = 0 := by simp [gw, List.getElem?_eq_none h]
theorem bval_sep {R : List Nat} (hR : BOk R) (s n : Nat) (hs : s <= R.length) : HB ^ s * n <= bval R ↔ n <= bval (R.drop s) := by
 have h1 := bval_split R s hs;have h2 := bval_lt (hR.take s);rw [List.length_take, Nat.min_eq_left hs] at h2;constructor
 · intro h;refine Nat.le_of_lt_succ (Nat.lt_of_mul_lt_mul_left (a := HB ^ s) ?_);rw [Nat.mul_succ]; omega
 · intro h;have := Nat.mul_le_mul_left (HB ^ s) h;omega
theorem goes_top {R bs : List Nat} {s : Nat} (hR : BOk R) (hb : BOk bs) (hs : s + bs.length <= R.length) (h : 0 < gw R (s + bs.length)) : HB ^ s * bval bs <= bval R := by
 rw [bval_sep hR s _ (by omega)];have h1 := bval_split (R.drop s) bs.length (by simp; omega);have h2 := bval_lt hb;have h3 : gw (R.drop s) bs.length <= bval ((R.drop s).drop bs.length) := by
  rw [gw_drop];have e : (R.drop s).drop bs.length = R.drop (s + bs.length) := by rw [List.drop_drop]
  rw [e];cases hd : R.drop (s + bs.length) with
  | nil => rw [show gw R (s + bs.length) = gw (R.drop (s + bs.length)) 0 by rw [gw_drop]; rfl, hd]; simp [gw]
  | cons a l => rw [show gw R (s + bs.length) = gw (R.drop (s + bs.length)) 0 by rw [gw_drop]; rfl, hd]; simp [gw, bval]
 rw [gw_drop] at h3;have : HB ^ bs.length * 1 <= HB ^ bs.length * bval ((R.drop s).drop bs.length) := Nat.mul_le_mul_left _ (by omega);omega
theorem goes_low {R bs : List Nat} {s : Nat} (hR : BOk R) (hs : s + bs.length <= R.length) (hlt : bval R < HB ^ (s + bs.length + 1)) (h : gw R (s + bs.length) = 0) : bval (R.drop s) = bval ((R.drop s).take bs.length) := by
 have h1 := bval_split (R.drop s) bs.length (by simp; omega);have h2 := bval_split R (s + bs.length) hs;rw [List.drop_drop] at h1;have h3 : bval (R.drop (s + bs.length)) = 0 := by
  have h4 : bval (R.drop (s + bs.length)) < HB := by
   refine Nat.lt_of_mul_lt_mul_left (a := HB ^ (s + bs.length)) ?_;rw [Nat.pow_succ] at hlt; omega
  have h5 : gw (R.drop (s + bs.length)) 0 = 0 := by rw [gw_drop]; exact h
  cases hd : R.drop (s + bs.length) with
  | nil => rfl
  | cons a l =>
   rw [hd] at h4 h5;simp [gw] at h5;subst h5;simp only [bval] at h4 ⊢;have : bval l = 0 := by
    rcases Nat.eq_zero_or_pos (bval l) with h0 | h0
    · exact h0
    · have := Nat.mul_le_mul_left HB h0; omega
   rw [this]; rfl
 rw [h3] at h1; omega
theorem goes_ne {R bs : List Nat} {s i : Nat} (hR : BOk R) (hb : BOk bs) (hs : s + bs.length <= R.length) (hlt : bval R < HB ^ (s + bs.length + 1)) (h : gw R (s + bs.length) = 0) (hi : i < bs.length) (hj : ∀ j, i < j -> j < bs.length -> gw R (s + j) = gw bs j) (hne : gw R (s + i) ≠ gw bs i) : decide (gw bs i < gw R (s + i)) = decide (HB ^ s * bval bs <= bval R) := by
 have hl : ((R.drop s).take bs.length).length = bs.length := by simp; omega
 have hg : ∀ j, i < j -> gw ((R.drop s).take bs.length) j = gw bs j := fun j hij => by
  by_cases h1 : j < bs.length
  · rw [gw_take_ _ _ _ h1, gw_drop]; exact hj j hij h1
  · rw [gw_ge _ _ (by omega), gw_ge _ _ (by omega)]
 rw [decide_eq_decide, bval_sep hR s _ (by omega), goes_low hR hs hlt h];have e : gw ((R.drop s).take bs.length) i = gw R (s + i) := by rw [gw_take_ _ _ _ hi, gw_drop]
 constructor
 · intro h1;exact Nat.le_of_lt (bval_lt_of hb hl.symm i hi (fun j hij => (hg j hij).symm) (by rw [e]; exact h1))
 · intro h1;rcases Nat.lt_or_ge (gw bs i) (gw R (s + i)) with h2 | h2
   · exact h2
   · have := bval_lt_of ((hR.drop s).take bs.length) hl i (by rw [hl]; exact hi) hg (by rw [e]; omega);omega
theorem goes_eq {R bs : List Nat} {s : Nat} (hR : BOk R) (hs : s + bs.length <= R.length) (hlt : bval R < HB ^ (s + bs.length + 1)) (h : gw R (s + bs.length) = 0) (hj : ∀ j, j < bs.length -> gw R (s + j) = gw bs j) : HB ^ s * bval bs <= bval R := by
 rw [bval_sep hR s _ (by omega), goes_low hR hs hlt h];refine Nat.le_of_eq (bval_eq_of (by simp; omega) fun j => ?_);by_cases h1 : j < bs.length
 · rw [gw_take_ _ _ _ h1, gw_drop, hj j h1]
 · rw [gw_ge _ _ (by omega), gw_ge _ _ (by simp; omega)]
theorem predI (a : Nat) (h : a < 9223372036854775807) : Value.int .i64 (IntKind.i64.wrap ((a : Int) - 1)) = .int .i64 ((a : Int) - 1) := by
 rw [IntWalk.i64_in _ (by omega)]
set_option maxRecDepth 100000 in
set_option maxHeartbeats 4000000 in
theorem TGoes_c (ro : Option Addr) (N cr : Nat) (R : List Nat) (bo : Option Addr) (lb cb s : Nat) (bs : List Nat) (w : World) (hR : WAt w ro R) (hA : WAt w bo bs) (hok : BOk R) (hokb : BOk bs) (hN : N = R.length) (hlb : lb = bs.length) (hs : s + lb <= N) (hm : N <= 35184372088832) (hlt : bval R < HB ^ (s + lb + 1)) :
 Calls Tryz.prog 188 #[.slice ro N cr, .slice bo lb cb, .int .i64 (s : Int)] w fun e w' => e = .returned (.bool (decide (HB ^ s * bval bs <= bval R))) /\ Below w.heap.size w w' := by
 subst hlb hN;have hro := hR.ao;have hao := hA.ao;refine funW (S0 := fun _ => False) Tryz.func188 (es := [.wat ro R, .wat bo bs]) (((Fr.nil _ w).w (hx := hA)).w (hx := hR) (hn := by simp [En.wr, En.wat])) ?_;refine goW ?_;refine rW [] ?_;refine dW ?_;refine eW ?_;refine goW ?_;refine rW [] ?_;refine dW ?_;refine dW ?_;refine dW ?_;obtain ⟨K, hK⟩ : ∃ K, s + bs.length = K := ⟨_, rfl⟩;refine dE ((sumI (a := s) (b := bs.length) (by omega)).trans (by rw [hK])) ?_;refine dW ?_;refine eW ?_;refine nextW (seqW (joinW (X := Unit) (fun _ => gw R K = 0) (fun _ => [(2, .int .i64 (s : Int)), (1, .slice bo bs.length cb), (0, .slice ro R.length cr)]) (fun _ => [.wat ro R, .wat bo bs]) ?_ fun _ hz => ?_))
 · by_cases hk : K < R.length
   · obtain ⟨b, o, rfl⟩ := hro (by omega);obtain ⟨D, hD⟩ : ∃ D, gw R K = D := ⟨_, rfl⟩;have hk' : (K : Int) < (R.length : Int) := by omega
     refine goW ?_;refine wordW K mm0 hk ?_;rw [hD];refine rW [] ?_;refine dW ?_;refine dW ?_;refine dW ?_;refine dB true ?_;refine dW ?_;refine dG ?_;refine dG ?_;refine dG ?_;refine dG ?_;refine dG ?_;refine dW ?_;refine eW ?_;refine goW ?_;refine condW (fun h => ?_) (fun h => ?_)
     · have h : 0 < D := by have h := of_decide_eq_true h; omega
       refine goW ?_;refine rW [] ?_;refine dW ?_;refine eW ?_;refine goW ?_;refine fin1 (fun w' H => ?_);have e : decide (HB ^ s * bval bs <= bval R) = true := decide_eq_true (goes_top hok hokb hs (by rw [hK, hD]; exact h));rw [e];exact ⟨_, rvT, rfl, H.below⟩
     · have h : D = 0 := by have h := of_decide_eq_false h; omega
       refine skipW ?_;exact joinE () h
   · have hk' : (R.length : Int) <= (K : Int) := by omega
     refine goW ?_;refine rW [] ?_;refine dW ?_;refine dW ?_;refine dW ?_;refine dB false ?_;refine dW ?_;refine uG ?_;refine uG ?_;refine uG ?_;refine uG ?_;refine uG ?_;refine dW ?_;refine eW ?_;refine goW ?_;refine cfW ?_;refine skipW ?_;exact joinE () (gw_ge _ _ (by omega))
 · refine goW ?_;refine rW [] ?_;refine dW ?_;refine dW ?_;refine dE (predI bs.length (by omega)) ?_;refine dW ?_;refine eW ?_;refine goW ?_;refine loopW (X := Nat) (fun k => k <= bs.length /\ ∀ j, k <= j -> j < bs.length -> gw R (s + j) = gw bs j) (fun k => k)
    (fun k => [(8, .int .i64 ((k : Int) - 1)), (2, .int .i64 (s : Int)), (1, .slice bo bs.length cb), (0, .slice ro R.length cr)]) (fun _ => [.wat ro R, .wat bo bs]) bs.length ⟨Nat.le_refl _, fun j h1 h2 => by omega⟩ fun k hx => ?_
   obtain ⟨hk, hj⟩ := hx;rcases k with _ | m
   · refine goW ?_;refine rW [] ?_;refine dW ?_;refine dB false ?_;refine eW ?_;refine goW ?_;refine cfW ?_;refine goW ?_;refine rW [] ?_;refine dW ?_;refine eW ?_;refine goW ?_;refine fin1 (fun w' H => ?_);have e : decide (HB ^ s * bval bs <= bval R) = true := decide_eq_true (goes_eq hok hs hlt (by rw [hK]; exact hz) (fun j h => hj j (Nat.zero_le _) h));rw [e];exact ⟨_, rvT, rfl, H.below⟩
   · have em : ((m + 1 : Nat) : Int) - 1 = (m : Int) := by omega
     rw [em];obtain ⟨b, o, rfl⟩ := hao (by omega);obtain ⟨b2, o2, rfl⟩ := hro (by omega);obtain ⟨L, hL⟩ : ∃ L, s + m = L := ⟨_, rfl⟩;have hLl : L < R.length := by omega
     have hL' : (L : Int) < (R.length : Int) := by omega
     have hm' : (m : Int) < (bs.length : Int) := by omega
     have ne := fun hne => goes_ne (i := m) hok hokb hs hlt (by rw [hK]; exact hz) (by omega) (fun j h1 h2 => hj j (by omega) h2) hne;rw [hL] at ne;obtain ⟨D, hD⟩ : ∃ D, gw R L = D := ⟨_, rfl⟩;obtain ⟨B, hB⟩ : ∃ B, gw bs m = B := ⟨_, rfl⟩;rw [hD, hB] at ne;refine goW ?_;refine rW [] ?_;refine dW ?_;refine dB true ?_;refine eW ?_;refine goW ?_;refine ctW ?_;refine goW ?_;refine wordW L mm0 hLl ?_;refine wordW m mm2 (by omega) ?_;rw [hD, hB];refine rW [] ?_;refine dW ?_;refine dW ?_;refine dW ?_;refine dE ((sumI (a := s) (b := m) (by omega)).trans (by rw [hL])) ?_;refine dW ?_;refine dW ?_;refine dW ?_;refine dW ?_;refine dW ?_;refine dW ?_;refine dW ?_;refine eW ?_;refine goW ?_;refine condW (fun h => ?_) (fun h => ?_)
     · have h : D ≠ B := by intro e; subst e; simp at h
       refine goW ?_;refine rW [] ?_;refine dW ?_;refine dW ?_;refine dW ?_;refine dE ((sumI (a := s) (b := m) (by omega)).trans (by rw [hL])) ?_;refine dW ?_;refine dW ?_;refine dW ?_;refine dW ?_;refine dW ?_;refine dW ?_;refine dW ?_;refine dW ?_;refine eW ?_;refine goW ?_;refine fin1 (fun w' H => ?_);rw [<- ne h];exact ⟨_, rvT, rfl, H.below⟩
     · have h : D = B := by
        have h : (D : Int) = B := by simpa using h
        omega
       refine goW ?_;refine rW [] ?_;refine dW ?_;refine dE (predI m (by omega)) ?_;refine dW ?_;refine eW ?_;refine backW m ⟨⟨by omega, fun j h1 h2 => ?_⟩, by omega⟩;by_cases e : j = m
       · subst e; rw [hL, hD, hB, h]
       · exact hj j (by omega) h2
set_option maxHeartbeats 1000000 in
theorem TTrim_c (ao : Option Addr) (len cap : Nat) (ws : List Nat) (w : World) (hA : WAt w ao ws) (hl : len = ws.length) (hcap : len <= cap) (hm : len <= 70368744177664) :
 Calls Tryz.prog 186 #[.slice ao len cap] w fun e w' => e = .returned (.slice ao (tlen ws) cap) /\ w = w' := by
 subst hl;have htl := tlen_le ws;have HA := Lib.hid hA; clear hA;go_enter Tryz.func186, Tryz.ntmps186;go_wp2
 go_loop [3] (fun i => ∃ k : Nat, k <= ws.length /\ tlen ws <= k /\ i = .int .i64 k) (fun i => (intOf i).toNat)
 case atStart => exact ⟨ws.length, by omega, by omega, rfl⟩
 case round =>
  obtain ⟨k, hk, ht, rfl⟩ := hrel;by_cases h0 : 0 < k
  · obtain ⟨b, o, rfl, hb, hc⟩ := HA.out.pos (by omega);have hcell := hc (k - 1) (by omega);by_cases hz : gw ws (k - 1) = 0
    · have hzb : (((gw ws (k - 1) : Nat) : Int) == 0) = true := by rw [hz]; rfl
      have Hz := Lib.hid hz; clear hz hc;go_wp2
      go_round
      case rel => exact ⟨k - 1, by omega, tlen_of_zeros ws (k - 1) (fun j hj => by
       by_cases hj' : j = k - 1
       · rw [hj']; exact Hz.out
       · exact zero_of_tlen ws j (by omega)), by go_num⟩
      case measure => simp [intOf]; omega
    · have hzb : (((gw ws (k - 1) : Nat) : Int) == 0) = false := by rw [beq_eq_false_iff_ne]; omega
      have h1 := lt_tlen ws (k - 1) hz;clear hc hz;have hke : k = tlen ws := by omega
      subst hke;go_wp2;go_ret;exact ⟨rfl, rfl⟩
  · have hke : k = tlen ws := by omega
    subst hke;go_wp2;go_ret;exact ⟨rfl, rfl⟩
structure RowQ (w : World) (b N : Nat) (D : List Nat) (W' : World) : Prop where
 row : RowAt W' b 92 ((D ++ List.replicate (N - D.length) 0).map wv)
 bel : Below w.heap.size w W'
 ge : w.heap.size <= b
theorem RowQ.put {w : World} {b N n : Nat} {D : List Nat} {W' : World} (h : RowQ w b N D W') (hn : D.length = n) (hN : n + 1 <= N) (x : Nat) : RowQ w b N (D ++ [x]) (W'.setCell ⟨b, n, none⟩ (.int .u64 (x : Int))) := by
 subst hn;refine ⟨?_, h.bel.setCell (p := ⟨b, D.length, none⟩) h.ge _, h.ge⟩;have := h.row.setWord D.length x;have e : (D ++ List.replicate (N - D.length) 0).set D.length x = (D ++ [x]) ++ List.replicate (N - (D ++ [x]).length) 0 := by
  obtain ⟨q, hq⟩ : ∃ q, N - D.length = q + 1 := ⟨N - D.length - 1, by omega⟩;have hq2 : N - (D ++ [x]).length = q := by simp; omega
  rw [hq, hq2, List.replicate_succ, List.set_append_right _ _ (by simp)];simp
 rw [e] at this; exact this
theorem RowQ.at0 {w : World} {b N n : Nat} {D : List Nat} {W' : World} (h : RowQ w b N D W') (hn : D.length = n) (hN : n + 1 <= N) : W'.cell? ⟨b, n, none⟩ = some (.int .u64 0) := by
 subst hn;rw [h.row.cell, List.getElem?_map, List.getElem?_append_right (by simp)];have : 0 < N - D.length := by omega
 simp [wv, this]
set_option maxRecDepth 100000 in
set_option maxHeartbeats 4000000 in
theorem THalves_c (ao : Option Addr) (len cap : Nat) (ws : List Nat) (w : World) (hA : WAt w ao ws) (hl : len = ws.length) (hcap : len <= cap) (hm : len <= 17592186044416) :
 Calls Tryz.prog 151 #[.slice ao len cap] w fun e w' => (∃ b ds c, e = .returned (.slice (some ⟨b, 0, none⟩) ds.length c) /\ w.heap.size <= b /\ ds.length <= c /\ c <= 35184372088832 /\ Bex (nval ws) ds /\ RowAt w' b 92 ((ds ++ List.replicate (c - ds.length) 0).map wv)) /\ Below w.heap.size w w' := by
 subst hl;have HA := Lib.hid hA; clear hA;go_enter Tryz.func151, Tryz.ntmps151;go_wp2_with fail
 refine (TTrim_c ao ws.length cap ws w HA.out rfl hcap (by omega)).mono ?_;rintro e w1 ⟨rfl, rfl⟩;have htl := tlen_le ws;have hv := nval_take_tlen HA.out.ok;obtain ⟨t, ht⟩ : ∃ t, tlen ws = t := ⟨_, rfl⟩;rw [ht] at htl hv ⊢;have HV := Lib.hid (And.intro hv ht); clear hv ht;have hw2 : IntKind.i64.wrap (2 * (t : Int)) = ((2 * t : Nat) : Int) := by rw [wrap_small] <;> omega
 go_wp2_with (at_make; refine mk_words rfl _ _ rfl (2 * t) (2 * t) rfl rfl (by omega) (by omega) (Nat.le_refl _) (by omega) ?_; intro b w2 hm1)
 have hI : RowQ w b (2 * t) [] w2 := ⟨by have := hm1.row; simpa using this, hm1.below, by have := hm1.at_; omega⟩;have HI := Lib.hid hI; clear hI hm1 hw2;go_loopw [4] (fun i_ wr => ∃ (i : Nat), i <= t /\ i_ = .int .i64 (i : Int) /\ Hid (RowQ w b (2 * t) (spb (ws.take i)) wr)) (fun i_ _ => t - (intOf i_).toNat)
 case atStart => exact ⟨0, Nat.zero_le _, rfl, Lib.hid (by simpa [spb] using HI.out)⟩
 case round =>
  obtain ⟨i, hi, rfl, hIr⟩ := hrel;by_cases hin : i < t
  · have hin1 : (i : Int) < (t : Int) := by omega
    obtain ⟨ab, aoff, rfl, hab, hc⟩ := (HA.out.below hIr.out.bel).pos (by omega);have hcell := hc i (by omega);have hgwW := HA.out.ok.gw i;have hnx : spb (ws.take (i + 1)) = (spb (ws.take i) ++ [gw ws i % HB]) ++ [gw ws i / HB] := by
     rw [List.take_succ_eq_append_getElem (by omega)];have e : ws[i]'(by omega) = gw ws i := by simp [gw, show i < ws.length by omega]
     have h2 : gw ws i / HB % HB = gw ws i / HB := Nat.mod_eq_of_lt (by unfold W at hgwW; unfold HB; omega);simp [spb, sp2, e, h2]
    obtain ⟨x, hx⟩ : ∃ x, gw ws i = x := ⟨_, rfl⟩;rw [hx] at hcell hgwW hnx;have HN := Lib.hid hnx; clear hnx hx hc;have hlen : (spb (ws.take i)).length = 2 * i := by rw [spb_length, List.length_take, Nat.min_eq_left (by omega)]
    have h1 := hIr.out;have h2 := h1.put hlen (by omega) (remW x HB);have c0 := h1.at0 hlen (by omega);have f0 := h1.row.free (2 * i);have hl2 : (spb (ws.take i) ++ [remW x HB]).length = 2 * i + 1 := by rw [List.length_append, hlen]; rfl
    have c1 := h2.at0 hl2 (by omega);have f1 := h2.row.free (2 * i + 1);have h3 := h2.put hl2 (by omega) (x / HB);have hgr : (wr.setCell ⟨b, 2 * i, none⟩ (.int .u64 ((remW x HB : Nat) : Int))).cell? ⟨ab, aoff + i, none⟩ = some (.int .u64 (x : Int)) := by
     rw [World.cell?_setCell_far _ _ _ _ (fun e => by
      have e : b = ab := e;subst e;have := h1.ge;have h9 := HA.out.pos (by omega);obtain ⟨b', o', e', hb', _⟩ := h9;cases e';omega)]
     exact hcell
    have k1 : 2 * (i : Int) < 2 * (t : Int) := by omega
    have k2 : 2 * (i : Int) + 1 < 2 * (t : Int) := by omega
    have hm1 : remW x HB < W := Nat.lt_of_lt_of_le (Nat.mod_lt _ (by decide)) (by decide : HB <= W);have HH3 := Lib.hid h3; clear h3 h2 h1;go_wp2_with (first
     | (with_reducible show wpList _ _ _ (⟨some 24, _, _, _, _, _⟩ :: _) _ _; refine op_rem rfl _ _ rfl x HB hgwW (by decide) rfl rfl rfl rfl ?_)
     | (with_reducible show wpList _ _ _ (⟨some 34, _, _, _, _, _⟩ :: _) _ _; refine op_quo rfl _ _ rfl x HB hgwW (by decide) rfl rfl rfl rfl ?_))
    go_roundw
    case rel => exact ⟨i + 1, by omega, by go_num, Lib.hid (by rw [HN.out]; exact HH3.out)⟩
    case measure => simp [intOf]; omega
  · obtain rfl : i = t := by omega
    have h1 := hIr.out;have hok := HA.out.ok.take i;have hlen : (spb (ws.take i)).length = 2 * i := by rw [spb_length, List.length_take, Nat.min_eq_left (by omega)]
    have hex := Bex.of (spb_ok (ws.take i));rw [spb_val hok, HV.out.1] at hex;have hrow := h1.row;rw [hlen, Nat.sub_self, List.replicate_zero, List.append_nil] at hrow;have hw : WAt wr (some ⟨b, 0, none⟩) (spb (ws.take i)) := hrow.wat (fun x hx => Nat.lt_trans (spb_ok _ x hx) (by decide));have HE := Lib.hid (And.intro hex (And.intro hrow hlen)); clear hex hrow;have h2 := tlen_le (spb (ws.take i));have HB1 := Lib.hid (And.intro h1.bel h1.ge); clear h1;have HT := Lib.hid h2; clear h2 hok;go_wp2_with fail
    refine (TTrim_c (some ⟨b, 0, none⟩) (2 * i) (2 * i) (spb (ws.take i)) wr hw hlen.symm (Nat.le_refl _) (by omega)).mono ?_;rintro e w3 ⟨rfl, rfl⟩;go_wp2;go_ret;have hl2 : ((spb (ws.take i)).take (tlen (spb (ws.take i)))).length = tlen (spb (ws.take i)) := by rw [List.length_take, Nat.min_eq_left HT.out]
    refine ⟨⟨b, (spb (ws.take i)).take (tlen (spb (ws.take i))), 2 * i, by rw [hl2]; rfl, HB1.out.2, by rw [hl2]; have := HT.out; omega, by omega, HE.out.1, ?_⟩, HB1.out.1⟩;have e : (spb (ws.take i)).take (tlen (spb (ws.take i))) ++ List.replicate (2 * i - ((spb (ws.take i)).take (tlen (spb (ws.take i)))).length) 0 = spb (ws.take i) := by
     conv => rhs; rw [<- List.take_append_drop (tlen (spb (ws.take i))) (spb (ws.take i))]
     congr 1;rw [hl2];refine List.ext_getElem (by simp [hlen]) fun j h3 h4 => ?_;simp only [List.getElem_replicate];have := zero_of_tlen (spb (ws.take i)) (tlen (spb (ws.take i)) + j) (by omega);rw [List.getElem_drop];rw [List.getD_eq_getElem?_getD, List.getElem?_eq_getElem (by simp at h4; omega)] at this;simpa using this.symm
    rw [e]; exact HE.out.2.1
attribute [local go_sem] wv
theorem ch2_gw (ds : List Nat) (q : Nat) : ch2 ds q = gw ds (2 * q) + HB * gw ds (2 * q + 1) := by
 have h0 : gw ds (2 * q) = gw (ds.drop (2 * q)) 0 := by rw [gw_drop]; rfl
 have h1 : gw ds (2 * q + 1) = gw (ds.drop (2 * q)) 1 := by rw [gw_drop]
 rw [h0, h1];unfold ch2;rcases ds.drop (2 * q) with _ | ⟨a, _ | ⟨b, l⟩⟩ <;> simp [bval, gw]
theorem ch2_even (D : List Nat) (i : Nat) (q : Nat) (h : i = 2 * q) : ch2 (D.take (i + 1)) q = gw D i := by
 subst h; rw [ch2_gw, gw_take, gw_take, if_pos (by omega), if_neg (by omega)]; rfl
theorem ch2_odd (D : List Nat) (i : Nat) (q : Nat) (h : i = 2 * q + 1) : ch2 (D.take (i + 1)) q = ch2 (D.take i) q + gw D i * HB /\ ch2 (D.take i) q = gw D (2 * q) := by
 subst h; rw [ch2_gw, ch2_gw, gw_take, gw_take, gw_take, gw_take, if_pos (by omega), if_pos (by omega), if_pos (by omega), if_neg (by omega)];exact ⟨by rw [Nat.mul_comm HB (gw D _)]; omega, by omega⟩
theorem ch2_step (D : List Nat) (i K v : Nat) (hv : ch2 (D.take (i + 1)) (i / 2) = v) : ((List.range K).map (ch2 (D.take i))).set (i / 2) v = (List.range K).map (ch2 (D.take (i + 1))) := by
 refine List.ext_getElem? fun j => ?_;rw [List.getElem?_set];by_cases h : i / 2 = j
 · subst h;by_cases hK : i / 2 < K
   · simp [hK, hv]
   · simp [hK]
 · rw [if_neg h];by_cases hK : j < K
   · simp only [List.getElem?_map, List.getElem?_range hK, Option.map_some];rw [ch2_gw, ch2_gw, gw_take, gw_take, gw_take, gw_take];congr 2
     · by_cases h1 : 2 * j < i
       · rw [if_pos h1, if_pos (by omega)]
       · rw [if_neg h1, if_neg (by omega)]
     · by_cases h1 : 2 * j + 1 < i
       · rw [if_pos h1, if_pos (by omega)]
       · rw [if_neg h1, if_neg (by omega)]
   · simp [hK]
theorem ch2_init (D : List Nat) (K : Nat) : List.replicate K 0 = (List.range K).map (ch2 (D.take 0)) := by
 refine List.ext_getElem? fun j => ?_;by_cases hK : j < K
 · simp [hK, ch2, bval]
 · simp [hK]
theorem mulHB {a : Nat} (h : a * HB < W) : Value.int .u64 (IntKind.u64.wrap ((a : Int) * 4294967296)) = .int .u64 ((a * HB : Nat) : Int) := mulB (b := 4294967296) h
theorem halfI {a : Int} {K : Nat} (h0 : 0 <= a) (h1 : a < 9223372036854775808) (h : a / 2 = (K : Int)) : Value.int .i64 (IntKind.i64.wrap (a.tdiv 2)) = .int .i64 (K : Int) := by
 rw [Int.tdiv_eq_ediv_of_nonneg h0, IntWalk.i64_in _ (by omega), h]
set_option maxRecDepth 100000 in
set_option maxHeartbeats 4000000 in
theorem TWords_c (ao : Option Addr) (len cap m : Nat) (ds : List Nat) (w : World) (hA : WAt w ao ds) (hok : BOk ds) (hv : bval ds = m) (hl : len = ds.length) (hc : len <= cap) (hm : cap <= 35184372088832) :
 Calls Tryz.prog 153 #[.slice ao len cap] w fun e w' => (∃ ao' cap', e = .returned (.slice ao' (wlen m) cap') /\ OwnW w' w.heap.size ao' (wlen m) cap' (dig m)) /\ Below w.heap.size w w' := by
 subst hl;have htl := tlen_le ds;obtain ⟨D, hD⟩ : ∃ D, ds.take (tlen ds) = D := ⟨_, rfl⟩;have hDl : D.length = tlen ds := by rw [<- hD, List.length_take, Nat.min_eq_left htl]
 have hex : Bex m D := by have := Bex.of hok; rw [hv, hD] at this; exact this
 obtain ⟨n, hn⟩ : ∃ n, tlen ds = n := ⟨_, rfl⟩;obtain ⟨K, hK⟩ : ∃ K, (n + 1) / 2 = K := ⟨_, rfl⟩;rw [hn] at hDl htl;have hAt : WAt w ao D := by rw [<- hD]; exact hA.take _
 have hao := hAt.ao;refine funW (S0 := fun _ => False) Tryz.func153 (es := [.wat ao D, .wat ao ds]) (((Fr.nil _ w).w (hx := hA)).w (hx := hAt) (hn := by simp [En.wr, En.wat])) ?_;refine goW ?_;refine rW [] ?_;refine dW ?_;refine eW ?_;refine goW ?_;refine rW [] ?_;refine dW ?_;refine cV (v := .slice ao n cap) (fun w H => (TTrim_c ao ds.length cap ds w H.m1 rfl hc (by omega)).mono (by rintro e w' ⟨rfl, rfl⟩; exact ⟨by rw [hn], Below.refl _ _⟩)) ?_;refine dW ?_;refine eW ?_;refine goW ?_;refine rW [] ?_;refine dW ?_;refine dW ?_;refine dE (incB (a := n) (by omega)) ?_;refine dE (halfI (a := (n : Int) + 1) (K := K) (by omega) (by omega) (by omega)) ?_;refine mW K K rfl rfl (Nat.le_refl _) (by omega) fun g3 => ?_;refine dW ?_;refine eW ?_;refine goW ?_;refine rW [] ?_;refine dW ?_;refine eW ?_;refine goW ?_;rw [ch2_init D K];refine loopW (X := Nat) (fun i => i <= n) (fun i => n - i)
  (fun i => [(4, .int .i64 (i : Int)), (3, .slice (some ⟨g3, 0, none⟩) K K), (0, .slice ao n cap)])
  (fun i => [.row g3 92 (((List.range K).map (ch2 (D.take i))).map wv), .wat ao D]) 0 (Nat.zero_le _) fun i hi => ?_
 refine goW ?_;refine rW [] ?_;refine dW ?_;refine dW ?_;refine dW ?_;refine dW ?_;refine eW ?_;refine goW ?_;refine condW (fun h => ?_) (fun h => ?_)
 · have h : i < n := by have h := of_decide_eq_true h; omega
   have hi' : (i : Int) < (n : Int) := by omega
   obtain ⟨b, o, rfl⟩ := hao (by omega);obtain ⟨q, hq⟩ : ∃ q, i / 2 = q := ⟨_, rfl⟩;have hqK : q < K := by omega
   have hqK' : (q : Int) < (K : Int) := by omega
   have hlen : q < ((List.range K).map (ch2 (D.take i))).length := by simp [hqK]
   have hstep := ch2_step D i K _ rfl;rw [hq] at hstep;obtain ⟨d, hd⟩ : ∃ d, gw D i = d := ⟨_, rfl⟩;have hdB := hex.ok.gw_ i;rw [hd] at hdB;refine goW ?_;refine rW [] ?_;refine dW ?_;by_cases h2 : i % 2 = 0
   · have ht : (i : Int).tmod 2 = 0 := by rw [Int.tmod_eq_emod_of_nonneg (by omega)]; omega
     refine dW ?_;refine dB true ?_;refine eW ?_;refine goW ?_;refine ctW ?_;refine wordW i mm1 (by omega) ?_;rw [hd];refine rW [] ?_;refine dW ?_;refine dW ?_;refine dE (halfI (a := (i : Int)) (K := q) (by omega) (by omega) (by omega)) ?_;refine dW ?_;refine dW ?_;refine dW ?_;refine dW ?_;refine dW ?_;refine sU q d hlen rfl (k' := ?_);refine eW ?_;refine goW ?_;refine rW [] ?_;refine dW ?_;refine dE (incB (a := i) (by omega)) ?_;refine dW ?_;refine eW ?_;rw [ch2_even D i q (by omega), hd] at hstep;rw [hstep];exact backW (i + 1) ⟨h, by omega⟩
   · obtain ⟨hs1, hs2⟩ := ch2_odd D i q (by omega);obtain ⟨e, he⟩ : ∃ e, gw D (2 * q) = e := ⟨_, rfl⟩;have heB := hex.ok.gw_ (2 * q);rw [he] at heB hs2;have hgw : ((List.range K).map (ch2 (D.take i)))[q]? = some e := by
      rw [List.getElem?_map, List.getElem?_range hqK, Option.map_some, hs2]
     rw [hs2, hd] at hs1;obtain ⟨T, hT⟩ : ∃ T, (List.range K).map (ch2 (D.take i)) = T := ⟨_, rfl⟩;rw [hT] at hgw hstep hlen;rw [hT];have hdH : d * HB < W := by show d * HB < HB * HB; exact Nat.mul_lt_mul_of_pos_right hdB HB_pos
     have hdH2 : e + d * HB < W := by unfold HB W at *; omega
     have hlen2 := Lib.hid hlen;clear hlen;have ht : (i : Int).tmod 2 = 1 := by rw [Int.tmod_eq_emod_of_nonneg (by omega)]; omega
     refine dW ?_;refine dB false ?_;refine eW ?_;refine goW ?_;refine cfW ?_;refine wordW i mm1 (by omega) ?_;rw [hd];refine rW [] ?_;refine dW ?_;refine dW ?_;refine dE (halfI (a := (i : Int)) (K := q) (by omega) (by omega) (by omega)) ?_;refine dW ?_;refine dW ?_;refine dE (halfI (a := (i : Int)) (K := q) (by omega) (by omega) (by omega)) ?_;refine dW ?_;refine dW ?_;refine dW ?_;refine dW ?_;refine dW ?_;refine dW ?_;refine dE (mulHB (a := d) hdH) ?_;refine dE (addB (a := e) (b := d * HB) hdH2) ?_;refine dW ?_;refine sU q (e + d * HB) hlen2.out rfl (k' := ?_);refine eW ?_;refine goW ?_;refine rW [] ?_;refine dW ?_;refine dE (incB (a := i) (by omega)) ?_;refine dW ?_;refine eW ?_;rw [hs1] at hstep;rw [hstep];exact backW (i + 1) ⟨h, by omega⟩
 · have h : i = n := by have h := of_decide_eq_false h; omega
   subst h;refine goW ?_;refine rW [] ?_;refine dW ?_;refine dW ?_;refine eW ?_;refine goW ?_;refine fin1 (fun w' H => ?_);have ed : (List.range K).map (ch2 (D.take i)) = dig m := by rw [List.take_of_length_le (by omega)]; exact ch2_dig hex (by omega) (by omega)
   have el : wlen m = K := by rw [hex.wlen_, hDl, hK]
   have hr := H.m0;rw [ed] at hr;have hk : (dig m).length = K := el;have ho := RowAt.own (n := K) (cap := K) (B := w.heap.size) hr (by rw [<- ed]; exact ch2_ok (hex.ok.take _) K) ((H.own _ (List.mem_cons_self ..) rfl g3 rfl).resolve_left id) (by omega) hk.symm (Nat.le_trans (by omega : K <= 35184372088832) (by decide));rw [List.take_of_length_le (by omega)] at ho;rw [el];exact ⟨_, rvT, ⟨_, _, rfl, ho⟩, H.below⟩
end Go.Proofs.YtajmkebkgmbfnaaGreat
namespace Go.Proofs.YtajmkebkgmbfnaaGreat
theorem BOk.ok {l : List Nat} (h : BOk l) : Ok l := fun x hx => Nat.lt_trans (h x hx) (by decide)
theorem bval_ex : ∀ (k n : Nat), n < HB ^ k -> ∃ l : List Nat, l.length = k /\ BOk l /\ bval l = n
 | 0, n, h => ⟨[], rfl, (fun _ h => (List.not_mem_nil h).elim), by simp at h; simp [bval, h]⟩
 | k + 1, n, h => by
  obtain ⟨l, h1, h2, h3⟩ := bval_ex k (n / HB) (Nat.div_lt_of_lt_mul (by rw [Nat.pow_succ, Nat.mul_comm] at h; exact h));refine ⟨n % HB :: l, by simp [h1], fun x hx => ?_, by simp only [bval, h3]; exact Nat.mod_add_div n HB⟩;rcases List.mem_cons.1 hx with rfl | hx
  · exact Nat.mod_lt _ HB_pos
  · exact h2 x hx
theorem tlen_val {l : List Nat} (h : BOk l) {n : Nat} (hn : 0 < n) (h1 : HB ^ (n - 1) <= bval l) (h2 : bval l < HB ^ n) : tlen l = n := by
 have hx := Bex.of h;have hl : (l.take (tlen l)).length = tlen l := by rw [List.length_take, Nat.min_eq_left (tlen_le l)]
 have h3 := hx.lt;rw [hl] at h3;have a : n - 1 < tlen l := (Nat.pow_lt_pow_iff_right (show 1 < HB by decide)).1 (Nat.lt_of_le_of_lt h1 h3);have h4 := hx.top (by omega);rw [hl] at h4;have b : tlen l - 1 < n := (Nat.pow_lt_pow_iff_right (show 1 < HB by decide)).1 (Nat.lt_of_le_of_lt h4 h2);omega
theorem fac_top {ys : List Nat} {B k : Nat} (h : Bex B ys) (hl : 0 < ys.length) (hk : gw ys (ys.length - 1) * 2 ^ k < HB) : B * 2 ^ k < HB ^ ys.length /\ HB ^ (ys.length - 1) <= B * 2 ^ k := by
 obtain ⟨top, ht⟩ : ∃ top, gw ys (ys.length - 1) = top := ⟨_, rfl⟩;rw [ht] at hk;have h1 := bval_take_succ ys (ys.length - 1);rw [show ys.length - 1 + 1 = ys.length by omega, List.take_length, h.val, ht] at h1;have h2 := bval_lt (h.ok.take (ys.length - 1));rw [List.length_take, Nat.min_eq_left (by omega)] at h2;have h3 := h.top hl;have hp : 0 < 2 ^ k := Nat.pow_pos (by omega);refine ⟨?_, Nat.le_trans h3 (Nat.le_mul_of_pos_right _ hp)⟩;have htp : 1 <= top := by
  rcases Nat.eq_zero_or_pos top with h0 | h0
  · rw [h0] at h1; omega
  · exact h0
 have hk32 : k < 32 := (Nat.pow_lt_pow_iff_right (show 1 < 2 by decide)).1 (Nat.lt_of_le_of_lt (Nat.le_mul_of_pos_left _ htp) (show top * 2 ^ k < 2 ^ 32 from hk));have e : 2 ^ (32 - k) * 2 ^ k = HB := by rw [<- Nat.pow_add, show 32 - k + k = 32 by omega]; rfl
 have h4 : top < 2 ^ (32 - k) := Nat.lt_of_mul_lt_mul_right (a := 2 ^ k) (by rw [e]; exact hk);have h5 : (top + 1) * 2 ^ k <= HB := by rw [<- e]; exact Nat.mul_le_mul_right _ h4
 have h6 : B < HB ^ (ys.length - 1) * (top + 1) := by rw [Nat.mul_succ]; omega
 calc B * 2 ^ k < HB ^ (ys.length - 1) * (top + 1) * 2 ^ k := Nat.mul_lt_mul_of_pos_right h6 hp
  _ = HB ^ (ys.length - 1) * ((top + 1) * 2 ^ k) := Nat.mul_assoc ..
  _ <= HB ^ (ys.length - 1) * HB := Nat.mul_le_mul_left _ h5
  _ = HB ^ ys.length := by rw [<- Nat.pow_succ]; congr 1; omega
theorem top_bd {ds : List Nat} (h : BOk ds) {n : Nat} (hn : n + 1 = ds.length) : HB ^ n * gw ds n <= bval ds /\ bval ds < HB ^ n * (gw ds n + 1) := by
 have h1 := bval_take_succ ds n;rw [hn, List.take_length] at h1;have h2 := bval_lt (h.take n);rw [List.length_take, Nat.min_eq_left (by omega)] at h2;rw [Nat.mul_succ]; omega
theorem two_ge (R : List Nat) (p : Nat) (hp : p + 1 < R.length) : HB ^ p * (gw R p + gw R (p + 1) * HB) <= bval R := by
 have h1 := bval_split R (p + 2) (by omega);have h2 : bval (R.take (p + 2)) = bval (R.take (p + 1)) + HB ^ (p + 1) * gw R (p + 1) := bval_take_succ R (p + 1);have h3 := bval_take_succ R p;rw [Nat.mul_add, Nat.mul_comm (gw R (p + 1)), <- Nat.mul_assoc, show HB ^ p * HB = HB ^ (p + 1) from rfl];omega
theorem guess {R ds : List Nat} {m lb n t D : Nat} (hlb : lb + 1 = ds.length) (hd : BOk ds) (hD : bval ds = D) (hp : m + lb + 1 < R.length) (ht : gw R (m + lb) + gw R (m + lb + 1) * HB = t) (hr : bval R < D * HB ^ (m + 1)) (hn : t / (gw ds lb + 1) = n) : HB ^ m * (n * D) <= bval R /\ n < HB := by
 have h1 := (top_bd hd hlb).2;rw [hD] at h1;have h2 := two_ge R (m + lb) hp;rw [ht] at h2;obtain ⟨H, hH⟩ : ∃ H, gw ds lb + 1 = H := ⟨_, rfl⟩;rw [hH] at h1 hn;have hH0 : 0 < H := by omega
 have h3 : n * H <= t := by rw [<- hn]; exact Nat.div_mul_le_self t H
 refine ⟨Nat.le_trans ?_ h2, ?_⟩
 · rw [Nat.pow_add, Nat.mul_assoc];refine Nat.mul_le_mul_left _ ?_
   calc n * D <= n * (HB ^ lb * H) := Nat.mul_le_mul_left _ (Nat.le_of_lt h1)
    _ = HB ^ lb * (n * H) := Nat.mul_left_comm ..
    _ <= HB ^ lb * t := Nat.mul_le_mul_left _ h3
 · rw [<- hn];refine Nat.div_lt_of_lt_mul ?_;refine Nat.lt_of_mul_lt_mul_left (a := HB ^ (m + lb)) ?_
   calc HB ^ (m + lb) * t <= bval R := h2
    _ < D * HB ^ (m + 1) := hr
    _ <= (HB ^ lb * H) * HB ^ (m + 1) := Nat.mul_le_mul_right _ (Nat.le_of_lt h1)
    _ = HB ^ (m + lb) * (H * HB) := by rw [Nat.pow_succ, Nat.pow_add]; simp only [Nat.mul_assoc, Nat.mul_comm, Nat.mul_left_comm]
structure DvI (K N m : Nat) (D Z r0 : Nat) (Q R : List Nat) : Prop where
 q1 : Q.length = K
 q2 : BOk Q
 q3 : ∀ j, j < m -> gw Q j = 0
 r1 : R.length = N
 r2 : BOk R
 v1 : bval Q * D + bval R = Z
 v2 : bval R < D * HB ^ (m + 1)
 v3 : gw Q m * (HB ^ m * D) + bval R = r0
 v4 : r0 < D * HB ^ (m + 1)
theorem DvI.next {K N m D Z r0 n : Nat} {Q R R' : List Nat} (h : DvI K N m D Z r0 Q R) (hm : m < K) (h1 : R'.length = N) (h2 : BOk R') (h3 : bval R' + HB ^ m * (n * D) = bval R) (hD : 0 < D) : gw Q m + n < HB /\ DvI K N m D Z r0 (Q.set m (gw Q m + n)) R' := by
 have e : (gw Q m + n) * (HB ^ m * D) + bval R' = r0 := by
  rw [<- h.v3, Nat.add_mul, <- h3, Nat.mul_left_comm n]; omega
 have hlt : gw Q m + n < HB := by
  refine Nat.lt_of_mul_lt_mul_right (a := HB ^ m * D) ?_;have := h.v4;have e2 : D * HB ^ (m + 1) = HB * (HB ^ m * D) := by rw [Nat.pow_succ]; simp only [Nat.mul_assoc, Nat.mul_comm, Nat.mul_left_comm]
  omega
 refine ⟨hlt, by rw [List.length_set]; exact h.q1, h.q2.set _ _ hlt, fun j hj => ?_, h1, h2, ?_, by have := h.v2; omega, ?_, h.v4⟩
 · rw [gw_set_other (by omega)]; exact h.q3 j hj
 · have := bval_set Q m (gw Q m + n) (by rw [h.q1]; exact hm);rw [Nat.mul_add] at this;have e3 : bval (Q.set m (gw Q m + n)) = bval Q + HB ^ m * n := by omega
   have := h.v1;rw [e3, Nat.add_mul, Nat.mul_assoc]; omega
 · rw [gw_set_same (by rw [h.q1]; exact hm)]; exact e
structure LsI (N f : Nat) (R : List Nat) (k c : Nat) (T : List Nat) : Prop where
 h1 : T.length = N
 h2 : BOk T
 h3 : c < f
 h4 : bval (T.drop k) * f + c = bval (R.drop k)
 h5 : ∀ j, j < k -> gw T j = gw R j
theorem drop_gw (l : List Nat) (m : Nat) : bval (l.drop m) = gw l m + HB * bval (l.drop (m + 1)) := by
 have e : gw l m = gw (l.drop m) 0 := by rw [gw_drop]; rfl
 have e2 : l.drop (m + 1) = (l.drop m).drop 1 := by rw [List.drop_drop]
 rw [e, e2];cases l.drop m with
 | nil => simp [bval, gw]
 | cons a r => simp [bval, gw]
theorem LsI.next {N f m c x : Nat} {R T : List Nat} (h : LsI N f R (m + 1) c T) (hm : m < N) (hf : f < HB) (hx : c * HB + gw T m = x) : x < f * HB /\ x / f < HB /\ LsI N f R m (x % f) (T.set m (x / f)) := by
 have h3 := h.h3;have hd := h.h2.gw_ m;have hxf : x < f * HB := by
  have : (c + 1) * HB <= f * HB := Nat.mul_le_mul_right _ h3;rw [Nat.succ_mul] at this; omega
 have hq : x / f < HB := Nat.div_lt_of_lt_mul hxf;refine ⟨hxf, hq, by rw [List.length_set]; exact h.h1, h.h2.set _ _ hq, Nat.mod_lt _ (by omega), ?_, fun j hj => by rw [gw_set_other (by omega)]; exact h.h5 j (by omega)⟩;have h4 := h.h4;rw [drop_gw, gw_set_same (by rw [h.h1]; exact hm), drop_gw R m, <- h.h5 m (by omega), <- h4, show (T.set m (x / f)).drop (m + 1) = T.drop (m + 1) from List.drop_set_of_lt (by omega), Nat.add_mul];have e := Nat.div_add_mod x f;rw [Nat.mul_comm f] at e;have e2 : HB * bval (T.drop (m + 1)) * f = HB * (bval (T.drop (m + 1)) * f) := Nat.mul_assoc ..;have e3 : HB * (bval (T.drop (m + 1)) * f + c) = HB * (bval (T.drop (m + 1)) * f) + c * HB := by rw [Nat.mul_add, Nat.mul_comm c]
 omega
theorem dv_end {A B f q r t c : Nat} (hf : 0 < f) (h1 : q * (B * f) + r = A * f) (h2 : r < B * f) (h3 : t * f + c = r) (h4 : c < f) : q = A / B /\ t = A % B := by
 have e : (q * B + t) * f + c = A * f := by rw [Nat.add_mul, Nat.mul_assoc]; omega
 have hc : c = 0 := by
  have : ((q * B + t) * f + c) % f = c := by rw [Nat.add_comm, Nat.add_mul_mod_self_right, Nat.mod_eq_of_lt h4]
  rw [e, Nat.mul_mod_left] at this; exact this.symm
 rw [hc, Nat.add_zero] at e;have e2 := Nat.eq_of_mul_eq_mul_right hf e;have ht : t < B := Nat.lt_of_mul_lt_mul_right (a := f) (by omega);have hB : 0 < B := by omega
 rw [<- e2];constructor
 · rw [Nat.mul_comm, Nat.mul_add_div hB, Nat.div_eq_of_lt ht]; rfl
 · rw [Nat.mul_comm, Nat.mul_add_mod, Nat.mod_eq_of_lt ht]
end Go.Proofs.YtajmkebkgmbfnaaGreat
namespace Go.Proofs.YtajmkebkgmbfnaaGreat
open Go.RowKit
attribute [local go_sem] wv
structure Dg (w : World) (n : Nat) (ao : Option Addr) (c : Nat) (ds : List Nat) : Prop where
 at_ : WAt w ao ds
 ex : Bex n ds
 le : ds.length <= c
 cap : c <= 35184372088832
theorem Dg.below {w w' : World} {n : Nat} {ao : Option Addr} {c : Nat} {ds : List Nat} (h : Dg w n ao c ds) (hb : Below w.heap.size w w') : Dg w' n ao c ds := ⟨h.at_.below hb, h.ex, h.le, h.cap⟩
section
variable {P : Program} {ops : Array Oper} {Q : Exit -> Act -> World -> Prop} {S0 : Nat -> Prop} {w0 : World} {E0 : List En} {hd : List (List Nat)} {n j s : Nat} {l : List Nat} {G E : List En} {ls : List (Nat × Value)} {op : Op} {ty : TypeId} {pos : String} {af : Array Edge} {f : FuncId} {args : Array Value}
theorem cD {N : Nat} {Pl : List Nat -> Prop} (hne : ∃ l, Pl l) (c : ∀ w, Fr S0 w0 w (G ++ E) -> Calls P f args w fun e w' => (∃ b ts, e = .returned (.slice (some ⟨b, 0, none⟩) N N) /\ w.heap.size <= b /\ Pl ts /\ RowAt w' b 92 (ts.map wv)) /\ Below w.heap.size w w')
 (k : ∀ g ts, Pl ts -> RWs ⟨P, ops, Q, S0, w0, E0, hd⟩ n l (.row g 92 (ts.map wv) :: G) E ((s, .slice (some ⟨g, 0, none⟩) N N) :: ls))
 (ho : ops[j]? = some ⟨some s, op, ty, pos, af, none⟩ := by rfl) (hk : (!isDet op && !isNew op && chkO ls op && Nat.blt s n) = true := by kernel_rfl)
 (hr : ∀ w, (execOp (evl ls) ⟨some s, op, ty, pos, af, none⟩).run P w = .ok (.enter f args) w := by intro w; (try simp only [av]); go_simp <;> with_reducible rfl)
 (hst : okSt ops hd j [] = true := by kernel_rfl) : RWs ⟨P, ops, Q, S0, w0, E0, hd⟩ n (j :: l) G E ls := by
 refine cG (α := {p : Nat × List Nat // Pl p.2}) (mk := fun p => .slice (some ⟨p.1.1, 0, none⟩) N N) (ens := fun p => [.row p.1.1 92 (p.1.2.map wv)]) (fun w hw => (c w hw).mono ?_) (fun p => k p.1.1 p.1.2 p.2) ho hk hr (by obtain ⟨l, h⟩ := hne; exact ⟨⟨(0, l), h⟩⟩) hst;rintro e w' ⟨⟨b, ts, rfl, hb, hp, hr⟩, hbl⟩;exact ⟨⟨(b, ts), hp⟩, rfl, hbl, fun e he => by
  rcases List.mem_singleton.1 he with rfl;exact ⟨hr, fun b' h => by rw [show b' = b from h]; exact hb⟩, List.pairwise_singleton ..⟩
theorem readW {c : Code} {es : List En} {g : Nat} {ws : List Nat} (q : Nat) (hok : Ok ws) (k : CW P n S0 w0 c Q ls (.wat (some ⟨g, 0, none⟩) (ws.take q) :: es)) : CW P n S0 w0 c Q ls (.row g 92 (ws.map wv) :: es) := fun a w ha hw =>
 k a w ha (hw.tl.cons ((RowAt.wat hw.m0 hok).take q) (fun e he => ⟨(fun h => nomatch h), fun hwr b hb ⟨_, o, e'⟩ => by
  cases e';exact ((List.pairwise_cons.1 hw.sep).1 e he).2 hwr _ hb rfl⟩) (fun h => nomatch h))
end
theorem predN {a : Nat} (h0 : 0 < a) (h : a < 9223372036854775807) : Value.int .i64 (IntKind.i64.wrap ((a : Int) - 1)) = .int .i64 ((a - 1 : Nat) : Int) := by
 rw [predI a h]; congr 1; omega
theorem difI {a b : Nat} (hb : b <= a) (h : a < 9223372036854775807) : Value.int .i64 (IntKind.i64.wrap ((a : Int) - b)) = .int .i64 ((a - b : Nat) : Int) := by
 rw [IntWalk.i64_in _ (by omega)]; congr 1; omega
structure FcI (top k : Nat) : Prop where
 h1 : top * 2 ^ k < HB
 h2 : k < 32
theorem dblB {f : Nat} (hf : 2 * f < W) : Value.int .u64 (IntKind.u64.wrap (2 * (f : Int))) = .int .u64 ((2 * f : Nat) : Int) := mulB (a := 2) hf
theorem FcI.next {top k : Nat} (h0 : 1 <= top) (h : top * 2 ^ k < 2147483648) : FcI top (k + 1) := by
 have h1 : top * 2 ^ (k + 1) < HB := by rw [Nat.pow_succ, <- Nat.mul_assoc]; unfold HB; omega
 exact ⟨h1, (Nat.pow_lt_pow_iff_right (show 1 < 2 by decide)).1 (Nat.lt_of_le_of_lt (Nat.le_mul_of_pos_left _ h0) (show top * 2 ^ (k + 1) < 2 ^ 32 from h1))⟩
theorem quoV {a b : Nat} (ha : a < W) (hb : 0 < b) : Value.int .u64 (IntKind.u64.wrap ((a : Int).tdiv (b : Int))) = .int .u64 ((a / b : Nat) : Int) := by
 have h1 := Nat.div_le_self a b;rw [Int.tdiv_eq_ediv_of_nonneg (by omega), <- Int.natCast_ediv, IntKind.wrap_u64];generalize a / b = c at *;unfold W at ha; congr 1; omega
theorem remV {a b : Nat} : Value.int .u64 ((a : Int).tmod (b : Int)) = .int .u64 ((a % b : Nat) : Int) := by
 rw [Int.tmod_eq_emod_of_nonneg (by omega)]; rfl
structure LsX where
 k : Nat
 c : Nat
 T : List Nat
structure DvX where
 k : Nat
 Q : List Nat
 R : List Nat
structure DvO (K N D Z : Nat) (x : DvX) : Prop where
 k1 : x.k <= K
 q1 : x.Q.length = K
 q2 : BOk x.Q
 q3 : ∀ j, j < x.k -> gw x.Q j = 0
 r1 : x.R.length = N
 r2 : BOk x.R
 v1 : bval x.Q * D + bval x.R = Z
 v2 : bval x.R < D * HB ^ x.k
theorem DvO.in_ {K N D Z m : Nat} {Q R : List Nat} (h : DvO K N D Z ⟨m + 1, Q, R⟩) : DvI K N m D Z (bval R) Q R :=
 ⟨h.q1, h.q2, fun j hj => h.q3 j (Nat.lt_succ_of_lt hj), h.r1, h.r2, h.v1, h.v2, by have e : gw Q m = 0 := h.q3 m (Nat.lt_succ_self m); rw [e]; simp, h.v2⟩
theorem DvI.out {K N D Z m r0 : Nat} {Q R : List Nat} (h : DvI K N m D Z r0 Q R) (hm : m <= K) (hlt : bval R < HB ^ m * D) : DvO K N D Z ⟨m, Q, R⟩ :=
 ⟨hm, h.q1, h.q2, h.q3, h.r1, h.r2, h.v1, by show bval R < D * HB ^ m; rw [Nat.mul_comm]; exact hlt⟩
theorem dv_init {A B f la lb : Nat} (hA : A < HB ^ la) (hB : HB ^ (lb - 1) <= B) (h0 : 0 < lb) (h : lb <= la) (hf : 0 < f) : A * f < B * f * HB ^ (la - lb + 1) := by
 have e : HB ^ (lb - 1) * HB ^ (la - lb + 1) = HB ^ la := by rw [<- Nat.pow_add]; congr 1; omega
 have h1 : HB ^ la <= B * HB ^ (la - lb + 1) := by rw [<- e]; exact Nat.mul_le_mul_right _ hB
 rw [Nat.mul_right_comm];exact Nat.mul_lt_mul_of_pos_right (Nat.lt_of_lt_of_le hA h1) hf
set_option maxRecDepth 100000 in
set_option maxHeartbeats 4000000 in
theorem TDivide_c (A B : Nat) (ao bo : Option Addr) (ca cb : Nat) (xs ys : List Nat) (w : World) (hA : Dg w A ao ca xs) (hB : Dg w B bo cb ys) (hlx : xs.length <= 17592186044416) (hly : ys.length <= 17592186044416) (h0 : 0 < ys.length) :
 Calls Tryz.prog 152 #[.slice ao xs.length ca, .slice bo ys.length cb] w fun e w' => (∃ qo cq Qs ro cr Rs, e = .returned (.tuple #[.slice qo Qs.length cq, .slice ro Rs.length cr]) /\ Dg w' (A / B) qo cq Qs /\ Dg w' (A % B) ro cr Rs /\ (∀ b o, qo = some ⟨b, o, none⟩ -> w.heap.size <= b) /\ ((∀ b o, ro = some ⟨b, o, none⟩ -> w.heap.size <= b) ∨ (ro = ao /\ Rs = xs))) /\ Below w.heap.size w w' := by
 refine funW (S0 := fun _ => False) Tryz.func152 (es := [.wat ao xs, .wat bo ys]) (((Fr.nil _ w).w (hx := hB.at_)).w (hx := hA.at_) (hn := by simp [En.wr, En.wat])) ?_;refine goW ?_;refine rW [] ?_;refine dW ?_;refine dW ?_;refine eW ?_;refine goW ?_;refine rW [] ?_;refine dW ?_;refine dW ?_;refine dW ?_;refine dW ?_;refine dW ?_;refine eW ?_;refine goW ?_;refine condW (fun h => ?_) (fun h => ?_)
 · have h : xs.length < ys.length := by have h := of_decide_eq_true h; omega
   refine goW ?_;refine rW [] ?_;refine dW ?_;refine dW ?_;refine dW ?_;refine eW ?_;refine goW ?_;refine fin2 (fun w' H => ?_);have hlt := hA.ex.shorter hB.ex h;refine ⟨_, _, rvT, rvT, ⟨none, 0, [], ao, ca, xs, rfl, ?_, ?_, (fun b o e => nomatch e), .inr ⟨rfl, rfl⟩⟩, H.below⟩
   · rw [Nat.div_eq_of_lt hlt];exact ⟨⟨Ok.nil, fun h => absurd h (by simp)⟩, ⟨fun _ h => (List.not_mem_nil h).elim, rfl, rfl⟩, Nat.le_refl _, by omega⟩
   · rw [Nat.mod_eq_of_lt hlt];exact hA.below H.below
 · have h : ys.length <= xs.length := by have h := of_decide_eq_false h; omega
   obtain ⟨top, htop⟩ : ∃ top, gw ys (ys.length - 1) = top := ⟨_, rfl⟩;have htop1 : 1 <= top := by
    have := tlen_top ys (by rw [hB.ex.trim]; omega);rw [hB.ex.trim] at this;unfold gw at htop; omega
   obtain ⟨bb, bof, rfl⟩ := hB.at_.ao h0;obtain ⟨lp, hlp⟩ : ∃ lp, ys.length - 1 = lp := ⟨_, rfl⟩;have hlp' : (lp : Int) < (ys.length : Int) := by omega
   rw [hlp] at htop;have htB := hB.ex.ok.gw_ lp;rw [htop] at htB;refine goW ?_;refine rW [] ?_;refine dW ?_;refine eW ?_;refine nextW (seqW (joinW (X := Nat) (FcI top) (fun k => [(6, .int .u64 ((2 ^ k : Nat) : Int)), (1, .slice (some ⟨bb, bof, none⟩) ys.length cb), (0, .slice ao xs.length ca)]) (fun _ => [.wat ao xs, .wat (some ⟨bb, bof, none⟩) ys]) ?_ fun k hk => ?_))
   · refine goW ?_;refine loopW (X := Nat) (FcI top) (fun k => 32 - k) (fun k => [(6, .int .u64 ((2 ^ k : Nat) : Int)), (1, .slice (some ⟨bb, bof, none⟩) ys.length cb), (0, .slice ao xs.length ca)]) (fun _ => [.wat ao xs, .wat (some ⟨bb, bof, none⟩) ys]) 0 ⟨by omega, by omega⟩ fun k hk => ?_;have hk1 := hk.h1;have hf : 2 ^ k < HB := Nat.lt_of_le_of_lt (Nat.le_mul_of_pos_left _ htop1) hk1;obtain ⟨f, hf'⟩ : ∃ f, 2 ^ k = f := ⟨_, rfl⟩;rw [hf'] at hk1;have htW : top * f < W := Nat.lt_trans hk1 (by decide);rw [hf'];refine goW ?_;refine wordW lp mm1 (by omega) ?_;rw [htop];refine rW [] ?_;refine dW ?_;refine dW ?_;refine dW ?_;refine dE ((predN (a := ys.length) h0 (by omega)).trans (by rw [hlp])) ?_;refine dW ?_;refine dW ?_;refine dW ?_;refine dE (mulB (a := top) (b := f) htW) ?_;refine dW ?_;refine eW ?_;refine goW ?_;refine condW (fun h => ?_) (fun h => ?_)
     · have h : top * f < 2147483648 := by have h := of_decide_eq_true h; omega
       have hn : FcI top (k + 1) := FcI.next htop1 (by rw [hf']; exact h);obtain ⟨f2, hf2⟩ : ∃ f2, 2 ^ (k + 1) = f2 := ⟨_, rfl⟩;have e2 : 2 * f = f2 := by rw [<- hf2, <- hf', Nat.pow_succ, Nat.mul_comm]
       have hf2W : 2 * f < W := by rw [hf'] at hf; unfold HB W at *; omega
       refine goW ?_;refine rW [] ?_;refine dW ?_;refine dE ((dblB hf2W).trans (by rw [e2])) ?_;refine dW ?_;refine eW ?_;subst hf2;refine goW ?_;exact backW (k + 1) ⟨hn, by have := hn.h2; omega⟩
     · subst hf';refine goW ?_;exact joinE k hk
   · have hk1 := hk.h1;have hf : 2 ^ k < HB := Nat.lt_of_le_of_lt (Nat.le_mul_of_pos_left _ htop1) hk1;have hfp : 0 < 2 ^ k := Nat.pow_pos (by omega);have hft := fac_top hB.ex h0 (by rw [hlp, htop]; exact hk1);obtain ⟨f, hf'⟩ : ∃ f, 2 ^ k = f := ⟨_, rfl⟩;rw [hf'] at hf hfp hft ⊢;obtain ⟨D, hD⟩ : ∃ D, B * f = D := ⟨_, rfl⟩;rw [hD] at hft;obtain ⟨N, hN⟩ : ∃ N, xs.length + 1 = N := ⟨_, rfl⟩;refine goW ?_;refine rW [] ?_;refine dW ?_;refine dW ?_;refine cD (N := N) (Pl := fun ts => ts.length = N /\ BOk ts /\ bval ts = A * f) ?_ (fun w' H => (TScaled_c ao xs.length ca f xs w' H.m0 hA.ex.ok hf rfl hlx).mono (by
      subst hN;rintro e w2 ⟨⟨b, ts, h1, h2, h3, h4, h5, h6⟩, h7⟩;exact ⟨⟨b, ts, h1, h2, ⟨h3, h4, by rw [h5, hA.ex.val]⟩, h6⟩, h7⟩)) fun gr R hR => ?_
     · have hh := hA.ex.lt;obtain ⟨l, h1, h2, h3⟩ := bval_ex N (A * f) (by rw [<- hN, Nat.pow_succ]; exact Nat.lt_of_le_of_lt (Nat.mul_le_mul_right _ (Nat.le_of_lt hh)) (Nat.mul_lt_mul_of_pos_left hf (Nat.pow_pos HB_pos)));exact ⟨l, h1, h2, h3⟩
     obtain ⟨hR1, hR2, hR3⟩ := hR;refine dW ?_;refine eW ?_;refine goW ?_;refine rW [] ?_;refine dW ?_;refine dW ?_;refine cD (N := ys.length + 1) (Pl := fun ts => ts.length = ys.length + 1 /\ BOk ts /\ bval ts = D) ?_ (fun w' H => (TScaled_c (some ⟨bb, bof, none⟩) ys.length cb f ys w' H.m2 hB.ex.ok hf rfl hly).mono (by
      rintro e w2 ⟨⟨b, ts, h1, h2, h3, h4, h5, h6⟩, h7⟩;exact ⟨⟨b, ts, h1, h2, ⟨h3, h4, by rw [h5, hB.ex.val, hD]⟩, h6⟩, h7⟩)) fun gd ts hts => ?_
     · obtain ⟨l, h1, h2, h3⟩ := bval_ex (ys.length + 1) D (Nat.lt_of_lt_of_le hft.1 (Nat.pow_le_pow_right HB_pos (by omega)));exact ⟨l, h1, h2, h3⟩
     obtain ⟨ht1, ht2, ht3⟩ := hts;have htl : tlen ts = ys.length := tlen_val ht2 h0 (by rw [ht3]; exact hft.2) (by rw [ht3]; exact hft.1);refine dW ?_;refine eW ?_;refine goW ?_;refine rW [] ?_;refine dW ?_;refine cV (v := .slice (some ⟨gd, 0, none⟩) ys.length (ys.length + 1)) (fun w' H => (TTrim_c (some ⟨gd, 0, none⟩) (ys.length + 1) (ys.length + 1) ts w' (RowAt.wat H.m0 ht2.ok) ht1.symm (Nat.le_refl _) (by omega)).mono (by rintro e w2 ⟨rfl, rfl⟩; exact ⟨by rw [htl], Below.refl _ _⟩)) ?_;refine dW ?_;refine eW ?_;refine goW ?_;obtain ⟨lb, hlb⟩ : ∃ lb, ys.length = lb := ⟨_, rfl⟩;obtain ⟨ds, hds⟩ : ∃ ds, ts.take lb = ds := ⟨_, rfl⟩;have hdl : ds.length = lb := by rw [<- hds, List.length_take]; omega
     have hdo : BOk ds := by rw [<- hds]; exact ht2.take _
     have hdv : bval ds = D := by rw [<- hds, <- hlb, <- htl, bval_take_tlen, ht3]
     refine pickW (es' := [.row gd 92 (ts.map wv), .row gr 92 (R.map wv)]) ?_;refine readW lb ht2.ok ?_;rw [hds, hlb];obtain ⟨K, hK⟩ : ∃ K, xs.length - lb + 1 = K := ⟨_, rfl⟩;refine rW [] ?_;refine dW ?_;refine dW ?_;refine dW ?_;refine dW ?_;refine dE (difI (a := xs.length) (b := lb) (by omega) (by omega)) ?_;refine dE ((incB (a := xs.length - lb) (by omega)).trans (by rw [hK])) ?_;refine mW K K rfl rfl (Nat.le_refl _) (by omega) fun gq => ?_;refine dW ?_;refine eW ?_;obtain ⟨dt, hdt⟩ : ∃ dt, gw ds lp = dt := ⟨_, rfl⟩;have hdtB := hdo.gw_ lp;rw [hdt] at hdtB;have hlb0 : 0 < lb := by omega
     have hlpb : lb - 1 = lp := by omega
     have hlpb' : (lp : Int) < (lb : Int) := by omega
     have hHW : HB + HB < W := by decide
     obtain ⟨hd, hhd⟩ : ∃ hd, dt + 1 = hd := ⟨_, rfl⟩;refine goW ?_;refine word0W lp mm1 (by omega) ?_;rw [hdt];refine rW [] ?_;refine dW ?_;refine dW ?_;refine dW ?_;refine dE ((predN (a := lb) (by omega) (by omega)).trans (by rw [hlpb])) ?_;refine dW ?_;refine dW ?_;refine dE ((add1B (a := dt) (by omega)).trans (by rw [hhd])) ?_;refine dW ?_;refine eW ?_;refine goW ?_;refine rW [] ?_;refine dW ?_;refine dW ?_;refine dW ?_;refine dW ?_;refine dE (v := .int .i64 ((K : Int) - 1)) ((difI (a := xs.length) (b := lb) (by omega) (by omega)).trans (by congr 1; omega)) ?_;refine dW ?_;refine eW ?_;refine goW ?_;have hDl : D < HB ^ lb := by rw [<- hdv, <- hdl]; exact bval_lt hdo
     have hD0 : 0 < D := Nat.lt_of_lt_of_le (Nat.pow_pos HB_pos) hft.2;refine loopW (X := DvX) (DvO K N D (A * f)) (fun x => x.k) (fun x => [(11, .int .i64 ((x.k : Int) - 1)), (10, .int .u64 (hd : Int)), (9, .slice (some ⟨gq, 0, none⟩) K K), (8, .slice (some ⟨gd, 0, none⟩) lb (lb + 1)), (7, .slice (some ⟨gr, 0, none⟩) N N), (6, .int .u64 (f : Int))])
      (fun x => [.row gq 92 (x.Q.map wv), .row gr 92 (x.R.map wv), .wat (some ⟨gd, 0, none⟩) ds]) ⟨K, List.replicate K 0, R⟩ ⟨Nat.le_refl _, by simp, BOk.replicate _, fun j _ => by simp [gw, List.getElem?_replicate]; split <;> rfl, hR1, hR2, by rw [bval_replicate, hR3]; simp, ?_⟩ fun x hx => ?_
     · show bval R < D * HB ^ K;rw [hR3, <- hD, <- hK];exact dv_init hA.ex.lt (by rw [<- hlb]; exact hB.ex.top h0) hlb0 (by omega) hfp
     obtain ⟨k2, Q1, R1⟩ := x;rcases k2 with _ | m
     · have hf0 : ¬ f = 0 := by omega
       refine goW ?_;refine rW [] ?_;refine dW ?_;refine dB false ?_;refine eW ?_;refine goW ?_;refine cfW ?_;refine goW ?_;refine rW [] ?_;refine dW ?_;refine eW ?_;refine goW ?_;refine rW [] ?_;refine dW ?_;refine dW ?_;refine dE (v := .int .i64 ((N : Int) - 1)) (predI N (by omega)) ?_;refine dW ?_;refine eW ?_;refine goW ?_;refine loopW (X := LsX) (fun y => LsI N f R1 y.k y.c y.T /\ y.k <= N) (fun y => y.k) (fun y => [(16, .int .i64 ((y.k : Int) - 1)), (15, .int .u64 (y.c : Int)), (9, .slice (some ⟨gq, 0, none⟩) K K), (7, .slice (some ⟨gr, 0, none⟩) N N), (6, .int .u64 (f : Int))])
        (fun y => [.row gq 92 (Q1.map wv), .row gr 92 (y.T.map wv)]) ⟨N, 0, R1⟩ ⟨⟨hx.r1, hx.r2, hfp, by rw [List.drop_of_length_le (by rw [hx.r1]; exact Nat.le_refl _)]; simp [bval], fun _ _ => rfl⟩, Nat.le_refl _⟩ fun y hy => ?_
       obtain ⟨k3, c, T⟩ := y;obtain ⟨hy, hkN⟩ := hy;rcases k3 with _ | m
       · have hy : LsI N f R1 0 c T := hy;have hq1 : Q1.length = K := hx.q1;have hq2 : BOk Q1 := hx.q2;obtain ⟨e1, e2⟩ := dv_end (A := A) (B := B) (f := f) hfp (by rw [hD]; exact hx.v1) (by rw [hD]; have := hx.v2; simpa using this) (by have := hy.h4; simpa using this) hy.h3;have hq := Bex.of hq2;have ht := Bex.of hy.h2;rw [e1] at hq;rw [e2] at ht;have lq : (Q1.take (tlen Q1)).length = tlen Q1 := by rw [List.length_take, Nat.min_eq_left (tlen_le Q1)]
         have lt : (T.take (tlen T)).length = tlen T := by rw [List.length_take, Nat.min_eq_left (tlen_le T)]
         have bq := tlen_le Q1;have bt := tlen_le T;rw [hq1] at bq;rw [hy.h1] at bt;refine goW ?_;refine rW [] ?_;refine dW ?_;refine dB false ?_;refine eW ?_;refine goW ?_;refine cfW ?_;refine goW ?_;refine rW [] ?_;refine dW ?_;refine cV (v := .slice (some ⟨gq, 0, none⟩) (tlen Q1) K) (fun w' H => (TTrim_c (some ⟨gq, 0, none⟩) K K Q1 w' (RowAt.wat H.m0 hq2.ok) hq1.symm (Nat.le_refl _) (by omega)).mono (by rintro e w2 ⟨rfl, rfl⟩; exact ⟨rfl, Below.refl _ _⟩)) ?_;refine dW ?_;refine cV (v := .slice (some ⟨gr, 0, none⟩) (tlen T) N) (fun w' H => (TTrim_c (some ⟨gr, 0, none⟩) N N T w' (RowAt.wat H.m1 hy.h2.ok) hy.h1.symm (Nat.le_refl _) (by omega)).mono (by rintro e w2 ⟨rfl, rfl⟩; exact ⟨rfl, Below.refl _ _⟩)) ?_;refine dW ?_;refine dW ?_;refine eW ?_;refine goW ?_;refine fin2 (fun w' H => ?_);rw [<- lq, <- lt] ;exact ⟨_, _, rvT, rvT, ⟨some ⟨gq, 0, none⟩, K, Q1.take (tlen Q1), some ⟨gr, 0, none⟩, N, T.take (tlen T), rfl, ⟨(RowAt.wat H.m0 hq2.ok).take _, hq, by omega, by omega⟩, ⟨(RowAt.wat H.m1 hy.h2.ok).take _, ht, by omega, by omega⟩,
          (fun b o e => by cases e; exact (H.own _ (List.mem_cons_self ..) rfl gq rfl).resolve_left id), .inl (fun b o e => by cases e; exact (H.own _ mm1 rfl gr rfl).resolve_left id)⟩, H.below⟩
       · have em : ((m + 1 : Nat) : Int) - 1 = (m : Int) := by omega
         rw [em];have hy : LsI N f R1 (m + 1) c T := hy;have hkN : m + 1 <= N := hkN;have hg := gw_some (ws := T) (i := m) (by rw [hy.h1]; omega);obtain ⟨d, hd'⟩ : ∃ d, gw T m = d := ⟨_, rfl⟩;have hdB := hy.h2.gw_ m;obtain ⟨z, hz⟩ : ∃ z, c * HB + gw T m = z := ⟨_, rfl⟩;obtain ⟨n1, n2, n3⟩ := hy.next (by omega) hf hz;rw [hd'] at hg hz hdB;have hc := hy.h3;have hcW : c * HB < W := by unfold HB W at *; omega
         have hzW : z < W := by unfold HB W at *; omega
         have hmN : (m : Int) < (N : Int) := by omega
         obtain ⟨a, ha⟩ : ∃ a, z / f = a := ⟨_, rfl⟩;obtain ⟨b, hb⟩ : ∃ b, z % f = b := ⟨_, rfl⟩;rw [ha] at n2;rw [ha, hb] at n3;refine goW ?_;refine rW [] ?_;refine dW ?_;refine dB true ?_;refine eW ?_;refine goW ?_;refine ctW ?_;refine goW ?_;refine rW [] ?_;refine dW ?_;refine dE (mulHB (a := c) hcW) ?_;refine dW ?_;refine dW ?_;refine dW ?_;refine dW ?_;refine dE ((addB (a := c * HB) (b := d) (by rw [hz]; exact hzW)).trans (by rw [hz])) ?_;refine dW ?_;refine eW ?_;refine goW ?_;refine rW [] ?_;refine dW ?_;refine dW ?_;refine dW ?_;refine dW ?_;refine dE ((quoV (a := z) (b := f) hzW hfp).trans (by rw [ha])) ?_;refine dW ?_;refine sU m a (by rw [hy.h1]; omega) rfl (k' := ?_);refine eW ?_;refine goW ?_;refine rW [] ?_;refine dW ?_;refine dW ?_;refine dE ((remV (a := z) (b := f)).trans (by rw [hb])) ?_;refine dW ?_;refine eW ?_;refine goW ?_;refine rW [] ?_;refine dW ?_;refine dE (v := .int .i64 ((m : Int) - 1)) (predI m (by omega)) ?_;refine dW ?_;refine eW ?_;exact backW (⟨m, b, T.set m a⟩ : LsX) ⟨⟨n3, by show m <= N; omega⟩, Nat.lt_succ_self m⟩
     · have em : ((m + 1 : Nat) : Int) - 1 = (m : Int) := by omega
       rw [em];refine goW ?_;refine rW [] ?_;refine dW ?_;refine dB true ?_;refine eW ?_;refine goW ?_;refine ctW ?_;refine goW ?_;refine loopW (X := DvX) (fun y => DvI K N m D (A * f) (bval R1) y.Q y.R) (fun y => bval y.R) (fun _ => [(11, .int .i64 (m : Int)), (10, .int .u64 (hd : Int)), (9, .slice (some ⟨gq, 0, none⟩) K K), (8, .slice (some ⟨gd, 0, none⟩) lb (lb + 1)), (7, .slice (some ⟨gr, 0, none⟩) N N), (6, .int .u64 (f : Int))])
        (fun x => [.row gq 92 (x.Q.map wv), .row gr 92 (x.R.map wv), .wat (some ⟨gd, 0, none⟩) ds]) ⟨m, Q1, R1⟩ hx.in_ fun y hy => ?_
       obtain ⟨_, Q2, R2⟩ := y;have hy : DvI K N m D (A * f) (bval R1) Q2 R2 := hy;have hmK : m + 1 <= K := hx.k1;obtain ⟨L0, hL0⟩ : ∃ L0, m + lp = L0 := ⟨_, rfl⟩;obtain ⟨L1, hL1⟩ : ∃ L1, m + lb = L1 := ⟨_, rfl⟩;have hL10 : L1 - 1 = L0 := by omega
       have hL1N : L1 < N := by omega
       have hL1N' : (L1 : Int) < (N : Int) := by omega
       have hL0N' : (L0 : Int) < (N : Int) := by omega
       have hg0 := gw_some (ws := R2) (i := L0) (by rw [hy.r1]; omega);have hg1 := gw_some (ws := R2) (i := L1) (by rw [hy.r1]; omega);have hu := hy.r2.gw_ L0;have hv := hy.r2.gw_ L1;have gs := fun t n ht hn => guess (R := R2) (ds := ds) (m := m) (lb := lp) (n := n) (t := t) (D := D) (by omega) hdo hdv (by rw [hy.r1]; omega) ht hy.v2 hn;rw [show m + lp + 1 = L1 by omega, hL0, hdt, hhd] at gs;obtain ⟨u, hu'⟩ : ∃ u, gw R2 L0 = u := ⟨_, rfl⟩;obtain ⟨v, hv'⟩ : ∃ v, gw R2 L1 = v := ⟨_, rfl⟩;rw [hu'] at hg0 hu gs;rw [hv'] at hg1 hv gs;have hvH : v * HB < W := by show v * HB < HB * HB; exact Nat.mul_lt_mul_of_pos_right hv HB_pos
       have hvH2 : u + v * HB < W := by unfold HB W at *; omega
       obtain ⟨t, ht⟩ : ∃ t, u + v * HB = t := ⟨_, rfl⟩;rw [ht] at hvH2;obtain ⟨n, hn⟩ : ∃ n, t / hd = n := ⟨_, rfl⟩;obtain ⟨gs1, gs2⟩ := gs t n ht hn;clear gs;have hhd0 : ¬ hd = 0 := by omega
       refine goW ?_;refine rW [] ?_;refine dW ?_;refine dW ?_;refine dW ?_;refine dW ?_;refine dE ((sumI (a := m) (b := lb) (by omega)).trans (by rw [hL1])) ?_;refine dE ((predN (a := L1) (by omega) (by omega)).trans (by rw [hL10])) ?_;refine dW ?_;refine dW ?_;refine dW ?_;refine eW ?_;refine goW ?_;refine rW [] ?_;refine dW ?_;refine dW ?_;refine dW ?_;refine dE ((sumI (a := m) (b := lb) (by omega)).trans (by rw [hL1])) ?_;refine dW ?_;refine dW ?_;refine dB true ?_;refine eW ?_;refine goW ?_;refine ctW ?_;refine goW ?_;refine rW [] ?_;refine dW ?_;refine dW ?_;refine dW ?_;refine dW ?_;refine dW ?_;refine dE ((sumI (a := m) (b := lb) (by omega)).trans (by rw [hL1])) ?_;refine dW ?_;refine dW ?_;refine dE (mulHB (a := v) hvH) ?_;refine dE ((addB (a := u) (b := v * HB) (by rw [ht]; exact hvH2)).trans (by rw [ht])) ?_;refine dW ?_;refine eW ?_;refine goW ?_;refine rW [] ?_;refine dW ?_;refine dW ?_;refine dE ((quoV (a := t) (b := hd) hvH2 (by omega)).trans (by rw [hn])) ?_;refine dW ?_;refine eW ?_;refine nextW (seqW (joinW (X := Nat) (fun n' => 1 <= n' /\ HB ^ m * (n' * D) <= bval R2 /\ n' < HB) (fun n' => [(13, .int .u64 (n' : Int)), (11, .int .i64 (m : Int)), (10, .int .u64 (hd : Int)), (9, .slice (some ⟨gq, 0, none⟩) K K), (8, .slice (some ⟨gd, 0, none⟩) lb (lb + 1)), (7, .slice (some ⟨gr, 0, none⟩) N N), (6, .int .u64 (f : Int))]) (fun _ => [.row gq 92 (Q2.map wv), .row gr 92 (R2.map wv), .wat (some ⟨gd, 0, none⟩) ds]) ?_ fun n' hz => ?_))
       · refine goW ?_;refine rW [] ?_;refine dW ?_;refine dW ?_;refine eW ?_;refine goW ?_;refine condW (fun h => ?_) (fun h => ?_)
         · have h : n = 0 := by
            have h : (n : Int) = 0 := by simpa using h
            omega
           subst h;refine goW ?_;refine rW [] ?_;refine dW ?_;refine dW ?_;refine dW ?_;refine cV (v := .bool (decide (HB ^ m * D <= bval R2))) (fun w' H => (TGoes_c (some ⟨gr, 0, none⟩) N N R2 (some ⟨gd, 0, none⟩) lb (lb + 1) m ds w' (RowAt.wat H.m1 hy.r2.ok) H.m2 hy.r2 hdo hy.r1.symm hdl.symm (by omega) (by omega) (Nat.lt_of_lt_of_le hy.v2 (by rw [show m + lb + 1 = lb + (m + 1) by omega, Nat.pow_add HB lb]; exact Nat.mul_le_mul_right _ (Nat.le_of_lt hDl)))).mono (by rintro e w2 ⟨rfl, hb⟩; exact ⟨by rw [hdv], hb⟩)) ?_;refine dW ?_;refine eW ?_;refine goW ?_;refine rW [] ?_;refine dW ?_;refine dW ?_;refine eW ?_;refine goW ?_;refine condW (fun h => ?_) (fun h => ?_)
           · have hlt : bval R2 < HB ^ m * D := by simpa using h
             refine goW ?_;refine rW [] ?_;refine dW ?_;refine dE (v := .int .i64 ((m : Int) - 1)) (predI m (by omega)) ?_;refine dW ?_;refine eW ?_;exact backW (⟨m, Q2, R2⟩ : DvX) ⟨hy.out (by omega) hlt, Nat.lt_succ_self m⟩
           · have hge : HB ^ m * D <= bval R2 := by simpa using h
             refine goW ?_;refine rW [] ?_;refine dW ?_;refine eW ?_;exact joinE 1 ⟨Nat.le_refl _, by rw [Nat.one_mul]; exact hge, by decide⟩
         · have h : n ≠ 0 := by
            have h : ¬ (n : Int) = 0 := by simpa using h
            omega
           refine skipW ?_;exact joinE n ⟨by omega, gs1, gs2⟩
       · obtain ⟨hz1, hz2, hz3⟩ := hz;have hne : ∃ R' : List Nat, R'.length = N /\ BOk R' /\ bval R' + HB ^ m * (n' * D) = bval R2 := by
          have hlt := bval_lt hy.r2;rw [hy.r1] at hlt;obtain ⟨l, h1, h2, h3⟩ := bval_ex N (bval R2 - HB ^ m * (n' * D)) (by omega);exact ⟨l, h1, h2, by omega⟩
         refine goW ?_;refine rW [] ?_;refine dW ?_;refine dW ?_;refine dW ?_;refine dW ?_;refine cU (α := {R' : List Nat // R'.length = N /\ BOk R' /\ bval R' + HB ^ m * (n' * D) = bval R2}) (mk := fun _ => .tuple #[]) (cs' := fun p => p.1.map wv) (fun w' H => (TTakeOff_c gr N N R2 (some ⟨gd, 0, none⟩) lb (lb + 1) n' m ds w' H.m1 H.m2 (fun _ o e hb => by
          cases e;exact H.apart (e := .row gr 92 (R2.map wv)) (e1 := .wat (some ⟨gd, 0, none⟩) ds) mm1 mm2 rfl rfl (b := gr) rfl ⟨by omega, 0, by rw [show gd = gr from hb]⟩) hy.r2 hdo hy.r1 hdl.symm hz3 (by omega) (by omega) (by omega) (by rw [hdv]; exact hz2)).mono (by
          rintro e w2 ⟨R', rfl, h1, h2, h3, h4, h5⟩;exact ⟨⟨R', h1, h2, by rw [hdv] at h3; exact h3⟩, rfl, h5, h4⟩)) (fun R' => ?_) (by obtain ⟨l, h⟩ := hne; exact ⟨⟨l, h⟩⟩)
         obtain ⟨R3, h1, h2, h3⟩ := R';obtain ⟨nx1, nx2⟩ := hy.next (by omega) h1 h2 h3 hD0;refine eW ?_;have hmQ := gw_some (ws := Q2) (i := m) (by rw [hy.q1]; omega);obtain ⟨v2, hv2⟩ : ∃ v2, gw Q2 m = v2 := ⟨_, rfl⟩;rw [hv2] at hmQ nx1 nx2;have hmK' : (m : Int) < (K : Int) := by omega
         refine goW ?_;refine rW [] ?_;refine dW ?_;refine dW ?_;refine dW ?_;refine dW ?_;refine dW ?_;refine dW ?_;refine dW ?_;refine dE (addB (a := v2) (b := n') (by omega)) ?_;refine dW ?_;refine sU m (v2 + n') (by rw [hy.q1]; omega) rfl (k' := ?_);refine eW ?_;refine goW ?_;exact backW (⟨m, Q2.set m (v2 + n'), R3⟩ : DvX) ⟨nx2, by
          show bval R3 < bval R2;have : 0 < HB ^ m * (n' * D) := Nat.mul_pos (Nat.pow_pos HB_pos) (Nat.mul_pos hz1 hD0);omega⟩
attribute [local go_sem] wv
theorem Bex.ex (n : Nat) : ∃ ds, Bex n ds := by
 obtain ⟨l, _, h2, h3⟩ := bval_ex n n (Nat.lt_pow_self (show 1 < HB by decide));exact ⟨_, h3 ▸ Bex.of h2⟩
theorem Bex.halves {ws ds : List Nat} (hw : Ok ws) (h : Bex (nval ws) ds) : ds.length <= 2 * ws.length := by
 rcases Nat.eq_zero_or_pos ds.length with h0 | h0
 · omega
 · have h1 := h.top h0;have h2 := spb_val hw;have h3 := bval_lt (spb_ok ws);rw [h2, spb_length] at h3;have := (Nat.pow_lt_pow_iff_right (show 1 < HB by decide)).1 (Nat.lt_of_le_of_lt h1 h3);omega
section
variable {P : Program} {ops : Array Oper} {Q : Exit -> Act -> World -> Prop} {S0 : Nat -> Prop} {w0 : World} {E0 : List En} {hd : List (List Nat)} {n j s : Nat} {l : List Nat} {G E : List En} {ls : List (Nat × Value)} {op : Op} {ty : TypeId} {pos : String} {af : Array Edge} {f : FuncId} {args : Array Value}
theorem cHv {ao : Option Addr} {cap : Nat} {ws : List Nat} (hw : ∀ w, Fr S0 w0 w (G ++ E) -> WAt w ao ws) (hok : Ok ws) (hcap : ws.length <= cap) (hm : ws.length <= 8796093022208)
 (k : ∀ g c ds, Bex (nval ws) ds -> ds.length <= c -> c <= 35184372088832 -> ds.length <= 17592186044416 -> RWs ⟨Tryz.prog, ops, Q, S0, w0, E0, hd⟩ n l (.wat (some ⟨g, 0, none⟩) ds :: G) E ((s, .slice (some ⟨g, 0, none⟩) ds.length c) :: ls))
 (ho : ops[j]? = some ⟨some s, op, ty, pos, af, none⟩ := by rfl) (hk : (!isDet op && !isNew op && chkO ls op && Nat.blt s n) = true := by kernel_rfl)
 (hr : ∀ w, (execOp (evl ls) ⟨some s, op, ty, pos, af, none⟩).run Tryz.prog w = .ok (.enter 151 #[.slice ao ws.length cap]) w := by intro w; (try simp only [av]); go_simp <;> with_reducible rfl)
 (hst : okSt ops hd j [] = true := by kernel_rfl) : RWs ⟨Tryz.prog, ops, Q, S0, w0, E0, hd⟩ n (j :: l) G E ls := by
 refine cG (α := {p : Nat × Nat × List Nat // Bex (nval ws) p.2.2 /\ p.2.2.length <= p.2.1 /\ p.2.1 <= 35184372088832}) (mk := fun p => .slice (some ⟨p.1.1, 0, none⟩) p.1.2.2.length p.1.2.1) (ens := fun p => [.wat (some ⟨p.1.1, 0, none⟩) p.1.2.2]) (fun w H => (THalves_c ao ws.length cap ws w (hw w H) rfl hcap (by omega)).mono ?_) (fun p => k p.1.1 p.1.2.1 p.1.2.2 p.2.1 p.2.2.1 p.2.2.2 (by have := p.2.1.halves hok; omega)) ho hk hr ?_ hst
 · rintro e w' ⟨⟨b, ds, c, rfl, h1, h2, h3, h4, h5⟩, hb⟩;refine ⟨⟨(b, c, ds), h4, h2, h3⟩, rfl, hb, fun e he => ?_, List.pairwise_singleton ..⟩;rcases List.mem_singleton.1 he with rfl;refine ⟨?_, fun b' ⟨_, o, e⟩ => by cases e; exact h1⟩;have := (RowAt.wat h5 (BOk.append h4.ok (BOk.replicate _)).ok).take ds.length;rw [List.take_left'  rfl] at this;exact this
 · obtain ⟨ds, h⟩ := Bex.ex (nval ws);exact ⟨⟨(0, ds.length, ds), h, Nat.le_refl _, by show ds.length <= _; have := h.halves hok; omega⟩⟩
theorem cDv {ao bo : Option Addr} {A B ca cb : Nat} {xs ys : List Nat} (hA : ∀ w, Fr S0 w0 w (G ++ E) -> WAt w ao xs) (hB : ∀ w, Fr S0 w0 w (G ++ E) -> WAt w bo ys) (eA : Bex A xs) (eB : Bex B ys) (lA : xs.length <= ca) (lB : ys.length <= cb) (cA : ca <= 35184372088832) (cB : cb <= 35184372088832) (hx : xs.length <= 17592186044416) (hy : ys.length <= 17592186044416) (h0 : 0 < ys.length) (hm : En.wat ao xs ∈ G ++ E)
 (k : ∀ qo cq Qs ro cr Rs, Bex (A / B) Qs -> Bex (A % B) Rs -> Qs.length <= cq -> cq <= 35184372088832 -> Rs.length <= cr -> cr <= 35184372088832 -> RWs ⟨Tryz.prog, ops, Q, S0, w0, E0, hd⟩ n l (.wat qo Qs :: .wat ro Rs :: G) E ((s, .tuple #[.slice qo Qs.length cq, .slice ro Rs.length cr]) :: ls))
 (ho : ops[j]? = some ⟨some s, op, ty, pos, af, none⟩ := by rfl) (hk : (!isDet op && !isNew op && chkO ls op && Nat.blt s n) = true := by kernel_rfl)
 (hr : ∀ w, (execOp (evl ls) ⟨some s, op, ty, pos, af, none⟩).run Tryz.prog w = .ok (.enter 152 #[.slice ao xs.length ca, .slice bo ys.length cb]) w := by intro w; (try simp only [av]); go_simp <;> with_reducible rfl)
 (hst : okSt ops hd j [] = true := by kernel_rfl) : RWs ⟨Tryz.prog, ops, Q, S0, w0, E0, hd⟩ n (j :: l) G E ls := by
 refine cR (α := {p : (Option Addr × Nat × List Nat) × (Option Addr × Nat × List Nat) // (Bex (A / B) p.1.2.2 /\ Bex (A % B) p.2.2.2) /\ (p.1.2.2.length <= p.1.2.1 /\ p.1.2.1 <= 35184372088832) /\ p.2.2.2.length <= p.2.2.1 /\ p.2.2.1 <= 35184372088832})
  (mk := fun p => .tuple #[.slice p.1.1.1 p.1.1.2.2.length p.1.1.2.1, .slice p.1.2.1 p.1.2.2.2.length p.1.2.2.1]) (ens := fun p => [.wat p.1.1.1 p.1.1.2.2, .wat p.1.2.1 p.1.2.2.2])
  (fun w H => (TDivide_c A B ao bo ca cb xs ys w ⟨hA w H, eA, lA, cA⟩ ⟨hB w H, eB, lB, cB⟩ hx hy h0).mono ?_) (fun p => k _ _ _ _ _ _ p.2.1.1 p.2.1.2 p.2.2.1.1 p.2.2.1.2 p.2.2.2.1 p.2.2.2.2) ho hk hr ?_ hst
 · rintro e w' ⟨⟨qo, cq, Qs, ro, cr, Rs, rfl, h1, h2, h3, h4⟩, hb⟩;refine ⟨⟨((qo, cq, Qs), (ro, cr, Rs)), ⟨h1.ex, h2.ex⟩, ⟨h1.le, h1.cap⟩, h2.le, h2.cap⟩, rfl, hb, fun e he => ?_⟩;rcases List.mem_cons.1 he with rfl | he
   · exact ⟨h1.at_, rfl, fun b ⟨_, o, e⟩ => .inl (h3 b o e)⟩
   · rcases List.mem_singleton.1 he with rfl;refine ⟨h2.at_, rfl, fun b ⟨hl, o, e⟩ => ?_⟩;rcases h4 with h4 | ⟨h4, h5⟩
     · exact .inl (h4 b o e)
     · have h4 : ro = ao := h4;have h5 : Rs = xs := h5;exact .inr ⟨.wat ao xs, hm, rfl, by subst h4 h5; exact ⟨hl, o, e⟩⟩
 · obtain ⟨d1, h1⟩ := Bex.ex (A / B);obtain ⟨d2, h2⟩ := Bex.ex (A % B);have b1 : d1.length <= xs.length := by
    rcases Nat.lt_or_ge xs.length d1.length with h | h
    · have := eA.shorter h1 h;have := Nat.div_le_self A B;omega
    · exact h
   have b2 : d2.length <= xs.length := by
    rcases Nat.lt_or_ge xs.length d2.length with h | h
    · have := eA.shorter h2 h;have := Nat.mod_le A B;omega
    · exact h
   exact ⟨⟨((none, d1.length, d1), (none, d2.length, d2)), ⟨h1, h2⟩, ⟨Nat.le_refl _, Nat.le_trans b1 (by omega)⟩, Nat.le_refl _, Nat.le_trans b2 (by omega)⟩⟩
theorem cWo {ao : Option Addr} {cap m : Nat} {ds : List Nat} (hw : ∀ w, Fr S0 w0 w (G ++ E) -> WAt w ao ds) (hx : Bex m ds) (hc : ds.length <= cap) (hm : cap <= 35184372088832)
 (k : ∀ o c, RWs ⟨Tryz.prog, ops, Q, S0, w0, E0, hd⟩ n l (.ow w0.heap.size o m c :: G) E ((s, .slice o (wlen m) c) :: ls))
 (ho : ops[j]? = some ⟨some s, op, ty, pos, af, none⟩ := by rfl) (hk : (!isDet op && !isNew op && chkO ls op && Nat.blt s n) = true := by kernel_rfl)
 (hr : ∀ w, (execOp (evl ls) ⟨some s, op, ty, pos, af, none⟩).run Tryz.prog w = .ok (.enter 153 #[.slice ao ds.length cap]) w := by intro w; (try simp only [av]); go_simp <;> with_reducible rfl)
 (hst : okSt ops hd j [] = true := by kernel_rfl) : RWs ⟨Tryz.prog, ops, Q, S0, w0, E0, hd⟩ n (j :: l) G E ls := by
 refine cG (α := Option Addr × Nat) (mk := fun p => .slice p.1 (wlen m) p.2) (ens := fun p => [.ow w0.heap.size p.1 m p.2]) (fun w H => (TWords_c ao ds.length cap m ds w (hw w H) hx.ok hx.val rfl hc hm).mono (by
  rintro e w' ⟨⟨o, c, rfl, h1⟩, hb⟩;refine ⟨(o, c), rfl, hb, fun e he => ?_, List.pairwise_singleton ..⟩;rcases List.mem_singleton.1 he with rfl;exact ⟨h1.mono H.size, fun _ h => h.elim⟩)) (fun p => k p.1 p.2) ho hk hr ⟨(none, 0)⟩ hst
end
set_option maxRecDepth 100000 in
set_option maxHeartbeats 4000000 in
theorem TDivMod_c (ao bo : Option Addr) (la lb ca cb : Nat) (us vs : List Nat) (w : World) (hA : WAt w ao us) (hB : WAt w bo vs) (hla : la = us.length) (hlb : lb = vs.length) (hca : la <= ca) (hcb : lb <= cb) (hma : la <= 8796093022208) (hmb : lb <= 8796093022208) (h0 : nval vs ≠ 0) :
 Calls Tryz.prog 190 #[.slice ao la ca, .slice bo lb cb] w fun e w' => (∃ aq cq ar cr, e = .returned (.tuple #[.slice aq (wlen (nval us / nval vs)) cq, .slice ar (wlen (nval us % nval vs)) cr, .int .i64 0]) /\ OwnW w' w.heap.size aq (wlen (nval us / nval vs)) cq (dig (nval us / nval vs)) /\ OwnW w' w.heap.size ar (wlen (nval us % nval vs)) cr (dig (nval us % nval vs))) /\ Below w.heap.size w w' := by
 subst hla hlb;refine funW (S0 := fun _ => False) Tryz.func190 (Fr.nil _ w) ?_;refine goW ?_;refine rW [] ?_;refine dW ?_;refine dW ?_;refine dW ?_;refine eW ?_;refine goW ?_;refine rW [] ?_;refine dW ?_;refine cHv (fun w' H => hB.below H.below) hB.ok hcb hmb fun g7 c7 ys hy hy1 hy2 hy3 => ?_;refine dW ?_;refine eW ?_;have hy0 : 0 < ys.length := by have := hy.zero; omega
 have hy0' : ¬ ys.length = 0 := by omega
 refine goW ?_;refine rW [] ?_;refine dW ?_;refine dW ?_;refine dB false ?_;refine eW ?_;refine goW ?_;refine cfW ?_;refine goW ?_;refine rW [] ?_;refine dW ?_;refine cHv (fun w' H => hA.below H.below) hA.ok hca hma fun g8 c8 xs hx hx1 hx2 hx3 => ?_;refine dW ?_;refine eW ?_;refine goW ?_;refine rW [] ?_;refine dW ?_;refine dW ?_;refine cDv (fun w' H => H.m0) (fun w' H => H.m1) hx hy hx1 hy1 hx2 hy2 hx3 hy3 hy0 (List.mem_cons_self ..) fun qo cq Qs ro cr Rs hq hr hq1 hq2 hr1 hr2 => ?_;refine dW ?_;refine dW ?_;refine dW ?_;refine dW ?_;refine dW ?_;refine eW ?_;refine goW ?_;refine rW [] ?_;refine dW ?_;refine cWo (fun w' H => H.m0) hq hq1 hq2 fun o1 c1 => ?_;refine dW ?_;refine cWo (fun w' H => H.m2) hr hr1 hr2 fun o2 c2 => ?_;refine dW ?_;refine dW ?_;refine dW ?_;refine eW ?_;refine goW ?_;refine fin3 (fun w' H => ?_);exact ⟨_, _, _, rvT, rvT, rvT, ⟨o1, c1, o2, c2, rfl, H.m1, H.m0⟩, H.below⟩
attribute [local go_sem] wv
structure GdX where
 xo : Option Addr
 cx : Nat
 xs : List Nat
 yo : Option Addr
 cy : Nat
 ys : List Nat
structure GdI (g : Nat) (z : GdX) : Prop where
 x1 : Bex (bval z.xs) z.xs
 x2 : z.xs.length <= z.cx
 x3 : z.cx <= 35184372088832
 x4 : z.xs.length <= 17592186044416
 y1 : Bex (bval z.ys) z.ys
 y2 : z.ys.length <= z.cy
 y3 : z.cy <= 35184372088832
 y4 : z.ys.length <= 17592186044416
 gcd : Nat.gcd (bval z.xs) (bval z.ys) = g
theorem Bex.self {n : Nat} {ds : List Nat} (h : Bex n ds) : Bex (bval ds) ds := ⟨h.ok, h.trim, rfl⟩
set_option maxRecDepth 100000 in
set_option maxHeartbeats 4000000 in
theorem TGcd_c (ao bo : Option Addr) (la lb ca cb : Nat) (us vs : List Nat) (w : World) (hA : WAt w ao us) (hB : WAt w bo vs) (hla : la = us.length) (hlb : lb = vs.length) (hca : la <= ca) (hcb : lb <= cb) (hma : la <= 8796093022208) (hmb : lb <= 8796093022208) :
 Calls Tryz.prog 102 #[.slice ao la ca, .slice bo lb cb] w fun e w' => (∃ o c, e = .returned (.slice o (wlen (Nat.gcd (nval us) (nval vs))) c) /\ OwnW w' w.heap.size o (wlen (Nat.gcd (nval us) (nval vs))) c (dig (Nat.gcd (nval us) (nval vs)))) /\ Below w.heap.size w w' := by
 subst hla hlb;obtain ⟨g, hg⟩ : ∃ g, Nat.gcd (nval us) (nval vs) = g := ⟨_, rfl⟩;rw [hg];refine funW (S0 := fun _ => False) Tryz.func102 (Fr.nil _ w) ?_;refine goW ?_;refine rW [] ?_;refine dW ?_;refine eW ?_;refine goW ?_;refine rW [] ?_;refine dW ?_;refine cHv (fun w' H => hA.below H.below) hA.ok hca hma fun g5 c5 xs hx hx1 hx2 hx3 => ?_;refine dW ?_;refine eW ?_;refine goW ?_;refine rW [] ?_;refine dW ?_;refine cHv (fun w' H => hB.below H.below) hB.ok hcb hmb fun g6 c6 ys hy hy1 hy2 hy3 => ?_;refine dW ?_;refine eW ?_;refine goW ?_;refine loopW (X := GdX) (GdI g) (fun z => bval z.ys) (fun z => [(6, .slice z.yo z.ys.length z.cy), (5, .slice z.xo z.xs.length z.cx)]) (fun z => [.wat z.xo z.xs, .wat z.yo z.ys]) ⟨some ⟨g5, 0, none⟩, c5, xs, some ⟨g6, 0, none⟩, c6, ys⟩ ⟨hx.self, hx1, hx2, hx3, hy.self, hy1, hy2, hy3, by rw [hx.val, hy.val]; exact hg⟩ fun z hz => ?_;obtain ⟨xo, cx, xs, yo, cy, ys⟩ := z;obtain ⟨x1, x2, x3, x4, y1, y2, y3, y4, hgcd⟩ := hz;have x1 : Bex (bval xs) xs := x1;have y1 : Bex (bval ys) ys := y1;have hgcd : Nat.gcd (bval xs) (bval ys) = g := hgcd;have y4 : ys.length <= 17592186044416 := y4;by_cases h0 : 0 < ys.length
 · refine goW ?_;refine rW [] ?_;refine dW ?_;refine dW ?_;refine dB true ?_;refine eW ?_;refine goW ?_;refine ctW ?_;refine goW ?_;refine rW [] ?_;refine dW ?_;refine dW ?_;refine cDv (fun w' H => H.m0) (fun w' H => H.m1) x1 y1 x2 y2 x3 y3 x4 y4 h0 (List.mem_cons_self ..) fun qo cq Qs ro cr Rs hq hr hq1 hq2 hr1 hr2 => ?_;refine dW ?_;refine dW ?_;refine dW ?_;refine dW ?_;refine dW ?_;refine eW ?_;refine goW ?_;refine rW [] ?_;refine dW ?_;refine dW ?_;refine eW ?_;refine goW ?_;refine rW [] ?_;refine dW ?_;refine dW ?_;refine eW ?_;refine goW ?_;have hb0 : 0 < bval ys := by have := y1.zero; omega
   have hlt : bval Rs < bval ys := by rw [hr.val]; exact Nat.mod_lt _ hb0
   have hl4 : Rs.length <= ys.length := by
    rcases Nat.lt_or_ge ys.length Rs.length with h | h
    · have := y1.shorter hr.self h; omega
    · exact h
   exact backW (⟨yo, cy, ys, ro, cr, Rs⟩ : GdX) ⟨⟨y1, y2, y3, y4, hr.self, hr1, hr2, Nat.le_trans hl4 y4, by show Nat.gcd (bval ys) (bval Rs) = g; rw [hr.val, <- hgcd, Nat.gcd_comm (bval xs), Nat.gcd_rec (bval ys) (bval xs), Nat.gcd_comm]⟩, hlt⟩
 · have hy0 : ys.length = 0 := by omega
   have hb0 : bval ys = 0 := y1.zero.1 hy0;have e : bval xs = g := by rw [<- hgcd, hb0, Nat.gcd_zero_right]
   refine goW ?_;refine rW [] ?_;refine dW ?_;refine dW ?_;refine dB false ?_;refine eW ?_;refine goW ?_;refine cfW ?_;refine goW ?_;refine rW [] ?_;refine dW ?_;refine cWo (m := g) (fun w' H => H.m0) (e ▸ x1) x2 x3 fun o1 c1 => ?_;refine dW ?_;refine eW ?_;refine goW ?_;refine fin1 (fun w' H => ?_);exact ⟨_, rvT, ⟨o1, c1, rfl, H.m0⟩, H.below⟩
theorem madeW {B m cap : Nat} {ao : Option Addr} (n : Bool) {w : World} (hm : wlen m <= 8796093022208) (hB : B <= w.heap.size) (h : OwnW w B ao (wlen m) cap (dig m)) : Calls Tryz.prog 101 #[.bool n, .slice ao (wlen m) cap] w fun e w' => (∃ v, e = .returned v /\ OwnI w' B v (zi n m)) /\ Below w.heap.size w w' :=
 (RMade_c n ao (wlen m) cap (dig m) w h.at_ h.len hm).mono fun e w' ⟨⟨v, he, hv⟩, hb⟩ => ⟨⟨v, he, by rw [nval_dig] at hv; exact hv.mono hB⟩, hb⟩
set_option maxRecDepth 100000 in
set_option maxHeartbeats 1000000 in
theorem RTrunc_c (v u : Value) (x y : Int) (w : World) (hA : IntAt w 8796093022208 v x) (hB : IntAt w 8796093022208 u y) (hy : y ≠ 0) :
 Calls Tryz.prog 154 #[v, u] w fun e w' => (∃ v' u', e = .returned (.tuple #[v', u', .int .i64 0]) /\ OwnI w' w.heap.size v' (x.tdiv y) /\ OwnI w' w.heap.size u' (x.tmod y)) /\ Below w.heap.size w w' := by
 obtain ⟨n, ao, len, cap, ws, rfl, hW, hl, hL1, hc, hx⟩ := hA;obtain ⟨n2, ao2, len2, cap2, ws2, rfl, hW2, hl2, hL2, hc2, hx2⟩ := hB;have lq : wlen (nval ws / nval ws2) <= 8796093022208 := Nat.le_trans (wlen_mono (Nat.div_le_self ..)) (Nat.le_trans (wlen_nval_le hW.ok) (by omega));have lr : wlen (nval ws % nval ws2) <= 8796093022208 := Nat.le_trans (wlen_mono (Nat.mod_le ..)) (Nat.le_trans (wlen_nval_le hW.ok) (by omega));have h2 : nval ws2 ≠ 0 := fun h => hy (by rw [hx2, h]; cases n2 <;> rfl);rw [hx, hx2, <- zi_tdiv, <- zi_tmod (b := n2)];refine funW (S0 := fun _ => False) Tryz.func154 (Fr.nil _ w) ?_;refine goW ?_;refine rW [] ?_;refine aW fun g2 => ?_;refine aW fun g3 => ?_;refine aW fun g4 => ?_;refine aW fun g5 => ?_;refine dW ?_;refine eW ?_;refine goW ?_;refine rW [] ?_;refine dW ?_;refine dW ?_;refine dW ?_;refine dW ?_;refine cG (α := (Option Addr × Nat) × Option Addr × Nat) (mk := fun p => .tuple #[.slice p.1.1 (wlen (nval ws / nval ws2)) p.1.2, .slice p.2.1 (wlen (nval ws % nval ws2)) p.2.2, .int .i64 0]) (ens := fun p => [.ow w.heap.size p.1.1 (nval ws / nval ws2) p.1.2, .ow w.heap.size p.2.1 (nval ws % nval ws2) p.2.2])
  (fun w' H => (TDivMod_c ao ao2 len len2 cap cap2 ws ws2 w' (hW.below H.below) (hW2.below H.below) hl hl2 hc hc2 (by omega) (by omega) h2).mono ?_) ?_
 · rintro e w3 ⟨⟨aq, cq, ar, cr, rfl, h1, h3⟩, hb⟩;exact ⟨⟨(aq, cq), (ar, cr)⟩, rfl, hb, fun e he => by
    rcases List.mem_cons.1 he with rfl | he
    · exact ⟨h1.mono H.size, fun _ h => h.elim⟩
    · rcases List.mem_singleton.1 he with rfl;exact ⟨h3.mono H.size, fun _ h => h.elim⟩, List.pairwise_pair.2 ⟨(fun h => nomatch h), (fun h => nomatch h)⟩⟩
 rintro ⟨⟨aq, cq⟩, ar, cr⟩;refine dW ?_;refine dW ?_;refine dW ?_;refine dW ?_;refine dW ?_;refine dW ?_;refine dW ?_;refine eW ?_;refine goW ?_;refine rW [] ?_;refine dW ?_;refine dW ?_;refine eW ?_;refine goW ?_;refine cfW ?_;refine goW ?_;refine rW [] ?_;refine dW ?_;refine dW ?_;refine dW ?_;refine dW ?_;refine dW ?_;refine dW ?_;refine cNo (fun w' H => madeW (!(n == n2)) lq H.size H.m0) fun p1 => ?_;refine dW ?_;refine dW ?_;refine dW ?_;refine cNo (fun w' H => madeW n lr H.size H.m2) fun p2 => ?_;refine sW ?_;refine sW ?_;refine dW ?_;refine eW ?_;refine goW ?_;refine fin3 fun w' H => ?_;exact ⟨_, _, _, rvI H.m5, rvI H.m4, rvT, ⟨_, _, rfl, H.m1, H.m0⟩, H.below⟩
set_option maxRecDepth 100000 in
set_option maxHeartbeats 1000000 in
theorem RGcd_c (v u : Value) (x y : Int) (w : World) (hA : IntAt w 8796093022208 v x) (hB : IntAt w 8796093022208 u y) :
 Calls Tryz.prog 48 #[v, u] w fun e w' => (∃ v', e = .returned v' /\ OwnI w' w.heap.size v' (Int.gcd x y : Int)) /\ Below w.heap.size w w' := by
 obtain ⟨n, ao, len, cap, ws, rfl, hW, hl, hL1, hc, hx⟩ := hA;obtain ⟨n2, ao2, len2, cap2, ws2, rfl, hW2, hl2, hL2, hc2, hx2⟩ := hB;have hg : Int.gcd x y = Nat.gcd (nval ws) (nval ws2) := by rw [hx, hx2]; unfold Int.gcd; rw [zi_abs, zi_abs]
 rw [hg];refine funW (S0 := fun _ => False) Tryz.func48 (Fr.nil _ w) ?_;refine goW ?_;refine rW [] ?_;refine aW fun g2 => ?_;refine aW fun g3 => ?_;refine aW fun g4 => ?_;refine eW ?_;refine goW ?_;refine rW [] ?_;refine dW ?_;refine dW ?_;refine dW ?_;refine dW ?_;refine cG (α := Option Addr × Nat) (mk := fun p => .slice p.1 (wlen (Nat.gcd (nval ws) (nval ws2))) p.2) (ens := fun p => [.ow w.heap.size p.1 (Nat.gcd (nval ws) (nval ws2)) p.2])
  (fun w' H => (TGcd_c ao ao2 len len2 cap cap2 ws ws2 w' (hW.below H.below) (hW2.below H.below) hl hl2 hc hc2 (by omega) (by omega)).mono (by
   rintro e w3 ⟨⟨o, c, rfl, h1⟩, hb⟩;exact ⟨(o, c), rfl, hb, fun e he => by
    rcases List.mem_singleton.1 he with rfl;exact ⟨h1.mono H.size, fun _ h => h.elim⟩, List.pairwise_singleton ..⟩)) ?_
 rintro ⟨o, c⟩;refine dW ?_;refine eW ?_;refine goW ?_;refine rW [] ?_;refine dW ?_;refine dW ?_;refine sW ?_;refine eW ?_;refine goW ?_;refine fin1 fun w' H => ?_;exact ⟨_, rvI H.m1, ⟨_, rfl, ow_own H.m0⟩, H.below⟩
set_option maxRecDepth 100000 in
set_option maxHeartbeats 1000000 in
theorem RAbs_c (v : Value) (x : Int) (w : World) (hA : IntAt w 8796093022208 v x) :
 Calls Tryz.prog 47 #[v] w fun e w' => (∃ v', e = .returned v' /\ OwnI w' w.heap.size v' ((x.natAbs : Nat) : Int)) /\ Below w.heap.size w w' := by
 obtain ⟨n, ao, len, cap, ws, rfl, hW, hl, hL1, hc, hx⟩ := hA;have hv : x.natAbs = nval ws := by rw [hx, zi_abs]
 rw [hv];refine funW (S0 := fun _ => False) Tryz.func47 (Fr.nil _ w) ?_;refine goW ?_;refine rW [] ?_;refine aW fun g1 => ?_;refine aW fun g2 => ?_;refine eW ?_;refine goW ?_;refine rW [] ?_;refine dW ?_;refine dW ?_;refine cN (fun w' H => RMade_c false ao len cap ws w' (hW.below H.below) hl hL1) fun p5 => ?_;refine sW ?_;refine eW ?_;refine goW ?_;refine fin1 fun w' H => ?_;exact ⟨_, rvI H.m1, ⟨_, rfl, H.m0⟩, H.below⟩
set_option maxRecDepth 100000 in
set_option maxHeartbeats 1000000 in
theorem RExact_c (v u : Value) (x y : Int) (w : World) (hA : IntAt w 8796093022208 v x) (hB : IntAt w 8796093022208 u y) (hy : y ≠ 0) (hd : y ∣ x) :
 Calls Tryz.prog 103 #[v, u] w fun e w' => (∃ v', e = .returned (.tuple #[v', .int .i64 0]) /\ OwnI w' w.heap.size v' (x / y)) /\ Below w.heap.size w w' := by
 obtain ⟨p, rfl⟩ := hA.parts;obtain ⟨q, rfl⟩ := hB.parts;have hq : x.tdiv y = x / y := Int.tdiv_eq_ediv_of_dvd hd;have hr : x.tmod y = 0 := Int.tmod_eq_zero_of_dvd hd;refine funW (S0 := fun _ => False) Tryz.func103 (((Fr.nil _ w).i hB).i hA) ?_;refine goW ?_;refine rW [] ?_;refine aW fun g2 => ?_;refine aW fun g3 => ?_;refine aW fun g4 => ?_;refine dW ?_;refine eW ?_;refine goW ?_;refine rW [] ?_;refine dW ?_;refine dW ?_;refine cN2 (x := x / y) (y := 0) (fun w H => by have := RTrunc_c _ _ x y w H.m3 H.m4 hy; rw [hq, hr] at this; exact this) fun p12 p13 => ?_;refine dW ?_;refine dW ?_;refine dW ?_;refine dW ?_;refine aW fun g6 => ?_;refine aW fun g7 => ?_;refine sG ?_;refine sG ?_;refine dW ?_;refine eW ?_;refine goW ?_;refine rW [] ?_;refine dW ?_;refine dW ?_;refine eW ?_;refine goW ?_;refine cfW ?_;refine goW ?_;refine rW [] ?_;refine dW ?_;refine cV (fun w H => RSign_c _ 0 0 w (OwnI.int H.m3 (by simp [wlen_zero])) (by omega)) ?_;refine dB false ?_;refine eW ?_;refine goW ?_;refine cfW ?_;refine goW ?_;refine rW [] ?_;refine dW ?_;refine sW ?_;refine dW ?_;refine eW ?_;refine goW ?_;refine fin2 fun w' H => ?_;exact ⟨_, _, rvI H.m4, rvT, ⟨_, rfl, H.m2⟩, H.below⟩
theorem lcm_ref {x y : Int} : (Int.gcd x y : Int) ∣ x * y /\ ((x * y / (Int.gcd x y : Int)).natAbs : Int) = (Int.lcm x y : Int) := by
 have hd : (Int.gcd x y : Int) ∣ x := Int.gcd_dvd_left ..;refine ⟨Int.dvd_trans hd (Int.dvd_mul_right ..), ?_⟩;congr 1;rw [Int.natAbs_ediv_of_dvd (Int.dvd_trans hd (Int.dvd_mul_right ..)), Int.natAbs_mul, Int.natAbs_natCast];rfl
set_option maxRecDepth 100000 in
set_option maxHeartbeats 1000000 in
theorem RLcm_c (v u : Value) (x y : Int) (L : Nat) (w : World) (hA : IntAt w L v x) (hB : IntAt w L u y) (hL : L <= 1099511627776) :
 Calls Tryz.prog 49 #[v, u] w fun e w' => (∃ v', e = .returned v' /\ OwnI w' w.heap.size v' (Int.lcm x y : Int)) /\ Below w.heap.size w w' := by
 have hlx := hA.wlen;have hly := hB.wlen;obtain ⟨p, rfl⟩ := hA.parts;obtain ⟨q, rfl⟩ := hB.parts;obtain ⟨hd, hlc⟩ := lcm_ref (x := x) (y := y);have h00 : Int.gcd x y = 0 -> Int.lcm x y = 0 := fun h => by
  have h1 := (Int.gcd_eq_zero_iff.1 h).1;subst h1; simp
 have hgl : wlen (Int.gcd x y) <= 8796093022208 := by
  rcases Nat.eq_zero_or_pos x.natAbs with h | h
  · have : x = 0 := by omega
    subst this;rw [Int.gcd_zero_left]; omega
  · exact Nat.le_trans (wlen_mono (Nat.gcd_le_left _ h)) (by omega)
 have hml : wlen (x * y).natAbs <= 8796093022208 := by
  rw [Int.natAbs_mul]; exact Nat.le_trans (wlen_mul ..) (by omega)
 have hql : wlen (x * y / (Int.gcd x y : Int)).natAbs <= 8796093022208 := Nat.le_trans (wlen_mono (by rw [Int.natAbs_ediv_of_dvd hd]; exact Nat.div_le_self ..)) hml;have hgd : (decide (((Int.gcd x y : Nat) : Int) < 0)) = false := by simp
 refine funW (S0 := fun _ => False) Tryz.func49 (((Fr.nil _ w).i hB).i hA) ?_;refine goW ?_;refine rW [] ?_;refine aW fun g2 => ?_;refine aW fun g3 => ?_;refine aW fun g4 => ?_;refine eW ?_;refine goW ?_;refine rW [] ?_;refine dW ?_;refine dW ?_;obtain ⟨g, hg⟩ : ∃ g : Nat, Int.gcd x y = g := ⟨_, rfl⟩;rw [hg] at hd hlc h00 hgl hql hgd;refine cG (α := Bool × Option Addr × Nat) (mk := fun p => .agg #[.bool p.1, .slice p.2.1 (wlen g) p.2.2]) (ens := fun p => [.own w.heap.size (.agg #[.bool p.1, .slice p.2.1 (wlen g) p.2.2]) (g : Int)]) (fun w' H => (RGcd_c _ _ x y w' (H.m3.mono (by omega)) (H.m4.mono (by omega))).mono (by
  rintro e w3 ⟨⟨v, rfl, hv⟩, hb⟩;rw [hg] at hv;have hv' := hv;obtain ⟨ao, cap, rfl, _⟩ := hv;exact ⟨(decide ((g : Int) < 0), ao, cap), rfl, hb, fun e he => by
   rcases List.mem_singleton.1 he with rfl;exact ⟨hv'.mono H.size, fun _ h => h.elim⟩, List.pairwise_singleton ..⟩)) ?_
 rintro ⟨b, ao, cap⟩;refine aW fun g5 => ?_;refine sG ?_;refine eW ?_;refine goW ?_;refine rW [] ?_;refine dW ?_;refine dW ?_;refine dW ?_;by_cases h0 : g = 0
 · rw [h00 h0];subst h0;rw [wlen_zero];refine dB true ?_;refine eW ?_;refine goW ?_;refine ctW ?_;refine goW ?_;refine rW [] ?_;refine dW ?_;refine sW ?_;refine eW ?_;refine goW ?_;refine fin1 fun w' H => ?_;exact ⟨_, rvI H.m2, ⟨_, rfl, OwnI.zero _ _⟩, H.below⟩
 · have hz : ¬ wlen g = 0 := fun h => h0 (wlen_eq_zero.1 h);rw [<- hlc];refine dB false ?_;refine eW ?_;refine goW ?_;refine cfW ?_;refine goW ?_;refine rW [] ?_;refine dW ?_;refine dW ?_;refine cN (fun w H => RMul_c _ _ x y L w H.m5 H.m6 hL) fun p19 => ?_;refine aW fun g6 => ?_;refine sG ?_;refine eW ?_;refine goW ?_;refine rW [] ?_;refine dW ?_;refine dW ?_;refine cN1 (fun w H => RExact_c _ _ (x * y) g w (OwnI.int H.m1 hml) (OwnI.int H.m3 hgl) (by omega) hd) fun p23 => ?_;refine dW ?_;refine dW ?_;refine dW ?_;refine aW fun g7 => ?_;refine sG ?_;refine dW ?_;refine eW ?_;refine goW ?_;refine rW [] ?_;refine dW ?_;refine cN (fun w H => RAbs_c _ _ w (OwnI.int H.m1 hql)) fun p27 => ?_;refine sW ?_;refine eW ?_;refine goW ?_;refine fin1 fun w' H => ?_;exact ⟨_, rvI H.m7, ⟨_, rfl, H.m0⟩, H.below⟩
theorem nt_snoc (l : List Nat) (x : Nat) : nt (l ++ [x]) = nt l ++ [(x : Int)] := by simp [nt]
theorem nt_abs (xs : List Int) (i : Nat) (h : i < xs.length) : ((xs.map Int.natAbs).getD i 0) = (gi xs i).natAbs := by
 rw [gi_eq h]; simp [h]
structure D1X where
 i : Nat
 ao : Option Addr
 cap : Nat
 ps : List P4
 cs : List Nat
structure D1I (ns : List Nat) (P n : Nat) (z : D1X) : Prop where
 hi : z.i <= n
 hp : z.ps.length = z.i
 hc : z.cs = chRef (ns.take z.i)
 hl : z.cs.length = z.i
 dv : ∀ y ∈ z.cs, Dv P y
structure D2X where
 j : Nat
 x : Nat
 xp : P4
 done : List Nat
 rest : List Nat
 ps : List P4
structure D2I (R : List Nat) (P i : Nat) (z : D2X) : Prop where
 hj : z.done.length = z.j
 hp : z.ps.length = i
 hl : (z.done ++ z.rest).length = i
 fin : z.done ++ chPut z.x z.rest = R
 dx : Dv P z.x
 dv : ∀ y ∈ z.done ++ z.rest, Dv P y
set_option maxRecDepth 100000 in
set_option maxHeartbeats 4000000 in
theorem RChain20_c (la : Option Addr) (ca L : Nat) (xs : List Int) (w : World) (hA : LsAt w L la xs) (hL : L <= 8796093022208) (hn : xs.length <= 100000000) (hP : wlen (prodNZ (xs.map Int.natAbs)) <= 1099511627776) :
 Calls Tryz.prog 13 #[.slice la xs.length ca] w fun e w' => (∃ ao cap, e = .returned (.slice ao xs.length cap) /\ LsN w' ao (nt (chRef (xs.map Int.natAbs))) /\ ∀ b o, ao = some ⟨b, o, none⟩ -> w.heap.size <= b) /\ Below w.heap.size w w' := by
 obtain ⟨ns, hns⟩ : ∃ ns, xs.map Int.natAbs = ns := ⟨_, rfl⟩;obtain ⟨n, hnn⟩ : ∃ n, xs.length = n := ⟨_, rfl⟩;have hnl : ns.length = n := by rw [<- hns, <- hnn]; simp
 have hdv0 : ∀ y ∈ ns, Dv (prodNZ ns) y := fun y hy => Dv.of_mem hy;have hP0 := prodNZ_pos ns;have habs : ∀ i, i < n -> ns.getD i 0 = (gi xs i).natAbs := fun i hi => by rw [<- hns]; exact nt_abs xs i (by omega)
 obtain ⟨P, hPP⟩ : ∃ P, prodNZ ns = P := ⟨_, rfl⟩;rw [hns, hPP] at hP;rw [hPP] at hdv0 hP0;rw [hns, hnn];rw [hnn] at hn;have HB : Hid (∀ y, Dv P y -> wlen y <= 1099511627776) := Lib.hid fun y hy => Nat.le_trans (wlen_mono (hy.le hP0)) hP;have HN : Hid (xs.length = n) := Lib.hid hnn;have HNL : Hid (ns.length = n) := Lib.hid hnl;have HD : Hid (∀ y ∈ ns, Dv P y) := Lib.hid hdv0;have HA : Hid (∀ i, i < n -> ns.getD i 0 = (gi xs i).natAbs) := Lib.hid habs;clear hnn hPP hP hP0 hdv0 hns hnl habs;refine funW (S0 := fun _ => False) Tryz.func13 (((Fr.nil _ w).l hA (by simp)).lst0) ?_;refine goW ?_;refine rW [] ?_;refine dW ?_;refine eW ?_;refine goW ?_;refine rW [] ?_;refine dW ?_;refine eW ?_;refine addW (e := .ns [] (nt [])) (fun w' _ => NsAt.nil w') ?_;refine goW ?_;refine rW [] ?_;refine dW ?_;refine eW ?_;refine goW ?_;refine loopW (X := D1X) (D1I ns P n) (fun z => n - z.i) (fun z => [(4, .int .i64 (z.i : Int)), (3, .slice z.ao z.i z.cap), (0, .slice la n ca)]) (fun z => [.lst z.ao z.i z.cap z.ps, .ns z.ps (nt z.cs), .ls L la xs]) ⟨0, none, 0, [], []⟩ ⟨Nat.zero_le _, rfl, rfl, rfl, fun y hy => by cases hy⟩ fun z hz => ?_;obtain ⟨i, ao, cap, ps, cs⟩ := z;obtain ⟨hi, hp, hc, hl, hdv⟩ := hz
 replace hi : i <= n := hi
 replace hp : ps.length = i := hp
 replace hc : cs = chRef (ns.take i) := hc
 replace hl : cs.length = i := hl
 replace hdv : ∀ y ∈ cs, Dv P y := hdv
 by_cases h : i < n
 · obtain ⟨bx, ox, rfl⟩ := hA.pos (i := i) (by rw [HN.out]; exact h);obtain ⟨x0, hx0⟩ : ∃ x0, (gi xs i).natAbs = x0 := ⟨_, rfl⟩;obtain ⟨R, hR⟩ : ∃ R, chRef (ns.take (i + 1)) = R := ⟨_, rfl⟩;have hfin : [] ++ chPut x0 cs = R := by rw [<- hR, chRef_take (by rw [HNL.out]; exact h), HA.out i h, hx0, hc]; rfl
   have hdx : Dv P x0 := by
    rw [<- hx0, <- HA.out i h];exact HD.out _ (by rw [List.getD_eq_getElem?_getD, List.getElem?_eq_getElem (by rw [HNL.out]; exact h)]; exact List.getElem_mem _)
   have HR : Hid (chRef (ns.take (i + 1)) = R) := Lib.hid hR;have HX : Hid ((gi xs i).natAbs = x0) := Lib.hid hx0;have HI : Hid (([] ++ cs).length = i /\ ps.length = i /\ [] ++ chPut x0 cs = R /\ Dv P x0 /\ ∀ y ∈ [] ++ cs, Dv P y) := Lib.hid ⟨by simpa using hl, hp, hfin, hdx, by simpa using hdv⟩;clear hR hfin hdx hp hl hdv hc hx0;refine goW ?_;refine rW [] ?_;refine dW ?_;refine dW ?_;refine dW ?_;refine dB true ?_;refine eW ?_;refine goW ?_;refine ctW ?_;refine numW (L := L) (xs := xs) (b := bx) (o := ox) i (by simp) (by rw [HN.out]; exact h) fun p => ?_;refine goW ?_;refine rW [] ?_;refine dW ?_;refine dW ?_;refine dW ?_;refine dW ?_;refine cN (x := (x0 : Int)) (fun w' H => by have := RAbs_c (av p) _ w' (H.m2.mono hL); rw [HX.out] at this; exact this) fun xp => ?_;refine aW fun g5 => ?_;refine sG ?_;refine eW ?_;refine goW ?_;refine rW [] ?_;refine dW ?_;refine eW ?_;refine goW ?_;refine loopW (X := D2X) (D2I R P i) (fun z => i - z.j) (fun z => [(6, .int .i64 (z.j : Int)), (4, .int .i64 (i : Int)), (3, .slice ao i cap), (5, .pointer (some ⟨g5, 0, none⟩)), (0, .slice (some ⟨bx, ox, none⟩) n ca)])
    (fun z => [.lst ao i cap z.ps, .row g5 44 [.bool z.xp.1, .slice z.xp.2.1 z.xp.2.2.1 z.xp.2.2.2], .own w.heap.size (av z.xp) (z.x : Int), .ns z.ps (nt (z.done ++ z.rest)), .ls L (some ⟨bx, ox, none⟩) xs]) ⟨0, x0, xp, [], cs, ps⟩ ⟨rfl, HI.out.2.1, HI.out.1, HI.out.2.2.1, HI.out.2.2.2.1, HI.out.2.2.2.2⟩ fun z hz => ?_
   clear HI HX;obtain ⟨j, x, xp, done, rest, ps⟩ := z;obtain ⟨hj, hp, hl, hfin, hdx, hdv⟩ := hz
   replace hj : done.length = j := hj
   replace hp : ps.length = i := hp
   replace hl : (done ++ rest).length = i := hl
   replace hfin : done ++ chPut x rest = R := hfin
   replace hdx : Dv P x := hdx
   replace hdv : ∀ y ∈ done ++ rest, Dv P y := hdv
   cases rest with
   | nil =>
    have e : j = i := by simp at hl; omega
    subst e
    replace hfin : done ++ [x] = R := hfin
    refine goW ?_;refine rW [] ?_;refine dW ?_;refine dW ?_;refine dW ?_;refine dB false ?_;refine eW ?_;refine goW ?_;refine cfW ?_;refine pickW (es' := [.row g5 44 [.bool xp.1, .slice xp.2.1 xp.2.2.1 xp.2.2.2], .lst ao j cap ps, .own w.heap.size (av xp) (x : Int), .ns ps (nt (done ++ [])), .ls L (some ⟨bx, ox, none⟩) xs]) ?_;refine goW ?_;refine rW [] ?_;refine dW ?_;refine dW ?_;refine bW (m := 1) fun g43 => ?_;refine moreW (e := .ns (ps ++ [xp]) (nt R)) (fun w' H => by have := H.m4; rw [List.append_nil] at this; rw [<- hfin, nt_snoc]; exact NsAt.snoc this H.m3.num) ?_;refine appN (g := g43) (t := 44) (c := 1) (ao := ao) (k := j) (cap := cap) (ps := ps) xp (by omega) (by simp) fun q => ?_;refine dW ?_;refine eW ?_;refine goW ?_;refine rW [] ?_;refine dW ?_;refine dE (incB (a := j) (by omega)) ?_;refine dW ?_;refine eW ?_;refine goW ?_;refine backW (⟨j + 1, q.1, q.2, ps ++ [xp], R⟩ : D1X) ⟨⟨h, by simp [hp], HR.out.symm, by rw [<- hfin]; simpa using hl, fun y hy => ?_⟩, by show n - (j + 1) < n - j; omega⟩;rw [<- hfin] at hy;rcases List.mem_append.1 hy with hy | hy
    · exact hdv y (by simpa using hy)
    · rw [List.mem_singleton.1 hy]; exact hdx
   | cons y rest =>
    have hji : j < i := by simp at hl; omega
    obtain ⟨l, hle⟩ : ∃ l, done ++ y :: rest = l := ⟨_, rfl⟩;have hll : l.length = i := by rw [<- hle]; exact hl
    have eJ : l.getD j 0 = y := by rw [<- hle, <- hj]; exact getD_at ..
    have eS : l.set j (Nat.gcd y x) = (done ++ [Nat.gcd y x]) ++ rest := by rw [<- hle, <- hj, set_at]; simp
    have dy := hdv y (by simp);have hx : wlen x <= 1099511627776 := HB.out x hdx;have hy : wlen y <= 1099511627776 := HB.out y dy;have hfin' : (done ++ [Nat.gcd y x]) ++ chPut (Nat.lcm y x) rest = R := by rw [<- hfin, chPut]; simp
    have hdv' : ∀ z ∈ (done ++ [Nat.gcd y x]) ++ rest, Dv P z := fun z hz => by
     simp only [List.mem_append, List.mem_cons, List.not_mem_nil, or_false] at hz;rcases hz with (hz | rfl) | hz
     · exact hdv z (by simp [hz])
     · exact dy.gcd hdx
     · exact hdv z (by simp [hz])
    have rJ : ∀ w, NsAt w ps (nt l) -> IntAt w 1099511627776 (av (gp ps j)) (y : Int) := fun w h => by
     have := h.nat (i := j) (by rw [hll]; omega);rw [eJ] at this; exact this.int hy
    have sJ : ∀ w (p : P4), NsAt w ps (nt l) -> NumAt w (av p) ((Nat.gcd y x : Nat) : Int) -> NsAt w (ps.set j p) (nt ((done ++ [Nat.gcd y x]) ++ rest)) := fun w p h hp => by
     have := h.set j hp;rw [nt_set, eS] at this; exact this
    have k0 := fun tl => rn0 tl (ps := ps) (i := j) (by omega);have k1 := fun tl => rn1 tl (ps := ps) (i := j) (by omega);have HQ : Hid (ps.length = i /\ done.length = j /\ (done ++ y :: rest).length = i /\ (done ++ [Nat.gcd y x]) ++ chPut (Nat.lcm y x) rest = R /\ Dv P (Nat.lcm y x) /\ ∀ z ∈ (done ++ [Nat.gcd y x]) ++ rest, Dv P z) := Lib.hid ⟨hp, hj, hl, hfin', dy.lcm hdx, hdv'⟩;rw [show (⟨j, x, xp, done, y :: rest, ps⟩ : D2X).done ++ (⟨j, x, xp, done, y :: rest, ps⟩ : D2X).rest = l from hle];clear hp hj hl hfin hfin' hdv hdv' hle hll eJ eS hdx dy;refine openW (by omega) fun b tl e ht htl => ?_;have HT : Hid ((rn ps tl).length = cap * 2 /\ i <= cap) := Lib.hid ⟨htl, by rw [rn, List.length_append, flat_length, HQ.out.1] at htl; omega⟩;have k2 := k0 tl;have k3 := k1 tl;subst e;clear k0 k1 htl;refine goW ?_;refine rW [] ?_;refine dW ?_;refine dW ?_;refine dW ?_;refine dB true ?_;refine eW ?_;refine goW ?_;refine ctW ?_;refine goW ?_;refine rW [] ?_;refine dW ?_;refine dW ?_;refine dW ?_;refine dW ?_;refine dW ?_;refine cN (x := ((Nat.gcd y x : Nat) : Int)) (fun w' H => RGcd_c (av (gp ps j)) (av xp) y x w' ((rJ w' H.m3).mono (by omega)) (OwnI.int H.m2 (by simp; omega))) fun p30 => ?_;refine aW fun g7 => ?_;refine sG ?_;refine eW ?_;refine goW ?_;refine rW [] ?_;refine dW ?_;refine dW ?_;refine dW ?_;refine dW ?_;refine dW ?_;refine cN (x := ((Nat.lcm y x : Nat) : Int)) (fun w' H => RLcm_c (av (gp ps j)) (av xp) y x 1099511627776 w' (rJ w' H.m5) (OwnI.int H.m4 hx) (Nat.le_refl _)) fun p36 => ?_;refine sW ?_;refine eW ?_;refine goW ?_;refine rW [] ?_;refine dW ?_;refine dW ?_;refine dW ?_;refine dW ?_;refine moreW (e := .ns (ps.set j p30) (nt ((done ++ [Nat.gcd y x]) ++ rest))) (fun w' H => sJ w' p30 H.m6 H.m2.num) ?_;refine sN (ps := ps) j p30 (by rw [HQ.out.1]; omega) ht rfl ?_;refine eW ?_;refine goW ?_;refine rW [] ?_;refine dW ?_;refine dE (incB (a := j) (by omega)) ?_;refine dW ?_;refine eW ?_;refine goW ?_;refine backW (⟨j + 1, Nat.lcm y x, p36, done ++ [Nat.gcd y x], rest, ps.set j p30⟩ : D2X) ⟨⟨by have := HQ.out.2.1; simp; omega, by simpa using HQ.out.1, by have := HQ.out.2.2.1; simp at this ⊢; omega, HQ.out.2.2.2.1, HQ.out.2.2.2.2.1, HQ.out.2.2.2.2.2⟩, by show i - (j + 1) < i - j; omega⟩
     (he := fun w' H => Fr.shut (b := b) (tl := tl) (H.pick (by repeat (first | exact Pk.n | refine Pk.c (by repeat (first | exact Rm.z | apply Rm.s)) ?_))) (by simpa using HQ.out.1) HT.out.2 ht (by have h1 := HT.out.1; rw [rn, List.length_append, flat_length] at h1 ⊢; simpa using h1))
 · obtain rfl : i = n := by omega
   have hR : cs = chRef ns := by rw [hc, List.take_of_length_le (by rw [HNL.out]; omega)]
   subst hR;clear hc hl hp hdv;refine goW ?_;refine rW [] ?_;refine dW ?_;refine dW ?_;refine dW ?_;refine dB false ?_;refine eW ?_;refine goW ?_;refine cfW ?_;refine goW ?_;refine rW [] ?_;refine dW ?_;refine dW ?_;refine eW ?_;refine goW ?_;refine fin1 fun w' H => ?_;exact ⟨_, rvT, ⟨ao, cap, rfl, lst_lsN H.m0 H.m1, fun b o e => (H.own _ (List.mem_cons_self ..) rfl b ⟨o, e⟩).elim (fun h => h.elim) id⟩, H.below⟩
theorem u64I {n : Nat} (h : n < W) : Value.int .u64 (IntKind.u64.wrap (n : Int)) = .int .u64 (n : Int) := by
 congr 1;unfold W at h;simp only [IntKind.wrap, IntKind.signed, IntKind.bits];simp; omega
set_option maxRecDepth 100000 in
set_option maxHeartbeats 1000000 in
theorem LNum_c (n : Nat) (w : World) (h : n < 9223372036854775808) :
 Calls Tryz.prog 43 #[.int .i64 (n : Int)] w fun e w' => (∃ v', e = .returned v' /\ OwnI w' w.heap.size v' (n : Int)) /\ Below w.heap.size w w' := by
 refine funW (S0 := fun _ => False) Tryz.func43 (Fr.nil _ w) ?_;refine goW ?_;refine rW [] ?_;refine aW fun g2 => ?_;refine eW ?_;refine goW ?_;refine rW [] ?_;refine dW ?_;refine dB false ?_;refine eW ?_;refine goW ?_;refine cfW ?_;refine goW ?_;refine rW [] ?_;refine dW ?_;by_cases h0 : n = 0
 · subst h0;refine dB true ?_;refine eW ?_;refine goW ?_;refine ctW ?_;refine goW ?_;refine rW [] ?_;refine dW ?_;refine sW ?_;refine eW ?_;refine goW ?_;refine fin1 fun w' H => ?_;exact ⟨_, rvI H.m0, ⟨_, rfl, OwnI.zero _ _⟩, H.below⟩
 · refine dB false ?_;refine eW ?_;refine goW ?_;refine cfW ?_;have hW : n < W := by unfold W; omega
   refine goW ?_;refine rW [] ?_;refine dW ?_;refine dE (u64I hW) ?_;refine bW (m := 1) fun g15 => ?_;refine dW ?_;refine sW ?_;refine eW ?_;refine goW ?_;refine fin1 fun w' H => ?_;have hown := RowAt.own (ws := [n]) (B := w.heap.size) (n := 1) (cap := 1) H.m0 (Ok.one hW) ((H.own _ (List.mem_cons_self ..) rfl _ rfl).elim (fun h => h.elim) id) (by simp) rfl (by unfold maxLen; omega);have h1 := OwnI.mk (m := n) false (by rw [wlenOne (by omega) hW, digOne (by omega) hW]; exact hown);rw [wlenOne (by omega) hW] at h1;exact ⟨_, rvI H.m1, ⟨_, rfl, h1⟩, H.below⟩
theorem hnf_23 : IsHnf 2 2 [2, 0, 0, 3] [2, 0, 0, 3] 2 (fun i => i) := by
 have e0 : ∀ i j, matE [2, 0, 0, 3] 2 2 i j = if i = 0 /\ j = 0 then 2 else if i = 1 /\ j = 1 then 3 else 0 := fun i j => by
  unfold matE;by_cases h : i < 2 /\ j < 2
  · obtain ⟨h1, h2⟩ := h;rw [if_pos ⟨h1, h2⟩];have hi : i = 0 ∨ i = 1 := by omega
    have hj : j = 0 ∨ j = 1 := by omega
    rcases hi with rfl | rfl <;> rcases hj with rfl | rfl <;> rfl
  · rw [if_neg h, if_neg (by omega), if_neg (by omega)]
 refine ⟨rfl, Nat.le_refl _, ⟨⟨fun i k h _ => h, fun i h => h, fun i hi j hj => ?_, fun i hi => ?_⟩, fun i k h1 h2 => ?_⟩, fun i hi b => ?_, ⟨fun k hk => Sp.row _ hk, fun k hk => Sp.row _ hk⟩⟩
 · rw [e0, if_neg (by omega), if_neg (by omega)]
 · rw [e0]; have : i = 0 ∨ i = 1 := by omega
   rcases this with rfl | rfl <;> simp
 · have e1 : i = 0 := by omega
   have e2 : k = 1 := by omega
   subst e1 e2;rw [e0, e0]; simp
 · rw [e0, if_neg (by omega), if_neg (by omega)]
theorem dg_23 : IsDg 2 2 [2, 0, 0, 3] := fun i j hi hj h => by
 have hi' : i = 0 ∨ i = 1 := by omega
 have hj' : j = 0 ∨ j = 1 := by omega
 rcases hi' with rfl | rfl <;> rcases hj' with rfl | rfl <;> first | rfl | omega
theorem snf_23 : tabK 2 (diagF (nt (chProg (diagN 2 2 [2, 0, 0, 3])))) 4 = [1, 0, 0, 6] := by
 have e1 : diagN 2 2 [2, 0, 0, 3] = [2, 3] := rfl;have e2 : chProg [2, 3] = [1, 6] := by
  rw [chProg]; simp only [chPass]; rw [chProg]; simp only [chPass]; rw [chProg]; rfl
 rw [e1, e2]; rfl
theorem ns4 {w : World} {p q r s : P4} {a b c d : Int} (h1 : NumAt w (av p) a) (h2 : NumAt w (av q) b) (h3 : NumAt w (av r) c) (h4 : NumAt w (av s) d) : NsAt w [p, q, r, s] [a, b, c, d] := ⟨rfl, fun i hi => by
 match i, hi with
 | 0, _ => exact h1
 | 1, _ => exact h2
 | 2, _ => exact h3
 | 3, _ => exact h4⟩
theorem row4 {w : World} {g : Nat} {p q r s : P4} {a b c d : Int} (hr : RowAt w g 44 [.bool p.1, .slice p.2.1 p.2.2.1 p.2.2.2, .bool q.1, .slice q.2.1 q.2.2.1 q.2.2.2, .bool r.1, .slice r.2.1 r.2.2.1 r.2.2.2, .bool s.1, .slice s.2.1 s.2.2.1 s.2.2.2]) (h1 : NumAt w (av p) a) (h2 : NumAt w (av q) b) (h3 : NumAt w (av r) c) (h4 : NumAt w (av s) d) : LsN w (some ⟨g, 0, none⟩) [a, b, c, d] :=
 (RowN.mk' (ps := [p, q, r, s]) (tl := []) hr NoW.nil (ns4 h1 h2 h3 h4)).lsN
set_option maxRecDepth 100000 in
set_option maxHeartbeats 4000000 in
theorem LAwake_c (w : World) :
 Calls Tryz.prog 9 #[] w fun e w' => e = .returned (.bool true) /\ Below w.heap.size w w' := by
 have hw1 : ∀ x ∈ ([2, 0, 0, 3] : List Int), x.natAbs < W ^ 1 := fun x hx => by
  simp at hx; rcases hx with rfl | rfl | rfl <;> decide
 have hw2 : ∀ x ∈ ([2, 0, 0, 3] : List Int), wlen x.natAbs <= 17592186044415 := fun x hx => Nat.le_trans (wlen_le_of_lt (hw1 x hx)) (by omega);have hw3 : ∀ x ∈ ([1, 0, 0, 6] : List Int), wlen x.natAbs <= 17592186044415 := fun x hx => Nat.le_trans (wlen_le_of_lt (show x.natAbs < W ^ 1 by simp at hx; rcases hx with rfl | rfl | rfl <;> decide)) (by omega);refine funW (S0 := fun _ => False) Tryz.func9 (Fr.nil _ w) ?_;refine goW ?_;refine rW [] ?_;refine dW ?_;refine eW ?_;refine goW ?_;refine rW [] ?_;refine cN (x := ((2 : Nat) : Int)) (fun w' H => LNum_c 2 w' (by omega)) fun p4 => ?_;refine cN (x := ((0 : Nat) : Int)) (fun w' H => LNum_c 0 w' (by omega)) fun p5 => ?_;refine cN (x := ((0 : Nat) : Int)) (fun w' H => LNum_c 0 w' (by omega)) fun p6 => ?_;refine cN (x := ((3 : Nat) : Int)) (fun w' H => LNum_c 3 w' (by omega)) fun p7 => ?_;refine bW (m := 4) fun g8 => ?_;refine dW ?_;refine cLn (α := List Int × Option Addr × Nat) (mk := fun p => .tuple #[.agg #[.int .i64 2, .int .i64 2, .slice p.2.1 4 p.2.2], .int .i64 0]) (ao := fun p => p.2.1) (xs := fun p => tabK 2 (diagF (nt (chProg (diagN 2 2 p.1)))) 4) (A := fun p => ∃ k l, IsHnf 2 2 [2, 0, 0, 3] p.1 k l)
  (fun w' H => SForm_c 2 2 1 (some ⟨g8, 0, none⟩) 4 [2, 0, 0, 3] w' (by omega) (by omega) ((row4 H.m0 (H.m4 : OwnI ..).num (H.m3 : OwnI ..).num (H.m2 : OwnI ..).num (H.m1 : OwnI ..).num).lsAt hw2) hw1 (by omega) rfl (fun hs k l h => by obtain ⟨rfl, -, -⟩ := h.unique hnf_23; exact dg_23)) fun q => ?_
 refine dW ?_;refine dW ?_;refine dW ?_;refine aW fun g1 => ?_;refine sG ?_;refine dW ?_;refine eW ?_;refine prW (A := (∃ k l, IsHnf 2 2 [2, 0, 0, 3] q.1 k l) /\ ∀ b o, q.2.1 = some ⟨b, o, none⟩ -> w.heap.size <= b) (by simp) fun hA => ?_;obtain ⟨⟨k, l, hH⟩, _⟩ := hA;obtain ⟨hs, qa, qc⟩ := q;obtain ⟨rfl, -, -⟩ := hH.unique hnf_23;simp only [snf_23];clear hH;refine goW ?_;refine rW [] ?_;refine dW ?_;refine dW ?_;refine dW ?_;refine dG ?_;refine cGg (mk := av) (ens := fun p => [.own w.heap.size (av p) ((1 : Nat) : Int)]) (fun w' H => cNo' (LNum_c 1 w' (by omega)) H.size) fun p17 => ?_;refine cGg (mk := av) (ens := fun p => [.own w.heap.size (av p) ((0 : Nat) : Int)]) (fun w' H => cNo' (LNum_c 0 w' (by omega)) H.size) fun p18 => ?_;refine cGg (mk := av) (ens := fun p => [.own w.heap.size (av p) ((0 : Nat) : Int)]) (fun w' H => cNo' (LNum_c 0 w' (by omega)) H.size) fun p19 => ?_;refine cGg (mk := av) (ens := fun p => [.own w.heap.size (av p) ((6 : Nat) : Int)]) (fun w' H => cNo' (LNum_c 6 w' (by omega)) H.size) fun p20 => ?_;simp only [av];refine bWg (m := 4) fun g21 => ?_;refine dG ?_;refine cVg (v := .bool true) (fun w' H => by
  have h1 : LsN w' qa [1, 0, 0, 6] := H.m6;have h2 := row4 H.m0 (H.m4 : OwnI ..).num (H.m3 : OwnI ..).num (H.m2 : OwnI ..).num (H.m1 : OwnI ..).num;exact KLikeMat_c 2 2 qa (some ⟨g21, 0, none⟩) qc 4 [1, 0, 0, 6] [1, 0, 0, 6] w' h1 h2 (by simp) (by simp) hw3 hw3) ?_
 refine dW ?_;refine dW ?_;refine eW ?_;refine goW ?_;refine fin1 fun w' H => ?_;exact ⟨_, rvT, rfl, H.below⟩
theorem prodNZ_sum : ∀ xs : List Int, prodNZ (xs.map Int.natAbs) <= W ^ (xs.map fun z => wlen z.natAbs).sum
 | [] => by simp [prodNZ]
 | x :: xs => by
  have h1 := prodNZ_sum xs;have h2 := lt_pow_wlen x.natAbs;rw [List.map_cons, List.map_cons, prodNZ, List.sum_cons, Nat.pow_add];refine Nat.mul_le_mul ?_ h1;split <;> omega
theorem nt_wlen {P B : Nat} {l : List Nat} (hP : 0 < P) (hd : ∀ y ∈ l, Dv P y) (h : wlen P <= B) : ∀ x ∈ nt l, wlen x.natAbs <= B := fun x hx => by
 unfold nt at hx;obtain ⟨y, hy, rfl⟩ := List.mem_map.1 hx;exact Nat.le_trans (wlen_mono ((hd y hy).le hP)) h
set_option maxRecDepth 100000 in
set_option maxHeartbeats 2000000 in
theorem LChains_c (la : Option Addr) (cap L : Nat) (xs : List Int) (w : World) (hA : LsAt w L la xs) (hL : L <= 1048576) (hn : xs.length <= 1048576) (hs : (xs.map fun z => wlen z.natAbs).sum <= 1048576) :
 Calls Tryz.prog 3 #[.slice la xs.length cap] w fun e w' => e = .returned (.bool true) /\ Below w.heap.size w w' := by
 have hP : wlen (prodNZ (xs.map Int.natAbs)) <= 1048577 := Nat.le_trans (wlen_le_of_lt (Nat.lt_of_le_of_lt (prodNZ_sum xs) (Nat.pow_lt_pow_right (by decide : 1 < W) (Nat.lt_succ_self _)))) (by omega);have hcl : (chProg (xs.map Int.natAbs)).length = xs.length := by rw [chProg_ref, chRef_length, List.length_map]
 have hwl := nt_wlen (B := 17592186044415) (prodNZ_pos (xs.map Int.natAbs)) (chProg_dv fun z hz => Dv.of_mem hz) (by omega);have hC := fun b w' (h : LsAt w' L (some ⟨b, 0, none⟩) xs) => SChain_c (some ⟨b, 0, none⟩) xs.length L xs w' h (by omega) (by omega) (by omega);have hR := fun w' (h : LsAt w' L la xs) => RChain20_c la cap L xs w' h (by omega) (by omega) (by omega);rw [<- chProg_ref] at hR;obtain ⟨R, hRR⟩ : ∃ R, nt (chProg (xs.map Int.natAbs)) = R := ⟨_, rfl⟩;have hRl : R.length = xs.length := by rw [<- hRR, nt_length, hcl]
 rw [hRR] at hC hR hwl;have HL := fun ao bo ca cb w' h1 h2 => KLikeRow_c ao bo ca cb R R w' h1 h2 (by omega) (by omega) hwl hwl;rw [hRl, decide_eq_true rfl] at HL;have HH : Hid (R.length = xs.length) := Lib.hid hRl;clear hRR hRl hcl hwl hP hs;refine funW (S0 := fun _ => False) Tryz.func3 ((Fr.nil _ w).l hA (by simp)) ?_;refine goW ?_;refine rW [] ?_;refine dW ?_;refine eW ?_;refine goW ?_;refine rW [] ?_;refine cV (fun w' H => LAwake_c w') ?_;refine dW ?_;refine eW ?_;refine goW ?_;refine cfW ?_;refine goW ?_;refine rW [] ?_;refine dW ?_;refine cG (α := Nat) (mk := fun b => .slice (some ⟨b, 0, none⟩) xs.length xs.length) (ens := fun b => [.ls L (some ⟨b, 0, none⟩) xs]) (fun w' H => (KCopyRow_c la cap L xs w' H.m0 (by omega) (by omega)).mono (by
  rintro e w3 ⟨⟨b, rfl, hb, hl⟩, hbl⟩;exact ⟨b, rfl, hbl, fun e he => by
   rcases List.mem_singleton.1 he with rfl;exact ⟨hl, fun g ⟨_, o, e⟩ => by cases e; exact hb⟩, List.pairwise_singleton ..⟩)) fun b => ?_
 refine cLn (α := Nat) (mk := fun q => .slice (some ⟨q, 0, none⟩) xs.length xs.length) (ao := fun q => some ⟨q, 0, none⟩) (xs := fun _ => R) (A := fun _ => True) (fun w' H => (hC b w' H.m0).mono (by
  rintro e w3 ⟨⟨q, rfl, hq, hr⟩, hbl⟩;exact ⟨⟨q, rfl, hr.lsN, trivial, fun b' o e => by cases e; exact hq⟩, hbl⟩)) fun q1 => ?_
 refine dW ?_;refine cLn (α := Option Addr × Nat) (mk := fun q => .slice q.1 xs.length q.2) (ao := fun q => q.1) (xs := fun _ => R) (A := fun _ => True) (fun w' H => (hR w' H.m3).mono (by
  rintro e w3 ⟨⟨ao, c, rfl, hr, hS⟩, hbl⟩;exact ⟨⟨(ao, c), rfl, hr, trivial, hS⟩, hbl⟩)) fun q2 => ?_
 refine cV (fun w' H => HL (some ⟨q1, 0, none⟩) q2.1 xs.length q2.2 w' H.m2 H.m0) ?_;refine dW ?_;refine eW ?_;refine goW ?_;refine fin1 fun w' H => ?_;exact ⟨_, rvT, rfl, H.below⟩
end Go.Proofs.YtajmkebkgmbfnaaGreat
namespace Go.Proofs.YtajmkebkgmbfnaaGreat
open Go.ChangeShapes Go.WideShapes Go.ChangeAt Go.RowKit Go.Deep
namespace lawCh
theorem own : ownKnob Tryz.prog.godebug = none := by kernel_rfl
set_option maxRecDepth 100000 in
theorem contract (H : Type) (enc : TypeId × Value -> H) (Wd : World) (base : Nat) (args : Array Value) (ds gs : List (DataW H)) (before : List MemPlace)
 (hval : ∀ (j : Nat) t v, Tryz.f3.params[j]? = some t -> args[j]? = some v -> Value.okWide Tryz.prog Wd .any base t v)
 (hW : DataW.Whole enc Tryz.prog Tryz.f3.params.toList Rows.snfChainsSpec.vars false Wd args.toList ds gs before) (hk : Rows.uptoSmall H (ds ++ gs) = true) :
 Calls Tryz.prog 3 args Wd fun e W' => ∃ v, e = .returned v /\ Rows.snfChainsSpec.post enc Tryz.prog Tryz.f3 false true false false Wd args v W' := by
 have hW' := hW;obtain ⟨p, q, hA0, hV, rfl, hfz, hnd⟩ := hW;have hA : DataW.TrodAll enc Tryz.prog Wd 0 (fun _ => true) true Tryz.f3.params.toList args.toList ds p := hA0;rw [Tryz.params3] at hA hval;obtain ⟨v1, vs1, d1, ds1, p1, q1, hargs, rfl, rfl, h1, r1⟩ := trodAll_cons hA;obtain ⟨rfl, rfl, rfl⟩ := trodAll_nil r1;obtain rfl : args = #[v1] := by cases args; simp_all
 obtain ⟨rfl, rfl⟩ := trodVars_none hV;have hbk := bulk_bound hk;simp only [List.append_nil, Rows.uptoBulkAll] at hbk;obtain ⟨a1, l1, k1, rfl⟩ := okWide_slice Tryz.underlying22 (hval 0 _ v1 rfl rfl);obtain ⟨f1, h1⟩ := h1;obtain ⟨b1, c1, e1, vs, hcs1, hl1, hc1, hL1, hn1, hs1⟩ := open_nums_s h1;simp [Value.cells] at hcs1;obtain ⟨rfl, rfl, rfl⟩ := hcs1;subst hl1;have hL1 : LsAt Wd (Rows.uptoBulk d1) a1 vs := hL1;have hn1 : vs.length + 1 <= Rows.uptoBulk d1 := hn1;have hs1 : (vs.map fun z => wlen z.natAbs).sum <= Rows.uptoBulk d1 := hs1;refine (LChains_c a1 k1 (Rows.uptoBulk d1) vs Wd hL1 (by omega) (by omega) (by omega)).mono fun e W' ⟨he, hg⟩ => ?_;subst he;exact ⟨_, rfl, law_post (by kernel_rfl) rfl (by kernel_rfl) hW' rfl rfl rfl hg⟩
set_option maxRecDepth 100000 in
theorem lifted (os : Os) (started : os.Started) (H : Type) (enc : TypeId × Value -> H) (F : Stop.Interp) :
 ReturnsInHanded {} Tryz.checked os 3 .any ((Rows.OpenSpec.upto Rows.snfChainsSpec).pre6 enc Tryz.prog Tryz.f3 Rows.snfChainsUptoRow.domain false) (((Rows.OpenSpec.upto Rows.snfChainsSpec).at F).post enc Tryz.prog Tryz.f3 false true false false) := by
 refine returnsInHanded_of_cond (C := Tryz.checked) (s := Rows.OpenSpec.upto Rows.snfChainsSpec) (k := Rows.uptoSmall) rfl own started (by kernel_rfl) Tryz.func3
  (OpenSpec.witness (enc := enc) (C := Tryz.checked) (s := Rows.OpenSpec.upto Rows.snfChainsSpec) (k := Rows.uptoSmall) rfl false ⟨#[], #[.slice none 0 0], []⟩ 8 (by kernel_rfl) (by kernel_rfl) (by kernel_rfl)
   (x := ([.nil], [], [])) (by kernel_rfl) rfl (by kernel_rfl)) ?_
 intro W base args ds gs before hval hW _ hk _;exact contract H enc W base args ds gs before hval hW hk
theorem over : Rows.snfChainsUptoRow.holds Tryz.pinned (Rows.OpenSpec.upto Rows.snfChainsSpec) :=
 OpenClaim.holds_of_cond 3 Tryz.f3 rfl rfl rfl rfl rfl rfl rfl ⟨rfl, rfl, rfl, rfl, rfl⟩ rfl rfl rfl rfl rfl (by kernel_rfl) Tryz.func3 (by kernel_rfl)
  (of_decide_eq_true (by kernel_rfl)) (by unfold Func.isWrapper; first | (rw [if_pos (by decide +kernel)]; kernel_rfl) | (rw [if_neg (by decide +kernel)]; exact ⟨rfl, rfl⟩))
  (fun os started H enc _ F => lifted os started H enc F)
theorem proved : Rows.SnfChainsUptoSaid := over
end lawCh
end Go.Proofs.YtajmkebkgmbfnaaGreat
