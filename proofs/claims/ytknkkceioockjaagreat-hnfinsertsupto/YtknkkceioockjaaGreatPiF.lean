/- Part 6 of 7 of the proof that the law HnfInserts returns true for every input of bulk at most 1048576 and leaves its arguments as they were: here the contracts of the functions that it calls, and plain lemmas. -/
import Derived.Deep.RegionLaw
import Derived.Maps.AppendAt
import Derived.Deep.Onto
import Derived.Test.YtknkkceioockjaaGreatPiE
set_option linter.all false
namespace Go.Proofs.YtknkkceioockjaaGreat
def sm : Nat -> (Nat -> Int) -> Int
 | 0, _ => 0
 | n + 1, f => sm n f + f n
theorem sm_congr {n : Nat} {f g : Nat -> Int} (h : ∀ k, k < n -> f k = g k) : sm n f = sm n g := by
 induction n with
 | zero => rfl
 | succ n ih => unfold sm; rw [ih (fun k hk => h k (by omega)), h n (by omega)]
theorem sm_zero {n : Nat} {f : Nat -> Int} (h : ∀ k, k < n -> f k = 0) : sm n f = 0 := by
 induction n with
 | zero => rfl
 | succ n ih => unfold sm; rw [ih (fun k hk => h k (by omega)), h n (by omega)]; rfl
theorem sm_add (n : Nat) (f g : Nat -> Int) : sm n (fun k => f k + g k) = sm n f + sm n g := by
 induction n with
 | zero => rfl
 | succ n ih => simp only [sm, ih]; omega
theorem sm_sub (n : Nat) (f g : Nat -> Int) : sm n (fun k => f k - g k) = sm n f - sm n g := by
 induction n with
 | zero => rfl
 | succ n ih => simp only [sm, ih]; omega
theorem sm_mul (n : Nat) (c : Int) (f : Nat -> Int) : sm n (fun k => c * f k) = c * sm n f := by
 induction n with
 | zero => simp [sm]
 | succ n ih => simp only [sm, ih, Int.mul_add]
theorem sm_one {n : Nat} {f : Nat -> Int} (i : Nat) (hi : i < n) (h : ∀ k, k < n -> k ≠ i -> f k = 0) : sm n f = f i := by
 induction n with
 | zero => omega
 | succ n ih =>
  unfold sm;by_cases e : i = n
  · subst e; rw [sm_zero (fun k hk => h k (by omega) (by omega))]; omega
  · rw [ih (by omega) (fun k hk hne => h k (by omega) hne), h n (by omega) (fun e' => e e'.symm)]; omega
theorem sm_abs {n : Nat} {f : Nat -> Int} {B : Nat} (h : ∀ k, k < n -> (f k).natAbs <= B) : (sm n f).natAbs <= n * B := by
 induction n with
 | zero => simp [sm]
 | succ n ih =>
  unfold sm;have h1 := ih (fun k hk => h k (by omega));have h2 := h n (by omega);have h3 := Int.natAbs_add_le (sm n f) (f n);rw [Nat.succ_mul]; omega
theorem pigeon : ∀ (n : Nat) (f : Nat -> Nat), (∀ i, i <= n -> f i < n) -> ∃ i j, i < j /\ j <= n /\ f i = f j
 | 0, f, h => by have := h 0 (Nat.le_refl _); omega
 | n + 1, f, h => by
  by_cases hc : ∃ i, i <= n /\ f i = f (n + 1)
  · obtain ⟨i, hi, he⟩ := hc;exact ⟨i, n + 1, by omega, Nat.le_refl _, he⟩
  · have hn : ∀ i, i <= n -> f i ≠ f (n + 1) := fun i hi he => hc ⟨i, hi, he⟩;obtain ⟨i, j, hij, hj, he⟩ := pigeon n (fun i => if f i = n then f (n + 1) else f i) (fun i hi => by
     have h1 := h i (by omega);have h2 := h (n + 1) (Nat.le_refl _);have h3 := hn i hi;split <;> omega)
    refine ⟨i, j, hij, by omega, ?_⟩;have h1 := hn i (by omega);have h2 := hn j hj;split at he <;> split at he <;> omega
def encQ (Q : Nat) (v : Nat -> Nat) : Nat -> Nat
 | 0 => 0
 | s + 1 => encQ Q v s + v s * Q ^ s
theorem encQ_lt {Q : Nat} {v : Nat -> Nat} : ∀ {s : Nat}, (∀ j, j < s -> v j < Q) -> encQ Q v s < Q ^ s
 | 0, _ => by simp [encQ]
 | s + 1, h => by
  have h1 := encQ_lt (s := s) (fun j hj => h j (by omega));have h2 := h s (by omega);have h3 : (v s + 1) * Q ^ s <= Q * Q ^ s := Nat.mul_le_mul_right _ h2;rw [Nat.succ_mul] at h3;rw [Nat.pow_succ, Nat.mul_comm];unfold encQ; omega
theorem encQ_inj {Q : Nat} {u v : Nat -> Nat} : ∀ {s : Nat}, (∀ j, j < s -> u j < Q) -> (∀ j, j < s -> v j < Q) -> encQ Q u s = encQ Q v s -> ∀ j, j < s -> u j = v j
 | 0, _, _, _, j, hj => by omega
 | s + 1, hu, hv, he, j, hj => by
  have h1 := encQ_lt (s := s) (fun j hj => hu j (by omega));have h2 := encQ_lt (s := s) (fun j hj => hv j (by omega));have hp : 0 < Q ^ s := by omega
  unfold encQ at he;have d1 : (encQ Q u s + u s * Q ^ s) / Q ^ s = u s := by rw [Nat.add_mul_div_right _ _ hp, Nat.div_eq_of_lt h1, Nat.zero_add]
  have d2 : (encQ Q v s + v s * Q ^ s) / Q ^ s = v s := by rw [Nat.add_mul_div_right _ _ hp, Nat.div_eq_of_lt h2, Nat.zero_add]
  have hs : u s = v s := by rw [<- d1, <- d2, he]
  by_cases e : j = s
  · subst e; exact hs
  · rw [hs] at he;exact encQ_inj (s := s) (fun j hj => hu j (by omega)) (fun j hj => hv j (by omega)) (by omega) j (by omega)
theorem encQ_digits (Q n : Nat) : ∀ s, encQ Q (fun k => n / Q ^ k % Q) s = n % Q ^ s
 | 0 => by simp [encQ, Nat.mod_one]
 | s + 1 => by
  unfold encQ;rw [encQ_digits Q n s, Nat.mod_pow_succ, Nat.mul_comm]
theorem siegel (r s M : Nat) (A : Nat -> Nat -> Int) (hs : s < r) (hA : ∀ k j, k < r -> j < s -> (A k j).natAbs <= M) :
 ∃ x : Nat -> Int, (∃ k, k < r /\ x k ≠ 0) /\ (∀ k, k < r -> (x k).natAbs <= (2 * r * M + 1) ^ s) /\ ∀ j, j < s -> sm r (fun k => x k * A k j) = 0 := by
 obtain ⟨T, hT⟩ : ∃ T, (2 * r * M + 1) ^ s = T := ⟨_, rfl⟩;obtain ⟨V, hV⟩ : ∃ V, r * (T * M) = V := ⟨_, rfl⟩;have hTp : 0 < T := by rw [<- hT]; exact Nat.pow_pos (by omega)
 have hy : ∀ n j, j < s -> (sm r (fun k => ((n / (T + 1) ^ k % (T + 1) : Nat) : Int) * A k j)).natAbs <= V := by
  intro n j hj;rw [<- hV];refine sm_abs (fun k hk => ?_);rw [Int.natAbs_mul, Int.natAbs_natCast];have h1 : n / (T + 1) ^ k % (T + 1) < T + 1 := Nat.mod_lt _ (by omega);exact Nat.mul_le_mul (by omega) (hA k j hk hj)
 have hQ : (2 * V + 1) ^ s < (T + 1) ^ r := by
  have h1 : 2 * V + 1 <= (2 * r * M + 1) * (T + 1) := by
   have e1 : (2 * r * M + 1) * (T + 1) = 2 * r * M * T + 2 * r * M + T + 1 := by
    rw [Nat.mul_add, Nat.add_mul]; omega
   have e2 : 2 * r * M * T = 2 * V := by
    rw [<- hV]; simp only [Nat.mul_assoc, Nat.mul_comm, Nat.mul_left_comm]
   omega
  have h2 : (2 * V + 1) ^ s <= T * (T + 1) ^ s := by
   rw [<- hT, <- Nat.mul_pow, hT]; exact Nat.pow_le_pow_left h1 s
  have h3 : T * (T + 1) ^ s < (T + 1) ^ (s + 1) := by
   rw [Nat.pow_succ, Nat.mul_comm];exact Nat.mul_lt_mul_of_pos_left (by omega) (Nat.pow_pos (by omega))
  have h4 : (T + 1) ^ (s + 1) <= (T + 1) ^ r := Nat.pow_le_pow_right (by omega) hs;omega
 obtain ⟨i, j, hij, hj, he⟩ := pigeon ((2 * V + 1) ^ s) (fun n => encQ (2 * V + 1) (fun q => (sm r (fun k => ((n / (T + 1) ^ k % (T + 1) : Nat) : Int) * A k q) + V).toNat % (2 * V + 1)) s) (fun i _ => encQ_lt (fun q _ => Nat.mod_lt _ (by omega)));have hq := encQ_inj (fun q _ => Nat.mod_lt _ (by omega)) (fun q _ => Nat.mod_lt _ (by omega)) he;refine ⟨fun k => ((j / (T + 1) ^ k % (T + 1) : Nat) : Int) - ((i / (T + 1) ^ k % (T + 1) : Nat) : Int), ?_, ?_, ?_⟩
 · by_cases hc : ∃ k, k < r /\ j / (T + 1) ^ k % (T + 1) ≠ i / (T + 1) ^ k % (T + 1)
   · obtain ⟨k, hk, hne⟩ := hc;refine ⟨k, hk, ?_⟩
     revert hne
     dsimp only;generalize j / (T + 1) ^ k % (T + 1) = a;generalize i / (T + 1) ^ k % (T + 1) = b;omega
   · exfalso;have hall : ∀ k, k < r -> j / (T + 1) ^ k % (T + 1) = i / (T + 1) ^ k % (T + 1) := fun k hk => Classical.byContradiction fun h => hc ⟨k, hk, h⟩;have e1 := encQ_digits (T + 1) i r;have e2 := encQ_digits (T + 1) j r;have e3 : ∀ s', s' <= r -> encQ (T + 1) (fun k => j / (T + 1) ^ k % (T + 1)) s' = encQ (T + 1) (fun k => i / (T + 1) ^ k % (T + 1)) s' := by
      intro s' hs';induction s' with
      | zero => rfl
      | succ q ih => simp only [encQ]; rw [ih (by omega), hall q (by omega)]
     have e4 := e3 r (Nat.le_refl _);rw [e1, e2, Nat.mod_eq_of_lt (by omega), Nat.mod_eq_of_lt (by omega)] at e4;omega
 · intro k hk;have h1 : j / (T + 1) ^ k % (T + 1) < T + 1 := Nat.mod_lt _ (by omega);have h2 : i / (T + 1) ^ k % (T + 1) < T + 1 := Nat.mod_lt _ (by omega);rw [hT]
   revert h1 h2
   dsimp only;generalize j / (T + 1) ^ k % (T + 1) = a;generalize i / (T + 1) ^ k % (T + 1) = b;omega
 · intro q hq';have h1 := hq q hq';have h2 := hy i q hq';have h3 := hy j q hq';have h4 : sm r (fun k => (((j / (T + 1) ^ k % (T + 1) : Nat) : Int) - ((i / (T + 1) ^ k % (T + 1) : Nat) : Int)) * A k q) = sm r (fun k => ((j / (T + 1) ^ k % (T + 1) : Nat) : Int) * A k q) - sm r (fun k => ((i / (T + 1) ^ k % (T + 1) : Nat) : Int) * A k q) := by
    rw [<- sm_sub]; exact sm_congr (fun k _ => Int.sub_mul ..)
   dsimp only at h1 ⊢;rw [h4];generalize sm r (fun k => ((j / (T + 1) ^ k % (T + 1) : Nat) : Int) * A k q) = a at *;generalize sm r (fun k => ((i / (T + 1) ^ k % (T + 1) : Nat) : Int) * A k q) = b at *;rw [Nat.mod_eq_of_lt (by omega), Nat.mod_eq_of_lt (by omega)] at h1;omega
def Sp (n : Nat) (E : Nat -> Nat -> Int) (v : Nat -> Int) : Prop := ∃ x : Nat -> Int, ∀ j, v j = sm n (fun k => x k * E k j)
theorem Sp.zero (n : Nat) (E : Nat -> Nat -> Int) : Sp n E (fun _ => 0) := ⟨fun _ => 0, fun j => (sm_zero (fun k _ => Int.zero_mul _)).symm⟩
theorem Sp.congr {n : Nat} {E : Nat -> Nat -> Int} {v w : Nat -> Int} (h : Sp n E v) (e : ∀ j, w j = v j) : Sp n E w := by
 obtain ⟨x, hx⟩ := h;exact ⟨x, fun j => (e j).trans (hx j)⟩
theorem Sp.add {n : Nat} {E : Nat -> Nat -> Int} {v w : Nat -> Int} (h : Sp n E v) (k : Sp n E w) : Sp n E (fun j => v j + w j) := by
 obtain ⟨x, hx⟩ := h; obtain ⟨y, hy⟩ := k;refine ⟨fun k => x k + y k, fun j => ?_⟩;show v j + w j = _;rw [hx, hy, <- sm_add]; exact sm_congr (fun k _ => (Int.add_mul ..).symm)
theorem Sp.smul {n : Nat} {E : Nat -> Nat -> Int} {v : Nat -> Int} (c : Int) (h : Sp n E v) : Sp n E (fun j => c * v j) := by
 obtain ⟨x, hx⟩ := h;refine ⟨fun k => c * x k, fun j => ?_⟩;show c * v j = _;rw [hx, <- sm_mul]; exact sm_congr (fun k _ => (Int.mul_assoc ..).symm)
theorem Sp.sub {n : Nat} {E : Nat -> Nat -> Int} {v w : Nat -> Int} (h : Sp n E v) (k : Sp n E w) : Sp n E (fun j => v j - w j) :=
 (h.add (k.smul (-1))).congr (fun j => by omega)
theorem Sp.row {n : Nat} (E : Nat -> Nat -> Int) {k : Nat} (hk : k < n) : Sp n E (E k) := by
 refine ⟨fun i => if i = k then 1 else 0, fun j => ?_⟩;rw [sm_one k hk (fun i _ hne => by simp [hne])]; simp
theorem Sp.sm {n m : Nat} {E : Nat -> Nat -> Int} {F : Nat -> Nat -> Int} {x : Nat -> Int} (h : ∀ k, k < m -> Sp n E (F k)) : Sp n E (fun j => sm m (fun k => x k * F k j)) := by
 induction m with
 | zero => exact Sp.zero n E
 | succ m ih => exact (ih (fun k hk => h k (by omega))).add ((h m (by omega)).smul (x m))
theorem Sp.trans {n m : Nat} {E F : Nat -> Nat -> Int} {v : Nat -> Int} (hv : Sp m F v) (h : ∀ k, k < m -> Sp n E (F k)) : Sp n E v := by
 obtain ⟨x, hx⟩ := hv;exact (Sp.sm (x := x) h).congr hx
def SpEq (n : Nat) (E : Nat -> Nat -> Int) (m : Nat) (F : Nat -> Nat -> Int) : Prop := (∀ k, k < n -> Sp m F (E k)) /\ ∀ k, k < m -> Sp n E (F k)
theorem SpEq.refl (n : Nat) (E : Nat -> Nat -> Int) : SpEq n E n E := ⟨fun k hk => Sp.row E hk, fun k hk => Sp.row E hk⟩
theorem SpEq.symm {n m : Nat} {E F : Nat -> Nat -> Int} (h : SpEq n E m F) : SpEq m F n E := ⟨h.2, h.1⟩
theorem SpEq.trans {n m l : Nat} {E F G : Nat -> Nat -> Int} (h : SpEq n E m F) (k : SpEq m F l G) : SpEq n E l G :=
 ⟨fun i hi => (h.1 i hi).trans k.1, fun i hi => (k.2 i hi).trans h.2⟩
theorem SpEq.sp {n m : Nat} {E F : Nat -> Nat -> Int} (h : SpEq n E m F) {v : Nat -> Int} : Sp n E v ↔ Sp m F v := ⟨fun hv => hv.trans h.1, fun hv => hv.trans h.2⟩
theorem SpEq.of_eq {n : Nat} {E F : Nat -> Nat -> Int} (h : ∀ k, k < n -> ∀ j, E k j = F k j) : SpEq n E n F :=
 ⟨fun k hk => (Sp.row F hk).congr (h k hk), fun k hk => (Sp.row E hk).congr (fun j => (h k hk j).symm)⟩
structure Ech (n c : Nat) (E : Nat -> Nat -> Int) (l : Nat -> Nat) : Prop where
 inc : ∀ i k, i < k -> k < n -> l i < l k
 lt : ∀ i, i < n -> l i < c
 zero : ∀ i, i < n -> ∀ j, j < l i -> E i j = 0
 pos : ∀ i, i < n -> 0 < E i (l i)
structure Herm (n c : Nat) (E : Nat -> Nat -> Int) (l : Nat -> Nat) : Prop extends Ech n c E l where
 red : ∀ i k, i < k -> k < n -> 0 <= E i (l k) /\ E i (l k) < E k (l k)
theorem Ech.at {n c : Nat} {E : Nat -> Nat -> Int} {l : Nat -> Nat} (h : Ech n c E l) (x : Nat -> Int) {k : Nat} (hk : k < n) (h0 : ∀ i, i < k -> x i = 0) : sm n (fun i => x i * E i (l k)) = x k * E k (l k) := by
 refine sm_one k hk (fun i hi hne => ?_);rcases Nat.lt_or_gt_of_ne hne with hlt | hgt
 · rw [h0 i hlt, Int.zero_mul]
 · rw [h.zero i hi _ (h.inc k i hgt hi), Int.mul_zero]
theorem Ech.small {n c : Nat} {E : Nat -> Nat -> Int} {l : Nat -> Nat} (h : Ech n c E l) (x : Nat -> Int) : ∀ m, m <= n -> (∀ k, k < m -> (sm n (fun i => x i * E i (l k))).natAbs < (E k (l k)).natAbs) -> ∀ k, k < m -> x k = 0
 | 0, _, _, k, hk => by omega
 | m + 1, hm, hs, k, hk => by
  have ih := Ech.small h x m (by omega) (fun k hk => hs k (by omega));by_cases e : k = m
  · subst e;have h1 := hs k (by omega);rw [h.at x (by omega) ih, Int.natAbs_mul] at h1;have h2 : ¬ 0 < (x k).natAbs := fun h3 => by
     have := Nat.mul_le_mul_right (E k (l k)).natAbs h3;omega
    omega
  · exact ih k (by omega)
theorem Ech.none {n c : Nat} {E : Nat -> Nat -> Int} {l : Nat -> Nat} (h : Ech n c E l) {v : Nat -> Int} (hv : Sp n E v) (hs : ∀ k, k < n -> (v (l k)).natAbs < (E k (l k)).natAbs) (j : Nat) : v j = 0 := by
 obtain ⟨x, hx⟩ := hv;have h0 := h.small x n (Nat.le_refl _) (fun k hk => by rw [<- hx]; exact hs k hk);rw [hx, sm_zero (fun k hk => by rw [h0 k hk, Int.zero_mul])]
theorem Ech.none0 {n c : Nat} {E : Nat -> Nat -> Int} {l : Nat -> Nat} (h : Ech n c E l) {v : Nat -> Int} (hv : Sp n E v) (hs : ∀ k, k < n -> v (l k) = 0) (j : Nat) : v j = 0 :=
 h.none hv (fun k hk => by have := h.pos k hk; rw [hs k hk]; omega) j
theorem Ech.lead {n c : Nat} {E : Nat -> Nat -> Int} {l : Nat -> Nat} (h : Ech n c E l) {v : Nat -> Int} (hv : Sp n E v) {q : Nat} (hq : v q ≠ 0) (h0 : ∀ j, j < q -> v j = 0) : ∃ k, k < n /\ l k = q /\ E k q ∣ v q := by
 obtain ⟨x, hx⟩ := hv;have key : ∀ m, m <= n -> (∃ k, k < m /\ l k = q /\ E k q ∣ v q) ∨ (∀ k, k < m -> x k = 0 ∨ q < l k) := by
  intro m;induction m with
  | zero => exact fun _ => .inr (fun k hk => by omega)
  | succ m ih =>
   intro hm;rcases ih (by omega) with h1 | h1
   · obtain ⟨k, hk, h2⟩ := h1; exact .inl ⟨k, by omega, h2⟩
   · by_cases hlt : q < l m
     · exact .inr (fun k hk => by
        by_cases e : k = m
        · subst e; exact .inr hlt
        · exact h1 k (by omega))
     · have hz : ∀ i, i < m -> x i = 0 := fun i hi => (h1 i hi).elim id (fun h2 => by have := h.inc i m hi (by omega); omega);have h3 := h.at x (by omega : m < n) hz;rw [<- hx] at h3;by_cases e : l m = q
       · refine .inl ⟨m, by omega, e, ?_⟩;rw [e] at h3; rw [h3]; exact Int.dvd_mul_left ..
       · have h4 : v (l m) = 0 := h0 _ (by omega);rw [h4] at h3;have h5 := h.pos m (by omega);have h6 : x m = 0 := by
          rcases Int.mul_eq_zero.1 h3.symm with h7 | h7
          · exact h7
          · omega
         exact .inr (fun k hk => by
          by_cases e : k = m
          · subst e; exact .inl h6
          · exact .inl (hz k (by omega)))
 rcases key n (Nat.le_refl _) with h1 | h1
 · exact h1
 · exfalso;apply hq;rw [hx];refine sm_zero (fun k hk => ?_);rcases h1 k hk with h2 | h2
   · rw [h2, Int.zero_mul]
   · rw [h.zero k hk _ h2, Int.mul_zero]
theorem Ech.same {n m c c' : Nat} {E F : Nat -> Nat -> Int} {l l' : Nat -> Nat} (h : Ech n c E l) (h' : Ech m c' F l') (hs : SpEq n E m F) : n = m /\ ∀ k, k < n -> l k = l' k /\ E k (l k) = F k (l k) := by
 have one : ∀ {n m c c' : Nat} {E F : Nat -> Nat -> Int} {l l' : Nat -> Nat}, Ech n c E l -> Ech m c' F l' -> SpEq n E m F -> ∀ k, (∀ i, i < k -> i < n -> i < m -> l i = l' i) -> k < n -> (∀ i, i < k -> i < m) -> k < m /\ l' k <= l k /\ ∀ t, t < m -> l' t = l k -> F t (l k) ∣ E k (l k) := by
  intro n m c c' E F l l' h h' hs k ih hk hkm;obtain ⟨t, ht, e, hd⟩ := h'.lead (hs.1 k hk) (q := l k) (by have := h.pos k hk; omega) (h.zero k hk);have h1 : k <= t := by
   by_cases h2 : k <= t
   · exact h2
   · exfalso;have h3 := ih t (by omega) (by omega) ht;have h4 := h.inc t k (by omega) hk;omega
  have h2 : k < m := by omega
  refine ⟨h2, ?_, ?_⟩
  · rcases Nat.lt_or_eq_of_le h1 with h3 | h3
    · have := h'.inc k t h3 ht; omega
    · subst h3; omega
  · intro t' ht' e';have : t' = t := by
     rcases Nat.lt_trichotomy t' t with h3 | h3 | h3
     · have := h'.inc t' t h3 ht; omega
     · exact h3
     · have := h'.inc t t' h3 ht'; omega
    subst this; exact hd
 have all : ∀ k, (k < n ↔ k < m) /\ (k < n -> l k = l' k /\ E k (l k) = F k (l k)) := by
  intro k;induction k using Nat.strongRecOn with
  | _ k ih =>
   have h1 : k < n -> k < m := fun hk => (one h h' hs k (fun i hi hn _ => ((ih i hi).2 hn).1) hk (fun i hi => (ih i hi).1.1 (by omega))).1;have h2 : k < m -> k < n := fun hk => (one h' h hs.symm k (fun i hi hm _ => ((ih i hi).2 ((ih i hi).1.2 hm)).1.symm) hk (fun i hi => (ih i hi).1.2 (by omega))).1;refine ⟨⟨h1, h2⟩, fun hk => ?_⟩;have h3 := one h h' hs k (fun i hi hn _ => ((ih i hi).2 hn).1) hk (fun i hi => (ih i hi).1.1 (by omega));have h4 := one h' h hs.symm k (fun i hi hm _ => ((ih i hi).2 ((ih i hi).1.2 hm)).1.symm) (h1 hk) (fun i hi => (ih i hi).1.2 (by omega));have e : l k = l' k := by omega
   refine ⟨e, ?_⟩;have d1 := h3.2.2 k (h1 hk) e.symm;have d2 := h4.2.2 k hk e;rw [<- e] at d2;have p1 := h.pos k hk;have p2 := h'.pos k (h1 hk);rw [<- e] at p2;exact Int.dvd_antisymm (Int.le_of_lt p1) (Int.le_of_lt p2) d2 d1
 refine ⟨?_, fun k hk => (all k).2 hk⟩;have h1 := (all n).1;have h2 := (all m).1;omega
theorem Herm.unique {n m c c' : Nat} {E F : Nat -> Nat -> Int} {l l' : Nat -> Nat} (h : Herm n c E l) (h' : Herm m c' F l') (hs : SpEq n E m F) : n = m /\ (∀ k, k < n -> l k = l' k) /\ ∀ k, k < n -> ∀ j, E k j = F k j := by
 obtain ⟨hnm, hl⟩ := h.toEch.same h'.toEch hs;refine ⟨hnm, fun k hk => (hl k hk).1, fun i hi j => ?_⟩;have hw : Sp n E (fun j => E i j - F i j) := (Sp.row E hi).sub (hs.2 i (by omega));have := h.toEch.none hw (fun k hk => ?_) j
 · omega
 · have hlk := hl k hk;have hp := h.pos k hk;rcases Nat.lt_trichotomy k i with h1 | h1 | h1
   · have e1 : E i (l k) = 0 := h.zero i hi _ (h.inc k i h1 hi);have e2 : F i (l k) = 0 := h'.zero i (by omega) _ (by rw [hlk.1]; exact h'.inc k i h1 (by omega));rw [e1, e2]; omega
   · subst h1;have := hlk.2; omega
   · have r1 := h.red i k h1 hk;have r2 := h'.red i k h1 (by omega);rw [<- hlk.1, <- hlk.2] at r2;omega
def Indep (n : Nat) (a : Nat -> Nat -> Int) : Prop := ∀ x : Nat -> Int, (∀ j, sm n (fun k => x k * a k j) = 0) -> ∀ k, k < n -> x k = 0
theorem common : ∀ (n : Nat) (Y : Nat -> Int), (∀ k, k < n -> Y k ≠ 0) -> ∃ d : Int, d ≠ 0 /\ ∀ k, k < n -> Y k ∣ d
 | 0, _, _ => ⟨1, by omega, fun k hk => by omega⟩
 | n + 1, Y, h => by
  obtain ⟨d, hd, hk⟩ := common n Y (fun k hk => h k (by omega));refine ⟨d * Y n, fun e => ?_, fun k hk' => ?_⟩
  · rcases Int.mul_eq_zero.1 e with e | e
    · exact hd e
    · exact h n (by omega) e
  · by_cases e : k = n
    · subst e; exact Int.dvd_mul_left ..
    · exact Int.dvd_mul_of_dvd_left (hk k (by omega))
def hermD (n M : Nat) : Nat := n * (n * ((2 * n * M + 1) ^ (n - 1) * M)) * (n * ((2 * n * M + 1) ^ (n - 1) * M))
theorem Herm.bound {n c M : Nat} {E : Nat -> Nat -> Int} {l : Nat -> Nat} (h : Herm n c E l) {a : Nat -> Nat -> Int} (ha : ∀ k, k < n -> Sp n E (a k)) (hi : Indep n a) (hM : ∀ k j, k < n -> (a k j).natAbs <= M) : ∀ i j, i < n -> (E i j).natAbs <= hermD n M := by
 obtain ⟨D, hD⟩ : ∃ D, n * ((2 * n * M + 1) ^ (n - 1) * M) = D := ⟨_, rfl⟩;have hy : ∀ i, i < n -> ∃ y : Nat -> Int, Sp n E y /\ (∀ j, (y j).natAbs <= D) /\ (∀ k, k < n -> k ≠ i -> y (l k) = 0) /\ y (l i) ≠ 0 := by
  intro i hin;obtain ⟨x, ⟨k0, hk0, hx0⟩, hxb, hxz⟩ := siegel n (n - 1) M (fun k q => a k (l (if q < i then q else q + 1))) (by omega) (fun k j hk _ => hM k _ hk);have hz : ∀ k, k < n -> k ≠ i -> sm n (fun t => x t * a t (l k)) = 0 := by
   intro k hk hne;rcases Nat.lt_or_gt_of_ne hne with h1 | h1
   · have := hxz k (by omega);simpa [h1] using this
   · have := hxz (k - 1) (by omega);have e : ¬ k - 1 < i := by omega
     have e2 : k - 1 + 1 = k := by omega
     simpa [e, e2] using this
  have hsp : Sp n E (fun j => sm n (fun k => x k * a k j)) := Sp.sm ha;refine ⟨fun j => sm n (fun k => x k * a k j), hsp, fun j => ?_, hz, fun e => ?_⟩
  · rw [<- hD];refine sm_abs (fun k hk => ?_);rw [Int.natAbs_mul];exact Nat.mul_le_mul (hxb k hk) (hM k j hk)
  · have h0 := h.toEch.none0 hsp (fun k hk => by
     by_cases e' : k = i
     · subst e'; exact e
     · exact hz k hk e')
    exact hx0 (hi x h0 k0 hk0)
 have hpiv : ∀ i, i < n -> (E i (l i)).natAbs <= D := by
  intro i hin;obtain ⟨y, hs, hb, hz, hn⟩ := hy i hin;obtain ⟨x, hx⟩ := hs;have h0 : ∀ k, k < i -> x k = 0 := h.toEch.small x i (by omega) (fun k hk => by
   rw [<- hx, hz k (by omega) (by omega)]; have := h.pos k (by omega); omega)
  have h1 := h.toEch.at x hin h0;rw [<- hx] at h1;have h2 := hb (l i);rw [h1, Int.natAbs_mul] at h2;have h3 : 1 <= (x i).natAbs := by
   have : x i ≠ 0 := fun e => hn (by rw [h1, e, Int.zero_mul]);omega
  have h4 := Nat.mul_le_mul_right (E i (l i)).natAbs h3;omega
 have hent : ∀ i k, i < n -> k < n -> (E i (l k)).natAbs <= D := by
  intro i k hin hk;rcases Nat.lt_trichotomy i k with h1 | h1 | h1
  · have := h.red i k h1 hk; have := hpiv k hk; omega
  · subst h1; exact hpiv i hin
  · rw [h.zero i hin _ (h.inc k i h1 hin)]; simp
 intro i j hin;obtain ⟨y, hY⟩ : ∃ y : Nat -> Nat -> Int, ∀ i, i < n -> Sp n E (y i) /\ (∀ j, (y i j).natAbs <= D) /\ (∀ k, k < n -> k ≠ i -> y i (l k) = 0) /\ y i (l i) ≠ 0 := by
  refine ⟨fun i => if hin : i < n then Classical.choose (hy i hin) else fun _ => 0, fun i hin => ?_⟩;simp only [hin, dif_pos];exact Classical.choose_spec (hy i hin)
 obtain ⟨d, hd, hdv⟩ := common n (fun k => y k (l k)) (fun k hk => (hY k hk).2.2.2);obtain ⟨q, hq⟩ : ∃ q : Nat -> Int, ∀ k, k < n -> d = q k * y k (l k) := by
  refine ⟨fun k => d / y k (l k), fun k hk => ?_⟩;exact (Int.ediv_mul_cancel (hdv k hk)).symm
 have hsp : Sp n E (fun j => d * E i j - sm n (fun k => (E i (l k) * q k) * y k j)) := ((Sp.row E hin).smul d).sub (Sp.sm (fun k hk => (hY k hk).1));have h0 := h.toEch.none0 hsp (fun m hm => by
  rw [sm_one m hm (fun k hk hne => by rw [(hY k hk).2.2.1 m hm (fun e => hne e.symm), Int.mul_zero])];rw [Int.mul_assoc, <- hq m hm, Int.mul_comm]; omega) j
 have hb : (sm n (fun k => (E i (l k) * q k) * y k j)).natAbs <= n * (D * d.natAbs * D) := by
  refine sm_abs (fun k hk => ?_);rw [Int.natAbs_mul, Int.natAbs_mul];have h1 : (q k).natAbs <= d.natAbs := by
   have e := congrArg Int.natAbs (hq k hk);rw [Int.natAbs_mul] at e;have h2 : 1 <= (y k (l k)).natAbs := by have := (hY k hk).2.2.2; omega
   have h3 := Nat.mul_le_mul_left (q k).natAbs h2;omega
  exact Nat.mul_le_mul (Nat.mul_le_mul (hent i k hin hk) h1) ((hY k hk).2.1 j)
 have h1 : (d * E i j).natAbs <= n * (D * d.natAbs * D) := by
  have : d * E i j = sm n (fun k => (E i (l k) * q k) * y k j) := by omega
  rw [this]; exact hb
 rw [Int.natAbs_mul] at h1;have h2 : n * (D * d.natAbs * D) = d.natAbs * (n * D * D) := by
  simp only [Nat.mul_comm, Nat.mul_left_comm, Nat.mul_assoc]
 rw [h2] at h1;have h3 := Nat.le_of_mul_le_mul_left h1 (by omega : 0 < d.natAbs);unfold hermD;rw [hD]; exact h3
theorem gd_lt (xs : List Int) {i : Nat} (d : Int) (h : i < xs.length) : xs.getD i d = xs[i] := by simp [h]
theorem gd_ge (xs : List Int) {i : Nat} (d : Int) (h : xs.length <= i) : xs.getD i d = d := by simp [h]
def Sh (c : Nat) (R : List Hd) : Prop := ∀ h ∈ R, h.xs.length = c
theorem ent_get {R : List Hd} {i : Nat} (hi : i < R.length) (j : Nat) : ent R i j = R[i].xs.getD j 0 := by
 unfold ent; simp [hi]
theorem ent_out {R : List Hd} {i : Nat} (hi : R.length <= i) (j : Nat) : ent R i j = 0 := by
 unfold ent; rw [List.getElem?_eq_none hi]; rfl
theorem Sh.get {c : Nat} {R : List Hd} (h : Sh c R) {i : Nat} (hi : i < R.length) : R[i].xs.length = c := h _ (List.getElem_mem hi)
theorem Sh.wide {c : Nat} {R : List Hd} (h : Sh c R) (i : Nat) {j : Nat} (hj : c <= j) : ent R i j = 0 := by
 by_cases hi : i < R.length
 · rw [ent_get hi, gd_ge _ _ (by rw [h.get hi]; exact hj)]
 · exact ent_out (by omega) j
theorem Sh.setXs_ {c : Nat} {R : List Hd} (h : Sh c R) (i : Nat) {xs : List Int} (hx : xs.length = c) : Sh c (setXs R i xs) := by
 intro r hr;obtain ⟨j, hj, rfl⟩ := List.getElem_of_mem hr;rw [setXs_length] at hj;rw [setXs_get hj];split
 · exact hx
 · exact h.get hj
theorem ent_setXs {R : List Hd} {i : Nat} (hi : i < R.length) (xs : List Int) (a b : Nat) : ent (setXs R i xs) a b = if a = i then xs.getD b 0 else ent R a b := by
 by_cases ha : a < R.length
 · rw [ent_get (by rw [setXs_length]; exact ha), setXs_get ha];by_cases e : i = a
   · subst e; simp
   · rw [if_neg e, if_neg (fun h => e h.symm), ent_get ha]
 · rw [ent_out (by rw [setXs_length]; omega), if_neg (by omega), ent_out (by omega)]
theorem getD_zipWith {f : Int -> Int -> Int} (hf : f 0 0 = 0) {xs ys : List Int} (h : xs.length = ys.length) (b : Nat) : (List.zipWith f xs ys).getD b 0 = f (xs.getD b 0) (ys.getD b 0) := by
 by_cases hb : b < xs.length
 · have hb2 : b < ys.length := by omega
   have hb3 : b < (List.zipWith f xs ys).length := by simp; omega
   rw [gd_lt _ _ hb3, gd_lt _ _ hb, gd_lt _ _ hb2, List.getElem_zipWith]
 · rw [gd_ge _ _ (by simp; omega), gd_ge _ _ (by omega), gd_ge _ _ (by omega), hf]
theorem ent_addT {c : Nat} {R : List Hd} (hs : Sh c R) {i j : Nat} (hi : i < R.length) (hj : j < R.length) (k : Int) (a b : Nat) : ent (addT R i j k) a b = if a = i then k * ent R j b + ent R i b else ent R a b := by
 rw [addT_eq hi hj]; unfold addR;rw [ent_setXs hi];unfold addRow;rw [getD_zipWith (by simp) (by rw [hs.get hi, hs.get hj]), <- ent_get hi, <- ent_get hj]
theorem Sh.addT_ {c : Nat} {R : List Hd} (hs : Sh c R) (i j : Nat) (k : Int) : Sh c (addT R i j k) := by
 unfold addT;split
 · rename_i h;unfold addR;exact hs.setXs_ i (by unfold addRow; rw [List.length_zipWith, hs.get h.1, hs.get h.2]; omega)
 · exact hs
theorem blk_addT (R : List Hd) (i j : Nat) (k : Int) : (addT R i j k).map Hd.blk = R.map Hd.blk := by
 unfold addT; split
 · exact setXs_blk ..
 · rfl
theorem ent_mixT {c : Nat} {R : List Hd} (hs : Sh c R) {i j : Nat} (hi : i < R.length) (hj : j < R.length) (hij : i ≠ j) (p q r s : Int) (a b : Nat) : ent (mixT R i j p q r s) a b = if a = i then p * ent R i b + q * ent R j b else if a = j then r * ent R i b + s * ent R j b else ent R a b := by
 rw [mixT_eq hi hj]; unfold mixR;rw [ent_setXs (by rw [setXs_length]; exact hj), ent_setXs hi];have hl : R[i].xs.length = R[j].xs.length := by rw [hs.get hi, hs.get hj]
 unfold mixRow;rw [getD_zipWith (by simp) hl, getD_zipWith (by simp) hl, <- ent_get hi, <- ent_get hj];by_cases e : a = i
 · subst e; rw [if_neg hij, if_pos rfl, if_pos rfl]
 · rw [if_neg e, if_neg e]
theorem Sh.mixT_ {c : Nat} {R : List Hd} (hs : Sh c R) (i j : Nat) (p q r s : Int) : Sh c (mixT R i j p q r s) := by
 unfold mixT;split
 · rename_i h;unfold mixR;refine (hs.setXs_ i ?_).setXs_ j ?_ <;> (unfold mixRow; rw [List.length_zipWith, hs.get h.1, hs.get h.2]; omega)
 · exact hs
theorem blk_mixT (R : List Hd) (i j : Nat) (p q r s : Int) : (mixT R i j p q r s).map Hd.blk = R.map Hd.blk := by
 unfold mixT; split
 · unfold mixR; rw [setXs_blk, setXs_blk]
 · rfl
theorem ent_turnT {R : List Hd} {i : Nat} (hi : i < R.length) (a b : Nat) : ent (turnT R i) a b = if a = i then - ent R i b else ent R a b := by
 rw [turnT_eq hi]; unfold turnR;rw [ent_setXs hi, ent_get hi];split
 · unfold negRow;by_cases hb : b < R[i].xs.length
   · rw [gd_lt _ _ (by simpa using hb), gd_lt _ _ hb]; simp
   · rw [gd_ge _ _ (by simp; omega), gd_ge _ _ (by omega)]; rfl
 · rfl
theorem Sh.turnT_ {c : Nat} {R : List Hd} (hs : Sh c R) (i : Nat) : Sh c (turnT R i) := by
 unfold turnT;split
 · rename_i h;unfold turnR;exact hs.setXs_ i (by simp [negRow, hs.get h])
 · exact hs
theorem swapT_get {R : List Hd} {i j m : Nat} (hi : i < R.length) (hj : j < R.length) (hm : m < R.length) : (swapT R i j)[m]'(by rw [swapT_length]; exact hm) = R[swp i j m]'(swp_lt hi hj hm) := by
 have := swapR_get hi hj hm;rw [<- this]; congr 1; exact swapT_eq hi hj
theorem ent_swapT {R : List Hd} {i j : Nat} (hi : i < R.length) (hj : j < R.length) (a b : Nat) : ent (swapT R i j) a b = ent R (swp i j a) b := by
 by_cases ha : a < R.length
 · rw [ent_get (by rw [swapT_length]; exact ha), swapT_get hi hj ha, ent_get]
 · rw [ent_out (by rw [swapT_length]; omega), ent_out];unfold swp; split
   · omega
   · split <;> omega
theorem Sh.swapT_ {c : Nat} {R : List Hd} (hs : Sh c R) (i j : Nat) : Sh c (swapT R i j) := by
 unfold swapT;split
 · rename_i h;intro r hr;obtain ⟨m, hm, rfl⟩ := List.getElem_of_mem hr;rw [swapR_length] at hm;rw [swapR_get h.1 h.2 hm];exact hs.get _
 · exact hs
theorem lead_ent {R : List Hd} {i : Nat} (hi : i < R.length) {c : Nat} (hs : Sh c R) : (leadOf R i <= c) /\ (∀ b, b < leadOf R i -> ent R i b = 0) /\ (leadOf R i < c -> ent R i (leadOf R i) ≠ 0) := by
 rw [leadOf_eq hi];have key : ∀ xs : List Int, (∀ b, b < lead xs -> xs.getD b 0 = 0) /\ (lead xs < xs.length -> xs.getD (lead xs) 0 ≠ 0) := by
  intro xs;induction xs with
  | nil => exact ⟨fun b _ => by simp, fun h => by simp at h⟩
  | cons x xs ih =>
   unfold lead;by_cases hx : x = 0
   · rw [if_pos hx];refine ⟨fun b hb => ?_, fun h => ?_⟩
     · cases b with
       | zero => simpa using hx
       | succ b => rw [List.getD_cons_succ]; exact ih.1 b (by omega)
     · rw [List.getD_cons_succ]; exact ih.2 (by simpa using h)
   · rw [if_neg hx];exact ⟨fun b hb => by omega, fun _ => by simpa using hx⟩
 have hl := hs.get hi;have h1 := key R[i].xs;refine ⟨hl ▸ lead_le _, fun b hb => ?_, fun h => ?_⟩
 · rw [ent_get hi]; exact h1.1 b hb
 · rw [ent_get hi]; exact h1.2 (by omega)
theorem leadOf_at {R : List Hd} {i : Nat} (hi : i < R.length) {c : Nat} (hs : Sh c R) {j : Nat} (h0 : ∀ b, b < j -> ent R i b = 0) (hj : ent R i j ≠ 0) : leadOf R i = j := by
 have h1 := lead_ent hi hs;have hjc : j < c := by
  by_cases h : j < c
  · exact h
  · exact absurd (hs.wide i (by omega)) hj
 rcases Nat.lt_trichotomy (leadOf R i) j with h | h | h
 · exact absurd (h0 _ h) (h1.2.2 (by omega))
 · exact h
 · exact absurd (h1.2.1 _ h) hj
theorem Fit.of {B c : Nat} {R : List Hd} (hs : Sh c R) (h : ∀ a b, (ent R a b).natAbs < W ^ B) : Fit B c R := by
 refine ⟨hs, fun r hr x hx => ?_⟩;obtain ⟨i, hi, rfl⟩ := List.getElem_of_mem hr;obtain ⟨j, hj, rfl⟩ := List.getElem_of_mem hx;have := h i j;rw [ent_get hi, gd_lt _ _ hj] at this;exact wlen_le_of_lt this
/-! Bounds by powers of the base. -/
theorem pw_le {u v : Nat} (h : u <= v) : W ^ u <= W ^ v := Nat.pow_le_pow_right W_pos h
theorem pw_lt {n u v : Nat} (h : n < W ^ u) (k : u <= v) : n < W ^ v := Nat.lt_of_lt_of_le h (pw_le k)
theorem pw_pos (u : Nat) : 0 < W ^ u := Nat.pow_pos W_pos
theorem pw_muladd {k y x u d : Nat} (hk : k < W ^ u) (hy : y < W ^ d) (hx : x < W ^ u) : k * y + x < W ^ (u + d) := by
 have h1 : (k + 1) * W ^ d <= W ^ u * W ^ d := Nat.mul_le_mul_right _ hk;have h2 : k * (y + 1) <= k * W ^ d := Nat.mul_le_mul_left _ hy;rw [Nat.pow_add];rw [Nat.succ_mul] at h1;rw [Nat.mul_add, Nat.mul_one] at h2;have h3 : W ^ u <= W ^ u * W ^ d := by have := Nat.mul_le_mul_left (W ^ u) (pw_pos d); omega
 by_cases hk0 : k = 0
 · subst hk0; omega
 · have h4 : k * y + k <= k * W ^ d := h2;have h5 : (W ^ u - 1) * y + (W ^ u - 1) <= (W ^ u - 1) * W ^ d := by
    have := Nat.mul_le_mul_left (W ^ u - 1) hy;rw [Nat.mul_succ] at this; exact this
   have h6 : k * y <= (W ^ u - 1) * y := Nat.mul_le_mul_right _ (by omega);have h7 : (W ^ u - 1) * W ^ d < W ^ u * W ^ d := Nat.mul_lt_mul_of_pos_right (by have := pw_pos u; omega) (pw_pos d);omega
theorem natAbs_muladd (k y x : Int) : (k * y + x).natAbs <= k.natAbs * y.natAbs + x.natAbs := by
 have := Int.natAbs_add_le (k * y) x
 rwa [Int.natAbs_mul] at this
theorem fdiv_le {x y : Int} (hy : 0 < y) : (x.fdiv y).natAbs <= x.natAbs := by
 rw [Int.fdiv_eq_ediv_of_nonneg _ (Int.le_of_lt hy)];exact Int.natAbs_ediv_le_natAbs x y
theorem fmod_lt' {x y : Int} (hy : 0 < y) : 0 <= x.fmod y /\ x.fmod y < y := by
 rw [Int.fmod_eq_emod_of_nonneg _ (Int.le_of_lt hy)];exact ⟨Int.emod_nonneg _ (by omega), Int.emod_lt_of_pos _ hy⟩
theorem fmod_def' {x y : Int} (hy : 0 < y) : -(x.fdiv y) * y + x = x.fmod y := by
 rw [Int.fdiv_eq_ediv_of_nonneg _ (Int.le_of_lt hy), Int.fmod_eq_emod_of_nonneg _ (Int.le_of_lt hy), Int.emod_def, Int.mul_comm y, Int.neg_mul]; omega
/-! settle. -/
def sinF (ls : List Nat) (i : Nat) : Nat -> Nat -> List Hd -> List Hd
 | 0, _, R => R
 | f + 1, k, R => sinF ls i f (k + 1) (addT R i k (-((ent R i (ls.getD k 0)).fdiv (ent R k (ls.getD k 0)))))
def soutF (ls : List Nat) (n : Nat) : Nat -> List Hd -> List Hd
 | 0, R => R
 | m + 1, R => soutF ls n m (sinF ls m (n - (m + 1)) (m + 1) R)
theorem SpEq.add {n : Nat} {E F : Nat -> Nat -> Int} {i k : Nat} (hi : i < n) (hk : k < n) (hik : i ≠ k) (q : Int) (h : ∀ a b, F a b = if a = i then q * E k b + E i b else E a b) : SpEq n E n F := by
 refine ⟨fun a ha => ?_, fun a ha => ?_⟩
 · by_cases e : a = i
   · subst e;refine ((Sp.row F ha).add ((Sp.row F hk).smul (-q))).congr (fun j => ?_);rw [h a j, if_pos rfl, h k j, if_neg (fun e => hik e.symm), Int.neg_mul]; omega
   · exact (Sp.row F ha).congr (fun j => by rw [h, if_neg e])
 · by_cases e : a = i
   · subst e;refine (((Sp.row E hk).smul q).add (Sp.row E ha)).congr (fun j => ?_);rw [h, if_pos rfl]
   · exact (Sp.row E ha).congr (fun j => by rw [h, if_neg e])
structure SinOk (n c i k : Nat) (l : Nat -> Nat) (R R' : List Hd) : Prop where
 same : ∀ a, a ≠ i -> ∀ b, ent R' a b = ent R a b
 low : ∀ b, (∀ m, k <= m -> m < n -> b < l m) -> ent R' i b = ent R i b
 red : ∀ m, k <= m -> m < n -> 0 <= ent R' i (l m) /\ ent R' i (l m) < ent R m (l m)
 sh : Sh c R'
 len : R'.length = R.length
 blk : R'.map Hd.blk = R.map Hd.blk
 sp : SpEq n (ent R) n (ent R')
theorem Ech.add {n c : Nat} {E F : Nat -> Nat -> Int} {l : Nat -> Nat} (h : Ech n c E l) {i k : Nat} (hik : i < k) (hk : k < n) (q : Int) (e : ∀ a b, F a b = if a = i then q * E k b + E i b else E a b) : Ech n c F l := by
 refine ⟨h.inc, h.lt, fun a ha j hj => ?_, fun a ha => ?_⟩
 · rw [e]; split
   · rename_i e'; subst e';rw [h.zero k hk j (by have := h.inc a k hik hk; omega), h.zero a ha j hj]; simp
   · exact h.zero a ha j hj
 · rw [e]; split
   · rename_i e'; subst e';rw [h.zero k hk _ (h.inc a k hik hk)]; have := h.pos a ha; simpa using this
   · exact h.pos a ha
theorem sinF_ok {n c i : Nat} {l : Nat -> Nat} {ls : List Nat} (hls : ∀ k, k < n -> ls.getD k 0 = l k) : ∀ (f k : Nat) (R : List Hd), k + f = n -> i < k -> Sh c R -> n <= R.length -> Ech n c (ent R) l -> SinOk n c i k l R (sinF ls i f k R)
 | 0, k, R, hf, hik, hs, hn, hE => ⟨fun _ _ _ => rfl, fun _ _ => rfl, fun m h1 h2 => by omega, hs, rfl, rfl, SpEq.refl _ _⟩
 | f + 1, k, R, hf, hik, hs, hn, hE => by
  have hk : k < n := by omega
  have he := fun (a b : Nat) => ent_addT hs (i := i) (j := k) (by omega) (by omega) (-((ent R i (ls.getD k 0)).fdiv (ent R k (ls.getD k 0)))) a b;have ih := sinF_ok (i := i) hls f (k + 1) (addT R i k (-((ent R i (ls.getD k 0)).fdiv (ent R k (ls.getD k 0))))) (by omega) (by omega) (hs.addT_ i k _) (by rw [addT_length]; exact hn) (hE.add hik hk _ he);rw [hls k hk] at he;have hp := hE.pos k hk;refine ⟨fun a ha b => ?_, fun b hb => ?_, fun m hm hmn => ?_, ih.sh, ih.len.trans (addT_length ..), ih.blk.trans (blk_addT ..), (SpEq.add (by omega) hk (by omega) _ he).trans (by rw [<- hls k hk]; exact ih.sp)⟩
  · show ent (sinF ls i f (k + 1) _) a b = _;rw [ih.same a ha b, hls k hk, he, if_neg ha]
  · show ent (sinF ls i f (k + 1) _) i b = _;rw [ih.low b (fun m h1 h2 => hb m (by omega) h2), hls k hk, he, if_pos rfl, hE.zero k hk b (hb k (Nat.le_refl _) hk)]; omega
  · by_cases e : m = k
    · subst e;show 0 <= ent (sinF ls i f (m + 1) _) i (l m) /\ ent (sinF ls i f (m + 1) _) i (l m) < _;rw [ih.low (l m) (fun q h1 h2 => hE.inc m q (by omega) h2), hls m hk, he, if_pos rfl, fmod_def' hp];exact fmod_lt' hp
    · have h1 := ih.red m (by omega) hmn;rw [hls k hk, he m, if_neg (by omega)] at h1;show 0 <= ent (sinF ls i f (k + 1) _) i (l m) /\ ent (sinF ls i f (k + 1) _) i (l m) < _;rw [hls k hk];exact h1
theorem Ech.congr {n c : Nat} {E F : Nat -> Nat -> Int} {l : Nat -> Nat} (h : Ech n c E l) (e : ∀ a, a < n -> ∀ b, F a b = E a b) : Ech n c F l :=
 ⟨h.inc, h.lt, fun a ha j hj => (e a ha j).trans (h.zero a ha j hj), fun a ha => by rw [e a ha]; exact h.pos a ha⟩
theorem SinOk.ech {n c i k : Nat} {l : Nat -> Nat} {R R' : List Hd} (h : SinOk n c i k l R R') (hE : Ech n c (ent R) l) (hik : i < k) (hin : i < n) : Ech n c (ent R') l := by
 have hlow : ∀ b, b <= l i -> ent R' i b = ent R i b := fun b hb => h.low b (fun m h1 h2 => by have := hE.inc i m (by omega) h2; omega);refine ⟨hE.inc, hE.lt, fun a ha j hj => ?_, fun a ha => ?_⟩
 · by_cases e : a = i
   · subst e; rw [hlow j (by omega)]; exact hE.zero a ha j hj
   · rw [h.same a e]; exact hE.zero a ha j hj
 · by_cases e : a = i
   · subst e; rw [hlow _ (Nat.le_refl _)]; exact hE.pos a ha
   · rw [h.same a e]; exact hE.pos a ha
structure SoutOk (n c m : Nat) (l : Nat -> Nat) (R R' : List Hd) : Prop where
 same : ∀ a, m <= a -> ∀ b, ent R' a b = ent R a b
 herm : Herm n c (ent R') l
 sh : Sh c R'
 len : R'.length = R.length
 blk : R'.map Hd.blk = R.map Hd.blk
 sp : SpEq n (ent R) n (ent R')
theorem soutF_ok {n c : Nat} {l : Nat -> Nat} {ls : List Nat} (hls : ∀ k, k < n -> ls.getD k 0 = l k) : ∀ (m : Nat) (R : List Hd), m <= n -> Sh c R -> n <= R.length -> Ech n c (ent R) l -> (∀ i k, m <= i -> i < k -> k < n -> 0 <= ent R i (l k) /\ ent R i (l k) < ent R k (l k)) -> SoutOk n c m l R (soutF ls n m R)
 | 0, R, hm, hs, hn, hE, hr => ⟨fun _ _ _ => rfl, ⟨hE, fun i k => hr i k (Nat.zero_le _)⟩, hs, rfl, rfl, SpEq.refl _ _⟩
 | m + 1, R, hm, hs, hn, hE, hr => by
  have h1 := sinF_ok (i := m) hls (n - (m + 1)) (m + 1) R (by omega) (by omega) hs hn hE;have h2 := soutF_ok hls m (sinF ls m (n - (m + 1)) (m + 1) R) (by omega) h1.sh (by rw [h1.len]; exact hn) (h1.ech hE (by omega) (by omega)) (fun i k hi hik hk => by
   by_cases e : i = m
   · subst e;rw [h1.same k (by omega)];exact h1.red k (by omega) hk
   · rw [h1.same i e, h1.same k (by omega)];exact hr i k (by omega) hik hk)
  exact ⟨fun a ha b => (h2.same a (by omega) b).trans (h1.same a (by omega) b), h2.herm, h2.sh, h2.len.trans h1.len, h2.blk.trans h1.blk, h1.sp.trans h2.sp⟩
theorem SIn_of {n c i B δ : Nat} {l : Nat -> Nat} {ls : List Nat} (hls : ∀ k, k < n -> ls.getD k 0 = l k) : ∀ (f k u : Nat) (R : List Hd), k + f = n -> i < k -> Sh c R -> n <= R.length -> Ech n c (ent R) l ->
 (∀ a b, (ent R a b).natAbs < W ^ B) -> (∀ b, (ent R i b).natAbs < W ^ u) -> (∀ a, k <= a -> a < n -> ∀ b, (ent R a b).natAbs < W ^ δ) -> u + f * δ <= B -> SIn B c ls i n k R (sinF ls i f k R)
 | 0, k, u, R, hf, hik, hs, hn, hE, hB, hu, hd, hb => .done (by omega)
 | f + 1, k, u, R, hf, hik, hs, hn, hE, hB, hu, hd, hb => by
  have hk : k < n := by omega
  have he := fun (a b : Nat) => ent_addT hs (i := i) (j := k) (by omega) (by omega) (-((ent R i (ls.getD k 0)).fdiv (ent R k (ls.getD k 0)))) a b;have hp := hE.pos k hk;have hq : ((ent R i (ls.getD k 0)).fdiv (ent R k (ls.getD k 0))).natAbs < W ^ u := by
   rw [hls k hk];exact Nat.lt_of_le_of_lt (fdiv_le hp) (hu _)
  have hrow : ∀ b, (ent (addT R i k (-((ent R i (ls.getD k 0)).fdiv (ent R k (ls.getD k 0))))) i b).natAbs < W ^ (u + δ) := by
   intro b;rw [he, if_pos rfl];refine Nat.lt_of_le_of_lt (natAbs_muladd _ _ _) ?_;rw [Int.natAbs_neg];exact pw_muladd hq (hd k (Nat.le_refl _) hk b) (hu b)
  have e1 : (f + 1) * δ = f * δ + δ := Nat.succ_mul ..;refine .step hk (Fit.of hs hB) (by rw [hls k hk]; exact hE.lt k hk) (by rw [hls k hk]; omega) ?_;refine SIn_of (δ := δ) hls f (k + 1) (u + δ) _ (by omega) (by omega) (hs.addT_ i k _) (by rw [addT_length]; exact hn) (hE.add hik hk _ he) (fun a b => ?_) hrow (fun a h1 h2 b => ?_) (by omega)
  · by_cases e : a = i
    · subst e; exact pw_lt (hrow b) (by omega)
    · rw [he, if_neg e]; exact hB a b
  · rw [he, if_neg (by omega)]; exact hd a (by omega) h2 b
theorem SOut_of {n c B δ u : Nat} {l : Nat -> Nat} {ls : List Nat} (hls : ∀ k, k < n -> ls.getD k 0 = l k) (hb : u + n * δ <= B) : ∀ (m : Nat) (R : List Hd), m <= n -> Sh c R -> n <= R.length -> Ech n c (ent R) l -> (∀ i k, m <= i -> i < k -> k < n -> 0 <= ent R i (l k) /\ ent R i (l k) < ent R k (l k)) ->
 (∀ a b, (ent R a b).natAbs < W ^ B) -> (∀ a, a < m -> ∀ b, (ent R a b).natAbs < W ^ u) -> (∀ a, a < n -> ∀ b, (ent (soutF ls n m R) a b).natAbs < W ^ δ) -> SOut B c ls n m R (soutF ls n m R)
 | 0, R, hm, hs, hn, hE, hr, hB, hu, hd => .done
 | m + 1, R, hm, hs, hn, hE, hr, hB, hu, hd => by
  have hout := soutF_ok hls (m + 1) R hm hs hn hE hr;have h1 := sinF_ok (i := m) hls (n - (m + 1)) (m + 1) R (by omega) (by omega) hs hn hE;have hr1 : ∀ i k, m <= i -> i < k -> k < n -> 0 <= ent (sinF ls m (n - (m + 1)) (m + 1) R) i (l k) /\ ent (sinF ls m (n - (m + 1)) (m + 1) R) i (l k) < ent (sinF ls m (n - (m + 1)) (m + 1) R) k (l k) := fun i k hi hik hk => by
   by_cases e : i = m
   · subst e;rw [h1.same k (by omega)];exact h1.red k (by omega) hk
   · rw [h1.same i e, h1.same k (by omega)];exact hr i k (by omega) hik hk
  have h2 := soutF_ok hls m (sinF ls m (n - (m + 1)) (m + 1) R) (by omega) h1.sh (by rw [h1.len]; exact hn) (h1.ech hE (by omega) (by omega)) hr1;have hmul : (n - (m + 1)) * δ <= n * δ := Nat.mul_le_mul_right _ (by omega);have hδ : δ <= n * δ := by have := Nat.mul_le_mul_right δ (show 1 <= n by omega); omega
  refine .step (SIn_of (δ := δ) hls (n - (m + 1)) (m + 1) u R (by omega) (by omega) hs hn hE hB (fun b => hu m (by omega) b) (fun a h3 h4 b => ?_) (by omega)) ?_
  · rw [<- hout.same a h3 b]; exact hd a h4 b
  · refine SOut_of hls hb m _ (by omega) h1.sh (by rw [h1.len]; exact hn) (h1.ech hE (by omega) (by omega)) hr1 (fun a b => ?_) (fun a ha b => ?_) hd
    · by_cases e : a = m
      · subst e;rw [<- h2.same a (Nat.le_refl _) b];exact pw_lt (hd a (by omega) b) (by omega)
      · rw [h1.same a e]; exact hB a b
    · rw [h1.same a (by omega)]; exact hu a (by omega) b
/-! meet. -/
theorem ext_eq (a b : Int) (hb : b ≠ 0) : a * extX a b + b * extY a b = extG a b := by
 have h := ext_is a b;unfold ExtIs at h;rw [if_neg hb] at h;exact h.2.2.2
theorem SpEq.two {N : Nat} {E F : Nat -> Nat -> Int} {k n : Nat} (hk : k < N) (hn : n < N) (hkn : k ≠ n) (hs : ∀ a, a ≠ k -> a ≠ n -> ∀ b, F a b = E a b)
 {x y z t x' y' z' t' : Int} (h1 : ∀ b, F k b = x * E k b + y * E n b) (h2 : ∀ b, F n b = z * E k b + t * E n b) (h3 : ∀ b, E k b = x' * F k b + y' * F n b) (h4 : ∀ b, E n b = z' * F k b + t' * F n b) : SpEq N E N F := by
 refine ⟨fun a ha => ?_, fun a ha => ?_⟩
 · by_cases e : a = k
   · subst e; exact (((Sp.row F hk).smul x').add ((Sp.row F hn).smul y')).congr h3
   · by_cases e' : a = n
     · subst e'; exact (((Sp.row F hk).smul z').add ((Sp.row F hn).smul t')).congr h4
     · exact (Sp.row F ha).congr (fun j => (hs a e e' j).symm)
 · by_cases e : a = k
   · subst e; exact (((Sp.row E hk).smul x).add ((Sp.row E hn).smul y)).congr h1
   · by_cases e' : a = n
     · subst e'; exact (((Sp.row E hk).smul z).add ((Sp.row E hn).smul t)).congr h2
     · exact (Sp.row E ha).congr (fun j => hs a e e' j)
structure MeetOk (c k n j δ u : Nat) (R R' : List Hd) : Prop where
 same : ∀ a, a ≠ k -> a ≠ n -> ∀ b, ent R' a b = ent R a b
 low : ∀ b, b < j -> ent R' k b = 0
 piv : 0 < ent R' k j
 gone : ∀ b, b <= j -> ent R' n b = 0
 comb : ∃ t s : Int, t ≠ 0 /\ ∀ b, ent R' n b = t * ent R n b + s * ent R k b
 sp : ∀ N, k < N -> n < N -> SpEq N (ent R) N (ent R')
 bk : ∀ b, (ent R' k b).natAbs < W ^ (u + 2 * δ + 1)
 bn : ∀ b, (ent R' n b).natAbs < W ^ (u + 2 * δ + 1)
 sh : Sh c R'
 len : R'.length = R.length
 blk : R'.map Hd.blk = R.map Hd.blk
theorem meetA_ent {c : Nat} {R : List Hd} (hs : Sh c R) {k n : Nat} (hk : k < R.length) (hn : n < R.length) (j a b : Nat) : ent (meetA R k n j) a b = if a = n then -((ent R n j).fdiv (ent R k j)) * ent R k b + ent R n b else ent R a b :=
 ent_addT hs hn hk _ a b
theorem pw_two {x y z t u d : Nat} (hx : x <= W ^ d) (hy : y < W ^ d) (hz : z <= W ^ d) (ht : t < W ^ (u + d)) : x * y + z * t < W ^ (u + 2 * d + 1) := by
 have h1 : x * y <= W ^ d * W ^ d := Nat.mul_le_mul hx (Nat.le_of_lt hy);have h2 : z * t <= W ^ d * W ^ (u + d) := Nat.mul_le_mul hz (Nat.le_of_lt ht);have e1 : W ^ d * W ^ d <= W ^ (u + 2 * d) := by rw [<- Nat.pow_add]; exact pw_le (by omega)
 have e2 : W ^ d * W ^ (u + d) = W ^ (u + 2 * d) := by rw [<- Nat.pow_add]; congr 1; omega
 have e3 : W ^ (u + 2 * d) * 2 < W ^ (u + 2 * d + 1) := by
  rw [Nat.pow_succ];exact Nat.mul_lt_mul_of_pos_left (by unfold W; omega) (pw_pos _)
 omega
theorem meetA_bound {c : Nat} {R : List Hd} (hs : Sh c R) {k n j δ u : Nat} (hk : k < R.length) (hn : n < R.length) (hp : 0 < ent R k j) (hbk : ∀ b, (ent R k b).natAbs < W ^ δ) (hbn : ∀ b, (ent R n b).natAbs < W ^ u) (b : Nat) : (ent (meetA R k n j) n b).natAbs < W ^ (u + δ) := by
 rw [meetA_ent hs hk hn, if_pos rfl];refine Nat.lt_of_le_of_lt (natAbs_muladd _ _ _) ?_;rw [Int.natAbs_neg];exact pw_muladd (Nat.lt_of_le_of_lt (fdiv_le hp) (hbn j)) (hbk b) (hbn b)
theorem blk_meetT (R : List Hd) (k n j : Nat) : (meetT R k n j).map Hd.blk = R.map Hd.blk := by
 unfold meetT meetA; split
 · exact blk_addT ..
 · rw [blk_mixT]; exact blk_addT ..
theorem meet_ok {c k n j δ u : Nat} {R : List Hd} (hs : Sh c R) (hk : k < R.length) (hn : n < R.length) (hkn : k ≠ n) (hp : 0 < ent R k j) (h0 : ∀ b, b < j -> ent R k b = 0) (h1 : ∀ b, b < j -> ent R n b = 0)
 (hbk : ∀ b, (ent R k b).natAbs < W ^ δ) (hbn : ∀ b, (ent R n b).natAbs < W ^ u) : MeetOk c k n j δ u R (meetT R k n j) := by
 have hA := meetA_ent hs hk hn j;have hAn := fun b => (hA n b).trans (if_pos rfl);have hAk := fun b => (hA k b).trans (if_neg hkn);have hAs := fun a b (h : a ≠ n) => (hA a b).trans (if_neg h);have hsA : Sh c (meetA R k n j) := hs.addT_ n k _;have hlA : (meetA R k n j).length = R.length := addT_length ..;have hbA := meetA_bound hs hk hn hp hbk hbn;have hr : ent (meetA R k n j) n j = (ent R n j).fmod (ent R k j) := by rw [hAn, fmod_def' hp]
 have hrr := fmod_lt' (x := ent R n j) hp;by_cases hz : (ent R n j).fmod (ent R k j) = 0
 · have e : meetT R k n j = meetA R k n j := by unfold meetT; rw [if_pos hz]
   rw [e];refine ⟨fun a _ h b => hAs a b h, fun b hb => (hAk b).trans (h0 b hb), by rw [hAk]; exact hp, fun b hb => ?_, ⟨1, -((ent R n j).fdiv (ent R k j)), by omega, fun b => ?_⟩, fun N hkN hnN => SpEq.add hnN hkN (fun e => hkn e.symm) _ hA, fun b => ?_, fun b => pw_lt (hbA b) (by omega), hsA, hlA, blk_addT ..⟩
   · rcases Nat.lt_or_eq_of_le hb with h | h
     · rw [hAn, h0 b h, h1 b h]; simp
     · subst h; rw [hr, hz]
   · rw [hAn, Int.one_mul]; omega
   · rw [hAk]; exact pw_lt (hbk b) (by omega)
 · obtain ⟨M, hM⟩ : ∃ M, meetA R k n j = M := ⟨_, rfl⟩;rw [hM] at hAn hAk hAs hsA hlA hbA hr;have e : meetT R k n j = mixT M k n (extX (ent M k j) (ent M n j)) (extY (ent M k j) (ent M n j)) (-(ent M n j / extG (ent M k j) (ent M n j))) (ent M k j / extG (ent M k j) (ent M n j)) := by
    unfold meetT; rw [if_neg hz, hM]
   obtain ⟨p, hp'⟩ : ∃ p, ent M k j = p := ⟨_, rfl⟩;obtain ⟨r, hr'⟩ : ∃ r, ent M n j = r := ⟨_, rfl⟩;have hpp : p = ent R k j := hp'.symm.trans (hAk j);rw [hr'] at hr;rw [hp', hr'] at e;have hrne : r ≠ 0 := by rw [hr]; exact hz
   rw [<- hr, <- hpp] at hrr;have hrp : 0 < r := by omega
   have hg := extG_dvd p r;have hx := ext_eq p r hrne;have hxl := extX_le p r;have hyl := extY_le p r;obtain ⟨g, hgd⟩ : ∃ g, extG p r = g := ⟨_, rfl⟩;obtain ⟨x, hxd⟩ : ∃ x, extX p r = x := ⟨_, rfl⟩;obtain ⟨y, hyd⟩ : ∃ y, extY p r = y := ⟨_, rfl⟩;rw [hgd] at hg hx e;rw [hxd] at hx hxl e;rw [hyd] at hx hyl e;have hgp : 0 < g := by have := hg.2.2.1 (by omega); have := hg.2.2.2; omega
   obtain ⟨p', hp1⟩ := hg.1;obtain ⟨r', hr1⟩ := hg.2.1;have hpd : p / g = p' := by rw [hp1, Int.mul_ediv_cancel_left _ (by omega)]
   have hrd : r / g = r' := by rw [hr1, Int.mul_ediv_cancel_left _ (by omega)]
   rw [hpd, hrd] at e;have hk1 : p' * x + r' * y = 1 := by
    have : g * (p' * x + r' * y) = g * 1 := by
     rw [Int.mul_add, <- Int.mul_assoc, <- Int.mul_assoc, <- hp1, <- hr1, hx]; omega
    exact Int.eq_of_mul_eq_mul_left (by omega) this
   have hp0 : p' ≠ 0 := fun h => by rw [h, Int.mul_zero] at hp1; omega
   have hmix := ent_mixT hsA (by omega : k < M.length) (by omega : n < M.length) hkn x y (-r') p';rw [<- e] at hmix;have hmk := fun b => (hmix k b).trans (if_pos rfl);have hmn := fun b => ((hmix n b).trans (if_neg (fun h => hkn h.symm))).trans (if_pos rfl);have hms := fun a b (h : a ≠ k) (h' : a ≠ n) => ((hmix a b).trans (if_neg h)).trans (if_neg h');have hM0 : ∀ b, b < j -> ent M n b = 0 := fun b hb => by rw [hAn, h0 b hb, h1 b hb]; simp
   have hpD : p.natAbs < W ^ δ := by rw [hpp]; exact hbk j
   have hrD : r.natAbs < W ^ δ := by omega
   have hp'D : p'.natAbs <= W ^ δ := by
    have h2 : p'.natAbs <= p.natAbs := by
     rw [hp1, Int.natAbs_mul];have := Nat.mul_le_mul_right p'.natAbs (show 1 <= g.natAbs by omega);omega
    omega
   have hr'D : r'.natAbs <= W ^ δ := by
    have h2 : r'.natAbs <= r.natAbs := by
     rw [hr1, Int.natAbs_mul];have := Nat.mul_le_mul_right r'.natAbs (show 1 <= g.natAbs by omega);omega
    omega
   have bnd : ∀ (s t : Int) b, s.natAbs <= W ^ δ -> t.natAbs <= W ^ δ -> (s * ent M k b + t * ent M n b).natAbs < W ^ (u + 2 * δ + 1) := by
    intro s t b hs' ht';refine Nat.lt_of_le_of_lt (Int.natAbs_add_le _ _) ?_;rw [Int.natAbs_mul, Int.natAbs_mul];exact pw_two hs' (by rw [hAk]; exact hbk b) ht' (hbA b)
   have hspA : ∀ N, k < N -> n < N -> SpEq N (ent R) N (ent M) := fun N hkN hnN => by
    rw [<- hM]; exact SpEq.add hnN hkN (fun e => hkn e.symm) _ hA
   refine ⟨fun a h h' b => ?_, fun b hb => ?_, ?_, fun b hb => ?_, ?_, fun N hkN hnN => ?_, fun b => ?_, fun b => ?_, ?_, ?_, blk_meetT ..⟩
   · rw [hms a b h h', hAs a b h']
   · rw [hmk, hAk, h0 b hb, hM0 b hb]; simp
   · rw [hmk, hp', hr', Int.mul_comm x, Int.mul_comm y, hx]; exact hgp
   · rw [hmn];rcases Nat.lt_or_eq_of_le hb with h | h
     · rw [hAk, h0 b h, hM0 b h]; simp
     · subst h;rw [hp', hr', hp1, hr1, Int.neg_mul, Int.mul_left_comm r', Int.mul_left_comm p', Int.mul_comm r' p']; omega
   · refine ⟨p', -r' + p' * (-((ent R n j).fdiv (ent R k j))), hp0, fun b => ?_⟩;rw [hmn, hAk, hAn, Int.mul_add, Int.add_mul, <- Int.mul_assoc]; omega
   · refine (hspA N hkN hnN).trans (SpEq.two hkN hnN hkn (fun a h h' b => hms a b h h') hmk hmn (x' := p') (y' := -y) (z' := r') (t' := x) (fun b => ?_) (fun b => ?_))
     · rw [hmk, hmn];have : p' * (x * ent M k b + y * ent M n b) + -y * (-r' * ent M k b + p' * ent M n b) = (p' * x + r' * y) * ent M k b := by
        simp only [Int.mul_add, Int.add_mul, Int.neg_mul, Int.mul_neg, Int.neg_neg];have a1 : p' * (y * ent M n b) = y * (p' * ent M n b) := Int.mul_left_comm ..;have a2 : y * (r' * ent M k b) = r' * y * ent M k b := by rw [<- Int.mul_assoc, Int.mul_comm y]
        have a3 : p' * (x * ent M k b) = p' * x * ent M k b := (Int.mul_assoc ..).symm;omega
       rw [this, hk1, Int.one_mul]
     · rw [hmk, hmn];have : r' * (x * ent M k b + y * ent M n b) + x * (-r' * ent M k b + p' * ent M n b) = (p' * x + r' * y) * ent M n b := by
        simp only [Int.mul_add, Int.add_mul, Int.neg_mul, Int.mul_neg];have a1 : r' * (x * ent M k b) = x * (r' * ent M k b) := Int.mul_left_comm ..;have a2 : r' * (y * ent M n b) = r' * y * ent M n b := (Int.mul_assoc ..).symm;have a3 : x * (p' * ent M n b) = p' * x * ent M n b := by rw [<- Int.mul_assoc, Int.mul_comm x]
        omega
       rw [this, hk1, Int.one_mul]
   · rw [hmk]; exact bnd x y b (by omega) (by omega)
   · rw [hmn]; exact bnd (-r') p' b (by rw [Int.natAbs_neg]; exact hr'D) hp'D
   · rw [e]; exact hsA.mixT_ k n _ _ _ _
   · exact meetT_length ..
/-! put. -/
theorem leadsOf_get (R : List Hd) {n k : Nat} (hk : k < n) : (leadsOf R n).getD k 0 = leadOf R k := by
 unfold leadsOf; simp [hk]
theorem settle_ok {c n B δ u : Nat} {l : Nat -> Nat} {R : List Hd} (hs : Sh c R) (hn : n <= R.length) (hE : Ech n c (ent R) l) (hu : ∀ a b, (ent R a b).natAbs < W ^ u) (hb : u + n * δ <= B)
 (hD : ∀ E', Herm n c E' l -> SpEq n (ent R) n E' -> ∀ i, i < n -> ∀ j, (E' i j).natAbs < W ^ δ) : ∃ R', SOut B c (leadsOf R n) n n R R' /\ SoutOk n c n l R R' := by
 have hls : ∀ k, k < n -> (leadsOf R n).getD k 0 = l k := fun k hk => by
  rw [leadsOf_get R hk];exact leadOf_at (by omega) hs (hE.zero k hk) (by have := hE.pos k hk; omega)
 have h1 := soutF_ok hls n R (Nat.le_refl _) hs hn hE (fun i k h1 h2 h3 => by omega);exact ⟨_, SOut_of (δ := δ) (u := u) hls hb n R (Nat.le_refl _) hs hn hE (fun i k h1 h2 h3 => by omega) (fun a b => pw_lt (hu a b) (by omega)) (fun a _ b => hu a b) (hD _ h1.herm h1.sp), h1⟩
theorem ent_swapsT {a : Nat} : ∀ (n : Nat) (R : List Hd), a <= n -> n < R.length -> ∀ i b, ent (swapsT a n R) i b = if i < a then ent R i b else if i = a then ent R n b else if i <= n then ent R (i - 1) b else ent R i b
 | 0, R, ha, hn, i, b => by
  obtain rfl : a = 0 := by omega
  unfold swapsT;by_cases h : i = 0
  · subst h; simp
  · rw [if_neg (by omega), if_neg h, if_neg (by omega)]
 | n + 1, R, ha, hn, i, b => by
  unfold swapsT;by_cases h : n + 1 <= a
  · obtain rfl : a = n + 1 := by omega
    rw [if_pos h];by_cases h1 : i < n + 1
    · rw [if_pos h1]
    · rw [if_neg h1];by_cases h2 : i = n + 1
      · subst h2; rw [if_pos rfl]
      · rw [if_neg h2, if_neg (by omega)]
  · rw [if_neg h, ent_swapsT n _ (by omega) (by rw [swapT_length]; omega)];have hsw := fun x => ent_swapT (R := R) (i := n + 1) (j := n) hn (by omega) x b;rw [hsw, hsw, hsw];by_cases h1 : i < a
    · rw [if_pos h1, if_pos h1];unfold swp; rw [if_neg (by omega), if_neg (by omega)]
    · rw [if_neg h1, if_neg h1];by_cases h2 : i = a
      · rw [if_pos h2, if_pos h2];unfold swp; rw [if_pos rfl]
      · rw [if_neg h2, if_neg h2];by_cases h3 : i <= n
        · rw [if_pos h3, if_pos (by omega)];unfold swp; rw [if_neg (by omega), if_neg (by omega)]
        · rw [if_neg h3];by_cases h4 : i = n + 1
          · subst h4; rw [if_pos (by omega)];unfold swp; rw [if_neg (by omega), if_pos rfl]; rfl
          · rw [if_neg (by omega : ¬ i <= n + 1)];unfold swp; rw [if_neg (by omega), if_neg h4]
theorem shSwapsT {c a : Nat} : ∀ (n : Nat) (R : List Hd), Sh c R -> Sh c (swapsT a n R)
 | 0, R, h => h
 | n + 1, R, h => by
  unfold swapsT; split
  · exact h
  · exact shSwapsT n _ (h.swapT_ _ _)
structure PI (c n δ u s : Nat) (l : Nat -> Nat) (last : Int) (E0 : Nat -> Nat -> Int) (v0 : Nat -> Int) (Ro R : List Hd) : Prop where
 sh : Sh c R
 len : R.length = Ro.length
 ech : Ech n c (ent R) l
 sn : s <= n
 lo : ∀ i, i < s -> (l i : Int) <= last
 hi : ∀ i, s <= i -> i < n -> last < (l i : Int)
 un : ∀ i, s <= i -> i < n -> ∀ b, ent R i b = E0 i b
 z : ∀ b : Nat, (b : Int) <= last -> ent R n b = 0
 bd : ∀ a b, (ent R a b).natAbs < W ^ u
 cb : ∃ (t : Int) (w : Nat -> Int), t ≠ 0 /\ Sp n E0 w /\ ∀ b, ent R n b = t * v0 b + w b
 sp : SpEq (n + 1) (ent Ro) (n + 1) (ent R)
 oth : ∀ a, n < a -> ∀ b, ent R a b = ent Ro a b
structure PutOk (c n : Nat) (E0 : Nat -> Nat -> Int) (v0 : Nat -> Int) (Ro : List Hd) (b : Bool) (R' : List Hd) : Prop where
 sh : Sh c R'
 len : R'.length = Ro.length
 oth : ∀ a, n < a -> ∀ b, ent R' a b = ent Ro a b
 no : b = false -> (∃ l', Herm n c (ent R') l') /\ (∀ b, ent R' n b = 0) /\ SpEq (n + 1) (ent Ro) n (ent R')
 yes : b = true -> (∃ l', Herm (n + 1) c (ent R') l') /\ SpEq (n + 1) (ent Ro) (n + 1) (ent R') /\ ∀ s : Int, Sp n E0 (fun j => s * v0 j) -> s = 0
theorem first_at {n s j : Nat} {l : Nat -> Nat} (h : s <= n) : ∃ a, s <= a /\ a <= n /\ (∀ i, s <= i -> i < a -> l i < j) /\ (a = n ∨ (a < n /\ j <= l a)) := by
 obtain ⟨f, hf⟩ : ∃ f, n - s = f := ⟨_, rfl⟩;induction f generalizing s with
 | zero => exact ⟨s, Nat.le_refl _, h, fun i h1 h2 => by omega, .inl (by omega)⟩
 | succ f ih =>
  by_cases hj : j <= l s
  · exact ⟨s, Nat.le_refl _, h, fun i h1 h2 => by omega, .inr ⟨by omega, hj⟩⟩
  · obtain ⟨a, h1, h2, h3, h4⟩ := ih (s := s + 1) (by omega) (by omega);refine ⟨a, by omega, h2, fun i hi hia => ?_, h4⟩;by_cases e : i = s
    · subst e; omega
    · exact h3 i (by omega) hia
theorem ech_insert {c n a j : Nat} {l : Nat -> Nat} {E F : Nat -> Nat -> Int} (h : Ech n c E l) (ha : a <= n) (hlo : ∀ i, i < a -> l i < j) (hhi : ∀ i, a <= i -> i < n -> j < l i) (hj : j < c) (h0 : ∀ b, b < j -> E n b = 0) (hp : 0 < E n j)
 (hF : ∀ i b, i <= n -> F i b = if i < a then E i b else if i = a then E n b else E (i - 1) b) : Ech (n + 1) c F (fun i => if i < a then l i else if i = a then j else l (i - 1)) := by
 refine ⟨fun i k hik hk => ?_, fun i hi => ?_, fun i hi b hb => ?_, fun i hi => ?_⟩
 · show (if i < a then l i else if i = a then j else l (i - 1)) < (if k < a then l k else if k = a then j else l (k - 1));by_cases h1 : k < a
   · rw [if_pos h1, if_pos (by omega)]; exact h.inc i k hik (by omega)
   · rw [if_neg h1];by_cases h2 : k = a
     · rw [if_pos h2, if_pos (by omega)]; exact hlo i (by omega)
     · rw [if_neg h2];by_cases h3 : i < a
       · rw [if_pos h3]; exact h.inc i (k - 1) (by omega) (by omega)
       · rw [if_neg h3];by_cases h4 : i = a
         · rw [if_pos h4]; exact hhi (k - 1) (by omega) (by omega)
         · rw [if_neg h4]; exact h.inc (i - 1) (k - 1) (by omega) (by omega)
 · show (if i < a then l i else if i = a then j else l (i - 1)) < c;split
   · exact h.lt i (by omega)
   · split
     · exact hj
     · exact h.lt (i - 1) (by omega)
 · rw [hF i b (by omega)];have hb : b < (if i < a then l i else if i = a then j else l (i - 1)) := hb;split at hb
   · rename_i h1; rw [if_pos h1]; exact h.zero i (by omega) b hb
   · rename_i h1; rw [if_neg h1];split at hb
     · rename_i h2; rw [if_pos h2]; exact h0 b hb
     · rename_i h2; rw [if_neg h2]; exact h.zero (i - 1) (by omega) b hb
 · rw [hF i _ (by omega)];show 0 < (if i < a then E i (if i < a then l i else if i = a then j else l (i - 1)) else if i = a then E n (if i < a then l i else if i = a then j else l (i - 1)) else E (i - 1) (if i < a then l i else if i = a then j else l (i - 1)));split
   · exact h.pos i (by omega)
   · split
     · exact hp
     · exact h.pos (i - 1) (by omega)
theorem SpEq.perm {n a : Nat} {E F : Nat -> Nat -> Int} (ha : a <= n) (hF : ∀ i b, i <= n -> F i b = if i < a then E i b else if i = a then E n b else E (i - 1) b) : SpEq (n + 1) E (n + 1) F := by
 refine ⟨fun k hk => ?_, fun k hk => ?_⟩
 · by_cases h1 : k < a
   · exact (Sp.row F hk).congr (fun b => by rw [hF k b (by omega), if_pos h1])
   · by_cases h2 : k = n
     · subst h2;exact (Sp.row F (show a < k + 1 by omega)).congr (fun b => by rw [hF a b (by omega), if_neg (by omega), if_pos rfl])
     · exact (Sp.row F (show k + 1 < n + 1 by omega)).congr (fun b => by rw [hF (k + 1) b (by omega), if_neg (by omega), if_neg (by omega)]; rfl)
 · by_cases h1 : k < a
   · exact (Sp.row E hk).congr (fun b => by rw [hF k b (by omega), if_pos h1])
   · by_cases h2 : k = a
     · exact (Sp.row E (show n < n + 1 by omega)).congr (fun b => by rw [hF k b (by omega), if_neg h1, if_pos h2])
     · exact (Sp.row E (show k - 1 < n + 1 by omega)).congr (fun b => by rw [hF k b (by omega), if_neg h1, if_neg h2])
theorem SpEq.neg {N n : Nat} {E F : Nat -> Nat -> Int} (hn : n < N) (hs : ∀ a, a ≠ n -> ∀ b, F a b = E a b) (h : ∀ b, F n b = - E n b) : SpEq N E N F := by
 refine ⟨fun k hk => ?_, fun k hk => ?_⟩
 · by_cases e : k = n
   · subst e; exact ((Sp.row F hk).smul (-1)).congr (fun b => by rw [h]; omega)
   · exact (Sp.row F hk).congr (fun b => (hs k e b).symm)
 · by_cases e : k = n
   · subst e; exact ((Sp.row E hk).smul (-1)).congr (fun b => by rw [h]; omega)
   · exact (Sp.row E hk).congr (fun b => hs k e b)
theorem putLoop_end {c n δ B U : Nat} {l : Nat -> Nat} {E0 : Nat -> Nat -> Int} {v0 : Nat -> Int} {Ro : List Hd} (hn : n < Ro.length) (hH0 : Ech n c E0 l) (hδ : ∀ a, a < n -> ∀ b, (E0 a b).natAbs < W ^ δ) (hUB : U + (n + 1) * δ <= B)
 (hZ : ∀ E' l', Herm n c E' l' -> SpEq (n + 1) (ent Ro) n E' -> ∀ i, i < n -> ∀ j, (E' i j).natAbs < W ^ δ)
 (hS : (∀ s : Int, Sp n E0 (fun j => s * v0 j) -> s = 0) -> ∀ E' l', Herm (n + 1) c E' l' -> SpEq (n + 1) (ent Ro) (n + 1) E' -> ∀ i, i < n + 1 -> ∀ j, (E' i j).natAbs < W ^ δ)
 (s u at_ : Nat) (last : Int) (R : List Hd) (hI : PI c n δ u s l last E0 v0 Ro R) (hat : at_ <= s) (hu : u + (n - s) * (2 * δ + 1) <= U)
 (hnext : ∀ a, s <= a -> a < n -> ∀ R1 u1, PI c n δ u1 (a + 1) l (l a) E0 v0 Ro R1 -> u1 + (n - (a + 1)) * (2 * δ + 1) <= U -> ∃ b R', PutT B c n a (l a) R1 b R' /\ PutOk c n E0 v0 Ro b R') :
 ∃ b R', PutT B c n at_ last R b R' /\ PutOk c n E0 v0 Ro b R' := by
 have hnR : n < R.length := by rw [hI.len]; exact hn
 have hle := lead_ent hnR hI.sh;have huB : u <= B := by have := Nat.zero_le ((n - s) * (2 * δ + 1)); have := Nat.zero_le ((n + 1) * δ); omega
 have hFit : Fit B c R := Fit.of hI.sh (fun a b => pw_lt (hI.bd a b) huB);have hnδ : n * δ <= (n + 1) * δ := Nat.mul_le_mul_right _ (by omega);have huU : u <= U := by have := Nat.zero_le ((n - s) * (2 * δ + 1)); omega
 by_cases hc : leadOf R n = c
 · -- nothing is left
   have hz : ∀ b, ent R n b = 0 := fun b => by
    by_cases h : b < c
    · exact hle.2.1 b (by omega)
    · exact hI.sh.wide n (by omega)
   have hspz : SpEq (n + 1) (ent R) n (ent R) := by
    refine ⟨fun k hk => ?_, fun k hk => Sp.row _ (by omega)⟩;by_cases e : k = n
    · subst e; exact (Sp.zero _ _).congr hz
    · exact Sp.row _ (by omega)
   obtain ⟨R', h1, h2⟩ := settle_ok (B := B) (δ := δ) hI.sh (by omega : n <= R.length) hI.ech hI.bd (by omega) (fun E' hE' hsp => hZ E' l hE' (hI.sp.trans (hspz.trans hsp)));exact ⟨false, R', .zero hFit (.inl hc) h1, h2.sh, h2.len.trans hI.len, fun a ha b => (h2.same a (by omega) b).trans (hI.oth a ha b), fun _ => ⟨⟨l, h2.herm⟩, fun b => (h2.same n (Nat.le_refl _) b).trans (hz b), hI.sp.trans (hspz.trans h2.sp)⟩, fun h => by cases h⟩
 · have hjc : leadOf R n < c := by have := hle.1; omega
   obtain ⟨j, hj⟩ : ∃ j, leadOf R n = j := ⟨_, rfl⟩;rw [hj] at hjc hc hle;have hvj := hle.2.2 hjc;have hlast : last < (j : Int) := by
    by_cases h : last < (j : Int)
    · exact h
    · exact absurd (hI.z j (by omega)) hvj
   obtain ⟨a, hsa, han, hlt, hend⟩ := first_at (l := l) (j := j) hI.sn;have hlead : ∀ i, i < n -> leadOf R i = l i := fun i hi => leadOf_at (by omega) hI.sh (hI.ech.zero i hi) (by have := hI.ech.pos i hi; omega);have hlo : ∀ i, i < a -> l i < j := fun i hi => by
    by_cases h : s <= i
    · exact hlt i h hi
    · have := hI.lo i (by omega); omega
   by_cases hm : a < n /\ l a = j
   · obtain ⟨ha, hla⟩ := hm;have hrow : ∀ b, (ent R a b).natAbs < W ^ δ := fun b => by rw [hI.un a hsa ha]; exact hδ a ha b
     have hp : 0 < ent R a j := by rw [<- hla]; exact hI.ech.pos a ha
     have h0a : ∀ b, b < j -> ent R a b = 0 := fun b hb => hI.ech.zero a ha b (by omega);have hok := meet_ok (j := j) hI.sh (by omega : a < R.length) hnR (by omega) hp h0a hle.2.1 hrow (hI.bd n);have hA := meetA_ent hI.sh (by omega : a < R.length) hnR j;have hbA := meetA_bound (j := j) hI.sh (by omega : a < R.length) hnR hp hrow (hI.bd n);have h2n : (n - s) * (2 * δ + 1) = (n - (a + 1)) * (2 * δ + 1) + (a + 1 - s) * (2 * δ + 1) := by rw [<- Nat.add_mul]; congr 1; omega
     have h2a : 2 * δ + 1 <= (a + 1 - s) * (2 * δ + 1) := by have := Nat.mul_le_mul_right (2 * δ + 1) (show 1 <= a + 1 - s by omega); omega
     have hbud : u + 2 * δ + 1 + (n - (a + 1)) * (2 * δ + 1) <= U := by omega
     have hudB : u + 2 * δ + 1 <= B := by
      have := Nat.zero_le ((n - (a + 1)) * (2 * δ + 1)); have := Nat.zero_le ((n + 1) * δ); omega
     have hFitA : Fit B c (meetA R a n j) := Fit.of (hI.sh.addT_ n a _) (fun x b => by
      by_cases e : x = n
      · subst e; exact pw_lt (hbA b) (by omega)
      · rw [hA, if_neg e]; exact pw_lt (hI.bd x b) huB)
     have hpA : ent (meetA R a n j) a j ≠ 0 := by rw [hA, if_neg (by omega)]; omega
     have hPI : PI c n δ (u + 2 * δ + 1) (a + 1) l (l a) E0 v0 Ro (meetT R a n j) := by
      refine ⟨hok.sh, hok.len.trans hI.len, ?_, by omega, ?_, ?_, ?_, ?_, ?_, ?_, hI.sp.trans (hok.sp (n + 1) (by omega) (by omega)), ?_⟩
      · refine ⟨hI.ech.inc, hI.ech.lt, fun i hi b hb => ?_, fun i hi => ?_⟩
        · by_cases e : i = a
          · subst e; exact hok.low b (by omega)
          · rw [hok.same i e (by omega)]; exact hI.ech.zero i hi b hb
        · by_cases e : i = a
          · subst e; rw [hla]; exact hok.piv
          · rw [hok.same i e (by omega)]; exact hI.ech.pos i hi
      · intro i hi;by_cases e : i = a
        · subst e; exact Int.le_refl _
        · have := hI.ech.inc i a (by omega) ha; omega
      · intro i hi hin;have := hI.ech.inc a i (by omega) hin; omega
      · intro i hi hin b;rw [hok.same i (by omega) (by omega)]; exact hI.un i (by omega) hin b
      · intro b hb;exact hok.gone b (by omega)
      · intro x b;by_cases e : x = a
        · subst e; exact hok.bk b
        · by_cases e' : x = n
          · subst e'; exact hok.bn b
          · rw [hok.same x e e']; exact pw_lt (hI.bd x b) (by omega)
      · obtain ⟨t, w, ht, hw, hv⟩ := hI.cb;obtain ⟨t', s', ht', hv'⟩ := hok.comb;refine ⟨t' * t, fun b => t' * w b + s' * E0 a b, fun e => ?_, (hw.smul t').add ((Sp.row E0 ha).smul s'), fun b => ?_⟩
        · rcases Int.mul_eq_zero.1 e with e | e
          · exact ht' e
          · exact ht e
        · show ent (meetT R a n j) n b = t' * t * v0 b + (t' * w b + s' * E0 a b);rw [hv', hv, hI.un a hsa ha, Int.mul_add, Int.mul_assoc]; omega
      · intro x hx b;rw [hok.same x (by omega) (by omega)]; exact hI.oth x hx b
     obtain ⟨b, R', h1, h2⟩ := hnext a hsa ha (meetT R a n j) (u + 2 * δ + 1) hPI hbud;refine ⟨b, R', .meet hFit (by rw [hj]; exact hjc) (by rw [hj]; exact hlast) a (by omega) ha (fun i h3 h4 => ?_) ?_ ?_ ?_ ?_ ?_, h2⟩
     · rw [hj, hlead i (by omega)]; exact hlo i h4
     · rw [hj, hlead a ha, hla]
     · rw [hj]; omega
     · rw [hj]; exact hFitA
     · rw [hj]; exact hpA
     · rw [hj]; rw [hla] at h1; exact h1
   · have hhi : ∀ i, a <= i -> i < n -> j < l i := fun i h1 h2 => by
      rcases hend with h3 | ⟨h3, h4⟩
      · omega
      · by_cases e : i = a
        · subst e;have : l i ≠ j := fun h => hm ⟨h3, h⟩;omega
        · have := hI.ech.inc a i (by omega) h2; omega
     obtain ⟨R1, hR1⟩ : ∃ R1, (if ent R n (leadOf R n) < 0 then turnT R n else R) = R1 := ⟨_, rfl⟩;have hR1e : ∀ x, x ≠ n -> ∀ b, ent R1 x b = ent R x b := fun x hx b => by
      rw [<- hR1]; split
      · rw [ent_turnT hnR, if_neg hx]
      · rfl
     have hR1n : (∀ b, (ent R1 n b).natAbs = (ent R n b).natAbs) /\ 0 < ent R1 n j /\ ((∀ b, ent R1 n b = ent R n b) ∨ (∀ b, ent R1 n b = - ent R n b)) := by
      rw [<- hR1]; split
      · rename_i h;rw [hj] at h;have h1 := fun b => (ent_turnT hnR n b).trans (if_pos rfl);exact ⟨fun b => by rw [h1, Int.natAbs_neg], by rw [h1]; omega, .inr h1⟩
      · rename_i h;rw [hj] at h;exact ⟨fun b => rfl, by omega, .inl (fun b => rfl)⟩
     have hR1s : Sh c R1 := by
      rw [<- hR1]; split
      · exact hI.sh.turnT_ n
      · exact hI.sh
     have hR1l : R1.length = R.length := by
      rw [<- hR1]; split
      · exact turnT_length ..
      · rfl
     have hR1b : ∀ x b, (ent R1 x b).natAbs < W ^ u := fun x b => by
      by_cases e : x = n
      · subst e; rw [hR1n.1]; exact hI.bd x b
      · rw [hR1e x e]; exact hI.bd x b
     have hsp1 : SpEq (n + 1) (ent R) (n + 1) (ent R1) := by
      rcases hR1n.2.2 with h | h
      · exact SpEq.of_eq (fun k hk b => by
         by_cases e : k = n
         · subst e; exact (h b).symm
         · exact (hR1e k e b).symm)
      · exact SpEq.neg (by omega) hR1e h
     have hsw := ent_swapsT (a := a) n R1 han (by omega);obtain ⟨R2, hR2⟩ : ∃ R2, swapsT a n R1 = R2 := ⟨_, rfl⟩;have hs2 : Sh c R2 := hR2 ▸ shSwapsT n R1 hR1s;have hl2 : R2.length = R.length := by rw [<- hR2, swapsT_length, hR1l]
     rw [hR2] at hsw;have hsw2 : ∀ i b, i <= n -> ent R2 i b = if i < a then ent R1 i b else if i = a then ent R1 n b else ent R1 (i - 1) b := fun i b hi => by
      rw [hsw];by_cases h1 : i < a
      · rw [if_pos h1, if_pos h1]
      · rw [if_neg h1, if_neg h1];by_cases h2 : i = a
        · rw [if_pos h2, if_pos h2]
        · rw [if_neg h2, if_neg h2, if_pos hi]
     have hb2 : ∀ x b, (ent R2 x b).natAbs < W ^ u := fun x b => by
      rw [hsw]; split
      · exact hR1b ..
      · split
        · exact hR1b ..
        · split <;> exact hR1b ..
     have hE1 : Ech n c (ent R1) l := hI.ech.congr (fun x hx b => hR1e x (by omega) b);have h10 : ∀ b, b < j -> ent R1 n b = 0 := fun b hb => by
      have h1 := hR1n.1 b;rw [hle.2.1 b hb] at h1; omega
     have hE2 := ech_insert hE1 han hlo hhi hjc h10 hR1n.2.1 hsw2;have hsp2 := SpEq.perm han hsw2;have hind : ∀ t : Int, Sp n E0 (fun b => t * v0 b) -> t = 0 := by
      intro t ht;obtain ⟨t', w, ht', hw, hv⟩ := hI.cb;by_cases h0 : t = 0
      · exact h0
      · exfalso;have hin : Sp n E0 (fun b => t * ent R n b) := ((ht.smul t').add (hw.smul t)).congr (fun b => by
         rw [hv, Int.mul_add, <- Int.mul_assoc, <- Int.mul_assoc, Int.mul_comm t' t])
        obtain ⟨k, hk, hlk, _⟩ := hH0.lead hin (q := j) (fun e => by
         rcases Int.mul_eq_zero.1 e with e | e
         · exact h0 e
         · exact hvj e) (fun b hb => by
           show t * ent R n b = 0;rw [hle.2.1 b hb, Int.mul_zero])
        by_cases hka : k < a
        · have := hlo k hka; omega
        · have := hhi k (by omega) hk; omega
     obtain ⟨R', h1, h2⟩ := settle_ok (B := B) (δ := δ) (n := n + 1) hs2 (by omega) hE2 hb2 (by omega) (fun E' hE' hsp => hS hind E' _ hE' (hI.sp.trans (hsp1.trans (hsp2.trans hsp))));refine ⟨true, R', .stop hFit (by rw [hj]; exact hjc) (by rw [hj]; exact hlast) a (by omega) han (fun i h3 h4 => ?_) ?_ ?_ ?_, h2.sh, h2.len.trans (hl2.trans hI.len), fun x hx b => ?_, fun h => (by cases h), fun _ => ⟨⟨_, h2.herm⟩, hI.sp.trans (hsp1.trans (hsp2.trans h2.sp)), hind⟩⟩
     · rw [hj, hlead i (by omega)]; exact hlo i h4
     · rcases Nat.lt_or_eq_of_le han with h | h
       · refine .inr ?_;rw [hj, hlead a h]; exact hhi a (Nat.le_refl _) h
       · exact .inl h
     · rw [hR1, hR2]; exact Fit.of hs2 (fun a b => pw_lt (hb2 a b) huB)
     · rw [hR1, hR2]; exact h1
     · rw [h2.same x (by omega), hsw, if_neg (by omega), if_neg (by omega), if_neg (by omega), hR1e x (by omega)];exact hI.oth x hx b
theorem putLoop {c n δ B U : Nat} {l : Nat -> Nat} {E0 : Nat -> Nat -> Int} {v0 : Nat -> Int} {Ro : List Hd} (hn : n < Ro.length) (hH0 : Ech n c E0 l) (hδ : ∀ a, a < n -> ∀ b, (E0 a b).natAbs < W ^ δ) (hUB : U + (n + 1) * δ <= B)
 (hZ : ∀ E' l', Herm n c E' l' -> SpEq (n + 1) (ent Ro) n E' -> ∀ i, i < n -> ∀ j, (E' i j).natAbs < W ^ δ)
 (hS : (∀ s : Int, Sp n E0 (fun j => s * v0 j) -> s = 0) -> ∀ E' l', Herm (n + 1) c E' l' -> SpEq (n + 1) (ent Ro) (n + 1) E' -> ∀ i, i < n + 1 -> ∀ j, (E' i j).natAbs < W ^ δ) :
 ∀ (f s u at_ : Nat) (last : Int) (R : List Hd), n - s <= f -> PI c n δ u s l last E0 v0 Ro R -> at_ <= s -> u + (n - s) * (2 * δ + 1) <= U -> ∃ b R', PutT B c n at_ last R b R' /\ PutOk c n E0 v0 Ro b R' := by
 intro f;induction f with
 | zero =>
  intro s u at_ last R hf hI hat hu;exact putLoop_end hn hH0 hδ hUB hZ hS s u at_ last R hI hat hu (fun a ha1 ha2 => by omega)
 | succ f ih =>
  intro s u at_ last R hf hI hat hu;refine putLoop_end hn hH0 hδ hUB hZ hS s u at_ last R hI hat hu (fun a ha1 ha2 R1 u1 hI1 hu1 => ?_);exact ih (a + 1) u1 a (l a) R1 (by omega) hI1 (by omega) hu1
/-! Reduce. -/
def hermW (N m : Nat) : Nat := 2 * (m + 1) * N + 1
theorem hermD_lt {n N m : Nat} (hn : n <= N) (hN : N <= 1048576) : hermD n (W ^ m) < W ^ hermW N m := by
 unfold hermD hermW;rcases Nat.eq_zero_or_pos n with h | h
 · subst h; simp; exact pw_pos _
 · have h1 : 2 * n * W ^ m + 1 <= W ^ (m + 1) := by
    rw [Nat.pow_succ, Nat.mul_comm (W ^ m)];have h2 : (2 * n + 1) * W ^ m <= W * W ^ m := Nat.mul_le_mul_right _ (by unfold W; omega);have h3 : (2 * n + 1) * W ^ m = 2 * n * W ^ m + W ^ m := by rw [Nat.add_mul, Nat.one_mul]
    have := pw_pos m;omega
   have h2 : (2 * n * W ^ m + 1) ^ (n - 1) <= W ^ ((m + 1) * (n - 1)) := by
    rw [Nat.pow_mul]; exact Nat.pow_le_pow_left h1 _
   have h3 : n * ((2 * n * W ^ m + 1) ^ (n - 1) * W ^ m) <= W ^ ((m + 1) * n) := by
    have h4 : (2 * n * W ^ m + 1) ^ (n - 1) * W ^ m <= W ^ ((m + 1) * (n - 1)) * W ^ m := Nat.mul_le_mul_right _ h2;have h5 : n * ((2 * n * W ^ m + 1) ^ (n - 1) * W ^ m) <= W * (W ^ ((m + 1) * (n - 1)) * W ^ m) := Nat.mul_le_mul (by unfold W; omega) h4;refine Nat.le_trans h5 ?_;have e : W * (W ^ ((m + 1) * (n - 1)) * W ^ m) = W ^ ((m + 1) * (n - 1) + m + 1) := by
     rw [<- Nat.pow_add, Nat.mul_comm W, <- Nat.pow_succ]
    rw [e];have e2 : (m + 1) * (n - 1) + m + 1 = (m + 1) * n := by
     have : n = n - 1 + 1 := by omega
     rw [Nat.add_assoc]
     conv => rhs; rw [this, Nat.mul_add, Nat.mul_one]
    rw [e2]; exact Nat.le_refl _
   obtain ⟨D, hD⟩ : ∃ D, n * ((2 * n * W ^ m + 1) ^ (n - 1) * W ^ m) = D := ⟨_, rfl⟩;rw [hD] at h3 ⊢;have h6 : D * D <= W ^ (2 * (m + 1) * n) := by
    have := Nat.mul_le_mul h3 h3;rw [<- Nat.pow_add] at this;have e : (m + 1) * n + (m + 1) * n = 2 * (m + 1) * n := by rw [Nat.mul_assoc]; omega
    rwa [e] at this
   have h7 : n * D * D < W * W ^ (2 * (m + 1) * n) := by
    rw [Nat.mul_assoc];refine Nat.lt_of_le_of_lt (Nat.mul_le_mul_left n h6) ?_;exact Nat.mul_lt_mul_of_pos_right (by unfold W; omega) (pw_pos _)
   refine Nat.lt_of_lt_of_le h7 ?_;rw [Nat.mul_comm W, <- Nat.pow_succ];refine pw_le ?_;have : 2 * (m + 1) * n <= 2 * (m + 1) * N := Nat.mul_le_mul_left _ hn;omega
def ladW (N m : Nat) : Nat := hermW N m + N * (2 * hermW N m + 1) + (N + 1) * hermW N m
theorem Indep.snoc {n : Nat} {a E0 : Nat -> Nat -> Int} {v : Nat -> Int} (h : Indep n a) (ha : ∀ k, k < n -> Sp n E0 (a k)) (hv : ∀ s : Int, Sp n E0 (fun j => s * v j) -> s = 0) : Indep (n + 1) (fun k => if k < n then a k else v) := by
 intro x hx k hk;have e : ∀ j, sm n (fun k => x k * a k j) + x n * v j = 0 := fun j => by
  have := hx j;unfold sm at this;rw [sm_congr (g := fun k => x k * a k j) (fun k hk => by simp [hk])] at this;simpa using this
 have h0 : x n = 0 := by
  refine hv _ (((Sp.sm (x := fun k => - x k) ha)).congr (fun j => ?_));have h1 := e j;have h2 : sm n (fun k => - x k * a k j) = - sm n (fun k => x k * a k j) := by
   have := sm_mul n (-1) (fun k => x k * a k j);rw [Int.neg_one_mul] at this;rw [<- this]; exact sm_congr (fun k _ => by rw [Int.neg_mul, Int.neg_one_mul])
  rw [h2]; omega
 by_cases hkn : k = n
 · subst hkn; exact h0
 · refine h x (fun j => ?_) k (by omega);have := e j;rw [h0] at this; simpa using this
theorem ent_rotT : ∀ (k i : Nat) (R : List Hd), i + k < R.length -> ∀ a b, ent (rotT k i R) a b = if a < i then ent R a b else if a < i + k then ent R (a + 1) b else if a = i + k then ent R i b else ent R a b
 | 0, i, R, h, a, b => by
  unfold rotT;by_cases h1 : a < i
  · rw [if_pos h1]
  · rw [if_neg h1, if_neg (by omega)];by_cases h2 : a = i + 0
    · rw [if_pos h2]; subst h2; rfl
    · rw [if_neg h2]
 | k + 1, i, R, h, a, b => by
  unfold rotT;rw [ent_rotT k (i + 1) _ (by rw [swapT_length]; omega)];have hsw := fun x => ent_swapT (R := R) (i := i) (j := i + 1) (by omega) (by omega) x b;rw [hsw, hsw, hsw];by_cases h1 : a < i
  · rw [if_pos (by omega), if_pos h1];unfold swp; rw [if_neg (by omega), if_neg (by omega)]
  · rw [if_neg h1];by_cases h2 : a = i
    · rw [if_pos (by omega), if_pos (by omega)];unfold swp; rw [if_neg (by omega), if_pos h2, h2]
    · rw [if_neg (by omega)];by_cases h3 : a < i + (k + 1)
      · rw [if_pos (by omega), if_pos h3];unfold swp; rw [if_neg (by omega), if_neg (by omega)]
      · rw [if_neg (by omega), if_neg h3];by_cases h4 : a = i + (k + 1)
        · rw [if_pos (by omega), if_pos h4];unfold swp; rw [if_pos rfl]
        · rw [if_neg (by omega), if_neg h4];unfold swp; rw [if_neg (by omega), if_neg (by omega)]
theorem shRotT {c : Nat} : ∀ (k i : Nat) (R : List Hd), Sh c R -> Sh c (rotT k i R)
 | 0, i, R, h => h
 | k + 1, i, R, h => shRotT k (i + 1) _ (h.swapT_ _ _)
theorem rotT_length : ∀ (k i : Nat) (R : List Hd), (rotT k i R).length = R.length
 | 0, i, R => rfl
 | k + 1, i, R => (rotT_length k (i + 1) _).trans (swapT_length ..)
theorem Herm.congr {n c : Nat} {E F : Nat -> Nat -> Int} {l : Nat -> Nat} (h : Herm n c E l) (e : ∀ a, a < n -> ∀ b, F a b = E a b) : Herm n c F l :=
 ⟨h.toEch.congr e, fun i k hik hk => by rw [e i (by omega), e k hk]; exact h.red i k hik hk⟩
structure RI (c m : Nat) (Ro : List Hd) (d e : Nat) (R : List Hd) : Prop where
 sh : Sh c R
 len : R.length = Ro.length
 de : d <= e
 el : e <= Ro.length
 herm : ∃ l, Herm d c (ent R) l
 raw : ∀ i, d <= i -> i < e -> ∀ b, (ent R i b).natAbs < W ^ m
 zero : ∀ i, e <= i -> ∀ b, ent R i b = 0
 sp : SpEq Ro.length (ent Ro) e (ent R)
 ind : ∃ a : Nat -> Nat -> Int, (∀ k, k < d -> Sp d (ent R) (a k)) /\ Indep d a /\ ∀ k b, k < d -> (a k b).natAbs <= W ^ m
structure RedOk (c D : Nat) (Ro : List Hd) (k : Nat) (R' : List Hd) : Prop where
 sh : Sh c R'
 len : R'.length = Ro.length
 kl : k <= Ro.length
 herm : ∃ l, Herm k c (ent R') l
 zero : ∀ i, k <= i -> ∀ b, ent R' i b = 0
 sp : SpEq Ro.length (ent Ro) k (ent R')
 bd : ∀ i b, (ent R' i b).natAbs < W ^ D
theorem RI.done {c m N d : Nat} {Ro R : List Hd} (hI : RI c m Ro d d R) (hN : Ro.length <= N) (hN1 : N <= 1048576) : RedOk c (hermW N m) Ro d R := by
 refine ⟨hI.sh, hI.len, hI.el, hI.herm, hI.zero, hI.sp, fun i b => ?_⟩;obtain ⟨l, hH⟩ := hI.herm;obtain ⟨a, ha1, ha2, ha3⟩ := hI.ind;by_cases h : i < d
 · exact Nat.lt_of_le_of_lt (hH.bound ha1 ha2 (fun k j hk => ha3 k j hk) i b h) (hermD_lt (by have := hI.el; omega) hN1)
 · rw [hI.zero i (by omega)]; simpa using pw_pos _
theorem red_ok {c m N B : Nat} {Ro : List Hd} (hN : Ro.length <= N) (hN1 : N <= 1048576) (hB : ladW N m <= B) : ∀ (f d e : Nat) (R : List Hd), e - d <= f -> RI c m Ro d e R -> ∃ k R', RedT B c d e R k R' /\ RedOk c (hermW N m) Ro k R'
 | 0, d, e, R, hf, hI => by
  have : d = e := by have := hI.de; omega
  subst this;exact ⟨d, R, .fin (Nat.le_refl _), hI.done hN hN1⟩
 | f + 1, d, e, R, hf, hI => by
  by_cases hde : d < e
  · obtain ⟨δ, hδ⟩ : ∃ δ, hermW N m = δ := ⟨_, rfl⟩;unfold ladW at hB;rw [hδ] at hB;obtain ⟨l, hH⟩ := hI.herm;obtain ⟨a, ha1, ha2, ha3⟩ := hI.ind;have hdl : d < Ro.length := by have := hI.el; omega
    have hmδ : m <= δ := by
     have h1 : (m + 1) * 1 <= (m + 1) * (2 * N) := Nat.mul_le_mul_left _ (by omega);rw [<- hδ]; unfold hermW;have h2 : 2 * (m + 1) * N = (m + 1) * (2 * N) := by rw [Nat.mul_comm 2, Nat.mul_assoc]
     omega
    have hbnd : ∀ i, i < d -> ∀ b, (ent R i b).natAbs < W ^ δ := fun i hi b => by
     have := hH.bound ha1 ha2 (fun k j hk => ha3 k j hk) i b hi;exact Nat.lt_of_le_of_lt this (hδ ▸ hermD_lt (by omega) hN1)
    have hall : ∀ x b, (ent R x b).natAbs < W ^ δ := fun x b => by
     by_cases h1 : x < d
     · exact hbnd x h1 b
     · by_cases h2 : x < e
       · exact pw_lt (hI.raw x (by omega) h2 b) hmδ
       · rw [hI.zero x (by omega)]; simpa using pw_pos δ
    have hsub : ∀ {M : Nat} {E' : Nat -> Nat -> Int}, SpEq (d + 1) (ent R) M E' -> ∀ k, k < d -> Sp M E' (a k) := fun hsp k hk =>
     (ha1 k hk).trans (fun i hi => hsp.1 i (by omega))
    have hZ : ∀ E' l', Herm d c E' l' -> SpEq (d + 1) (ent R) d E' -> ∀ i, i < d -> ∀ j, (E' i j).natAbs < W ^ δ := fun E' l' hE' hsp i hi j =>
     Nat.lt_of_le_of_lt (hE'.bound (hsub hsp) ha2 (fun k j hk => ha3 k j hk) i j hi) (hδ ▸ hermD_lt (by omega) hN1)
    have hS : (∀ s : Int, Sp d (ent R) (fun j => s * ent R d j) -> s = 0) -> ∀ E' l', Herm (d + 1) c E' l' -> SpEq (d + 1) (ent R) (d + 1) E' -> ∀ i, i < d + 1 -> ∀ j, (E' i j).natAbs < W ^ δ := fun hv E' l' hE' hsp i hi j => by
     have hb := hE'.bound (a := fun k => if k < d then a k else ent R d) (M := W ^ m) (fun k hk => by
      by_cases h : k < d
      · simp only [if_pos h]; exact hsub hsp k h
      · simp only [if_neg h]; exact hsp.1 d (by omega)) (ha2.snoc ha1 hv) (fun k j hk => by
      by_cases h : k < d
      · simp only [if_pos h]; exact ha3 k j h
      · simp only [if_neg h]; exact Nat.le_of_lt (hI.raw d (Nat.le_refl _) hde j)) i j hi
     exact Nat.lt_of_le_of_lt hb (hδ ▸ hermD_lt (by omega) hN1)
    have hmulN : (d - 0) * (2 * δ + 1) <= N * (2 * δ + 1) := Nat.mul_le_mul_right _ (by omega);have hmulN2 : (d + 1) * δ <= (N + 1) * δ := Nat.mul_le_mul_right _ (by omega);obtain ⟨b, R1, hput, hok⟩ := putLoop (δ := δ) (B := B) (U := δ + N * (2 * δ + 1)) (v0 := ent R d) (by rw [hI.len]; exact hdl : d < R.length) hH.toEch hbnd (by omega) hZ hS d 0 δ 0 (-1) R (by omega)
     ⟨hI.sh, rfl, hH.toEch, Nat.zero_le _, fun i hi => by omega, fun i _ _ => by omega, fun i _ _ _ => rfl, fun b hb => by omega, hall, ⟨1, fun _ => 0, by omega, Sp.zero _ _, fun b => by simp⟩, SpEq.refl _ _, fun _ _ _ => rfl⟩ (Nat.le_refl _) (by omega)
    cases b
    · obtain ⟨⟨l', hH'⟩, hz, hsp⟩ := hok.no rfl;have hl1 : R1.length = R.length := hok.len;have hrot := ent_rotT (e - 1 - d) d R1 (by rw [hl1, hI.len]; have := hI.el; omega);have e1 : d + (e - 1 - d) = e - 1 := by omega
      rw [e1] at hrot;obtain ⟨R2, hR2⟩ : ∃ R2, rotT (e - 1 - d) d R1 = R2 := ⟨_, rfl⟩;have hlo : ∀ i, i < d -> ∀ b, ent R2 i b = ent R1 i b := fun i hi b => by rw [<- hR2, hrot, if_pos hi]
      have hmid : ∀ i, d <= i -> i < e - 1 -> ∀ b, ent R2 i b = ent R (i + 1) b := fun i h1 h2 b => by
       rw [<- hR2, hrot, if_neg (by omega), if_pos h2, hok.oth (i + 1) (by omega)]
      have hsp2 : SpEq Ro.length (ent Ro) (e - 1) (ent R2) := by
       refine hI.sp.trans ⟨fun k hk => ?_, fun k hk => ?_⟩
       · by_cases h1 : k <= d
         · refine (hsp.1 k (by omega)).trans (fun i hi => ?_);exact (Sp.row (ent R2) (by omega : i < e - 1)).congr (fun b => (hlo i hi b).symm)
         · refine (Sp.row (ent R2) (by omega : k - 1 < e - 1)).congr (fun b => ?_);rw [hmid (k - 1) (by omega) (by omega)]; congr 1; omega
       · by_cases h1 : k < d
         · refine ((hsp.2 k h1).congr (hlo k h1)).trans (fun i hi => Sp.row _ (by omega))
         · exact (Sp.row (ent R) (by omega : k + 1 < e)).congr (hmid k (by omega) hk)
      have hRI : RI c m Ro d (e - 1) R2 := by
       refine ⟨hR2 ▸ shRotT _ _ _ hok.sh, by rw [<- hR2, rotT_length, hl1, hI.len], by omega, by have := hI.el; omega, ⟨l', hH'.congr hlo⟩, fun i h3 h4 b => ?_, fun i h3 b => ?_, hsp2, ⟨a, fun k hk => ?_, ha2, ha3⟩⟩
       · rw [hmid i h3 h4]; exact hI.raw (i + 1) (by omega) (by omega) b
       · rw [<- hR2, hrot, if_neg (by omega), if_neg (by omega)];by_cases h4 : i = e - 1
         · rw [if_pos h4]; exact hz b
         · rw [if_neg h4, hok.oth i (by omega)]; exact hI.zero i (by omega) b
       · refine (hsub hsp k hk).trans (fun i hi => ?_);exact (Sp.row (ent R2) hi).congr (fun b => (hlo i hi b).symm)
      obtain ⟨k, R', h1, h2⟩ := red_ok hN hN1 (by unfold ladW; rw [hδ]; exact hB) f d (e - 1) R2 (by omega) hRI;exact ⟨k, R', .zero hde hput (by rw [hR2]; exact h1), h2⟩
    · obtain ⟨⟨l', hH'⟩, hsp, hv⟩ := hok.yes rfl;have hl1 : R1.length = R.length := hok.len;have hsp2 : SpEq Ro.length (ent Ro) e (ent R1) := by
       refine hI.sp.trans ⟨fun k hk => ?_, fun k hk => ?_⟩
       · by_cases h1 : k < d + 1
         · exact (hsp.1 k h1).trans (fun i hi => Sp.row _ (by omega))
         · exact (Sp.row (ent R1) hk).congr (fun b => (hok.oth k (by omega) b).symm)
       · by_cases h1 : k < d + 1
         · exact (hsp.2 k h1).trans (fun i hi => Sp.row _ (by omega))
         · exact (Sp.row (ent R) hk).congr (fun b => hok.oth k (by omega) b)
      have hRI : RI c m Ro (d + 1) e R1 := by
       refine ⟨hok.sh, hl1.trans hI.len, by omega, hI.el, ⟨l', hH'⟩, fun i h3 h4 b => ?_, fun i h3 b => ?_, hsp2, ⟨fun k => if k < d then a k else ent R d, fun k hk => ?_, ha2.snoc ha1 hv, fun k b hk => ?_⟩⟩
       · rw [hok.oth i (by omega)]; exact hI.raw i (by omega) h4 b
       · rw [hok.oth i (by omega)]; exact hI.zero i h3 b
       · by_cases h : k < d
         · simp only [if_pos h]; exact hsub hsp k h
         · simp only [if_neg h]; exact hsp.1 d (by omega)
       · by_cases h : k < d
         · simp only [if_pos h]; exact ha3 k b h
         · simp only [if_neg h]; exact Nat.le_of_lt (hI.raw d (Nat.le_refl _) hde b)
      obtain ⟨k, R', h1, h2⟩ := red_ok hN hN1 (by unfold ladW; rw [hδ]; exact hB) f (d + 1) e R1 (by omega) hRI;exact ⟨k, R', .ok hde hput h1, h2⟩
  · have : d = e := by have := hI.de; omega
    subst this;exact ⟨d, R, .fin (Nat.le_refl _), hI.done hN hN1⟩
theorem reduce_ok {c m N B : Nat} {Ro : List Hd} (hs : Sh c Ro) (hm : ∀ i b, (ent Ro i b).natAbs < W ^ m) (hN : Ro.length <= N) (hN1 : N <= 1048576) (hB : ladW N m <= B) : ∃ k R', RedT B c 0 Ro.length Ro k R' /\ RedOk c (hermW N m) Ro k R' :=
 red_ok hN hN1 hB Ro.length 0 Ro.length Ro (by omega)
  ⟨hs, rfl, Nat.zero_le _, Nat.le_refl _, ⟨fun _ => 0, ⟨fun i k _ h => by omega, fun i h => by omega, fun i h => by omega, fun i h => by omega⟩, fun i k _ h => by omega⟩, fun i _ _ b => hm i b, fun i hi b => ent_out hi b, SpEq.refl _ _, ⟨fun _ _ => 0, fun k h => by omega, fun x _ k h => by omega, fun k b h => by omega⟩⟩
def matE (xs : List Int) (r c i j : Nat) : Int := if i < r /\ j < c then xs.getD (i * c + j) 0 else 0
theorem idx_lt {r c i j : Nat} (hi : i < r) (hj : j < c) : i * c + j < r * c := by
 have h1 : (i + 1) * c <= r * c := Nat.mul_le_mul_right _ hi;have h2 : (i + 1) * c = i * c + c := Nat.succ_mul i c;omega
theorem idx_of {r c n : Nat} (h : n < r * c) : ∃ i j, i < r /\ j < c /\ n = i * c + j := by
 have hc : 0 < c := by
  rcases Nat.eq_zero_or_pos c with h0 | h0
  · subst h0; simp at h
  · exact h0
 exact ⟨n / c, n % c, (Nat.div_lt_iff_lt_mul hc).2 h, Nat.mod_lt _ hc, by have := Nat.div_add_mod n c; rw [Nat.mul_comm] at this; omega⟩
theorem matE_eq {xs : List Int} {r c i j : Nat} (hi : i < r) (hj : j < c) : matE xs r c i j = xs.getD (i * c + j) 0 := by
 unfold matE; rw [if_pos ⟨hi, hj⟩]
theorem matE_row {xs : List Int} {r c i : Nat} (hi : r <= i) (j : Nat) : matE xs r c i j = 0 := by
 unfold matE; rw [if_neg (by omega)]
theorem matE_col {xs : List Int} {r c j : Nat} (i : Nat) (hj : c <= j) : matE xs r c i j = 0 := by
 unfold matE; rw [if_neg (by omega)]
theorem matE_ext {xs ys : List Int} {r c : Nat} (hx : xs.length = r * c) (hy : ys.length = r * c) (h : ∀ i j, i < r -> j < c -> matE xs r c i j = matE ys r c i j) : xs = ys := by
 refine List.ext_getElem (by omega) fun n h1 h2 => ?_;obtain ⟨i, j, hi, hj, e⟩ := idx_of (by omega : n < r * c);have := h i j hi hj;rw [matE_eq hi hj, matE_eq hi hj, <- e, gd_lt _ _ h1, gd_lt _ _ h2] at this;exact this
theorem matE_bound {xs : List Int} {r c B : Nat} (hB : 0 < B) (h : ∀ x ∈ xs, x.natAbs < B) (i j : Nat) : (matE xs r c i j).natAbs < B := by
 unfold matE;split
 · by_cases hl : i * c + j < xs.length
   · rw [gd_lt _ _ hl]; exact h _ (List.getElem_mem _)
   · rw [gd_ge _ _ (by omega)]; simpa using hB
 · simpa using hB
theorem bound_matE {xs : List Int} {r c B : Nat} (hx : xs.length = r * c) (h : ∀ i j, i < r -> j < c -> (matE xs r c i j).natAbs < B) : ∀ x ∈ xs, x.natAbs < B := by
 intro x hm;obtain ⟨n, hn, rfl⟩ := List.getElem_of_mem hm;obtain ⟨i, j, hi, hj, e⟩ := idx_of (by omega : n < r * c);have := h i j hi hj;rw [matE_eq hi hj, <- e, gd_lt _ _ hn] at this;exact this
theorem getD_rowOf (xs : List Int) (c k j : Nat) (hj : j < c) : (rowOf xs c k).getD j 0 = xs.getD (k * c + j) 0 := by
 unfold rowOf;simp [hj]
theorem getD_flatten : ∀ (xss : List (List Int)) (c : Nat), (∀ x ∈ xss, x.length = c) -> ∀ i j, (hi : i < xss.length) -> j < c -> xss.flatten.getD (i * c + j) 0 = (xss[i]).getD j 0
 | [], c, h, i, j, hi, hj => by simp at hi
 | x :: xss, c, h, 0, j, hi, hj => by
  have hx := h x (List.mem_cons_self ..);rw [List.flatten_cons, Nat.zero_mul, Nat.zero_add, List.getElem_cons_zero];rw [gd_lt _ _ (by rw [List.length_append]; omega), gd_lt _ _ (by omega), List.getElem_append_left]
 | x :: xss, c, h, i + 1, j, hi, hj => by
  have hx := h x (List.mem_cons_self ..);rw [List.flatten_cons, List.getElem_cons_succ, <- getD_flatten xss c (fun y hy => h y (List.mem_cons_of_mem _ hy)) i j (by simpa using hi) hj];have e : (i + 1) * c + j = x.length + (i * c + j) := by rw [Nat.succ_mul, hx]; omega
  rw [e, List.getD_eq_getElem?_getD, List.getElem?_append_right (by omega), List.getD_eq_getElem?_getD];congr 2; omega
structure IsHnf (r c : Nat) (xs hs : List Int) (k : Nat) (l : Nat -> Nat) : Prop where
 len : hs.length = r * c
 kr : k <= r
 herm : Herm k c (matE hs r c) l
 zero : ∀ i, k <= i -> ∀ b, matE hs r c i b = 0
 sp : SpEq r (matE xs r c) k (matE hs r c)
theorem IsHnf.unique {r c : Nat} {xs hs hs' : List Int} {k k' : Nat} {l l' : Nat -> Nat} (h : IsHnf r c xs hs k l) (h' : IsHnf r c xs hs' k' l') : hs = hs' /\ k = k' /\ ∀ i, i < k -> l i = l' i := by
 obtain ⟨h1, h2, h3⟩ := h.herm.unique h'.herm (h.sp.symm.trans h'.sp);refine ⟨matE_ext h.len h'.len fun i j hi hj => ?_, h1, h2⟩;by_cases hk : i < k
 · exact h3 i hk j
 · rw [h.zero i (by omega), h'.zero i (by omega)]
theorem ent_rows {R : List Hd} {xs : List Int} {r c : Nat} (hl : R.length = r) (hx : xs.length = r * c) (h : ∀ k (hk : k < R.length), R[k].xs = rowOf xs c k) : Sh c R /\ ∀ i j, ent R i j = matE xs r c i j := by
 have hlen : ∀ k, k < r -> (rowOf xs c k).length = c := fun k hk => by
  have := idx_lt (c := c + 1) hk (Nat.lt_succ_self c);unfold rowOf;have h1 : (k + 1) * c <= r * c := Nat.mul_le_mul_right _ hk;have h2 : (k + 1) * c = k * c + c := Nat.succ_mul k c;simp [hx]; omega
 have hsh : Sh c R := fun q hq => by
  obtain ⟨k, hk, rfl⟩ := List.getElem_of_mem hq;rw [h k hk]; exact hlen k (by omega)
 refine ⟨hsh, fun i j => ?_⟩;by_cases hi : i < r
 · by_cases hj : j < c
   · rw [ent_get (by omega), h i (by omega), getD_rowOf _ _ _ _ hj, matE_eq hi hj]
   · rw [hsh.wide i (by omega), matE_col _ (by omega)]
 · rw [ent_out (by omega), matE_row (by omega)]
theorem matE_rows {R : List Hd} {r c : Nat} (hl : R.length = r) (hs : Sh c R) : (R.map Hd.xs).flatten.length = r * c /\ ∀ i j, matE (R.map Hd.xs).flatten r c i j = ent R i j := by
 have hc : ∀ x ∈ R.map Hd.xs, x.length = c := fun x hx => by
  obtain ⟨q, hq, rfl⟩ := List.mem_map.1 hx; exact hs q hq
 refine ⟨?_, fun i j => ?_⟩
 · have : ∀ (xss : List (List Int)), (∀ x ∈ xss, x.length = c) -> xss.flatten.length = xss.length * c := by
    intro xss;induction xss with
    | nil => intro _; simp
    | cons x xs ih =>
     intro h;rw [List.flatten_cons, List.length_append, ih (fun y hy => h y (List.mem_cons_of_mem _ hy)), h x (List.mem_cons_self ..), List.length_cons, Nat.succ_mul]; omega
   rw [this _ hc, List.length_map, hl]
 · by_cases hi : i < r
   · by_cases hj : j < c
     · rw [matE_eq hi hj, getD_flatten _ c hc i j (by simp; omega) hj, List.getElem_map, ent_get (by omega)]
     · rw [hs.wide i (by omega), matE_col _ (by omega)]
   · rw [ent_out (by omega), matE_row (by omega)]
theorem SpEq.left {n m : Nat} {E E' F : Nat -> Nat -> Int} (h : SpEq n E m F) (e : ∀ i j, E' i j = E i j) : SpEq n E' m F :=
 (SpEq.of_eq (fun k _ j => e k j)).trans h
theorem SpEq.right {n m : Nat} {E F F' : Nat -> Nat -> Int} (h : SpEq n E m F) (e : ∀ i j, F' i j = F i j) : SpEq n E m F' :=
 h.trans (SpEq.of_eq (fun k _ j => (e k j).symm))
theorem hnf_of {R R' : List Hd} {xs : List Int} {r c D k : Nat} (hl : R.length = r) (he : ∀ i j, ent R i j = matE xs r c i j) (h : RedOk c D R k R') : ∃ l, IsHnf r c xs (R'.map Hd.xs).flatten k l /\ ∀ x ∈ (R'.map Hd.xs).flatten, x.natAbs < W ^ D := by
 obtain ⟨l, hH⟩ := h.herm;have hm := matE_rows (h.len.trans hl) h.sh;refine ⟨l, ⟨hm.1, hl ▸ h.kl, hH.congr (fun a _ b => hm.2 a b), fun i hi b => (hm.2 i b).trans (h.zero i hi b), ?_⟩, bound_matE hm.1 (fun i j _ _ => by rw [hm.2]; exact h.bd i j)⟩;have := h.sp;rw [hl] at this;exact (this.left (fun i j => (he i j).symm)).right hm.2
end Go.Proofs.YtknkkceioockjaaGreat
namespace Go.Proofs.YtknkkceioockjaaGreat
open Go.RowKit
set_option maxRecDepth 100000 in
set_option maxHeartbeats 4000000 in
theorem reduced_c (o cap B c k : Nat) (R R' : List Hd) (w : World) (h : MatN w o R) (hB : B <= 4000000000000) (hP : RedT B c 0 R.length R k R') (hR : R.length <= 100000) (hc : c <= 1000000) :
 Calls Tryz.prog 42 #[.slice (some ⟨o, 0, none⟩) R.length cap] w fun e w' => e = .returned (.tuple #[.slice (some ⟨o, 0, none⟩) R'.length cap, .int .i64 (k : Int)]) /\ MatN w' o R' /\ Chg (fun q => q = o ∨ ∃ r ∈ R, r.blk = q) w w' := by
 have HM := Lib.hid h; clear h;have HP := Lib.hid hP; clear hP;go_enter Tryz.func42, Tryz.ntmps42;go_wp2_with fail
 refine (New_c o cap R _ HM.out).mono ?_;rintro e w2 ⟨⟨lb, sb, g, rfl, hL, h1, h2, h3⟩, hb2⟩;have HL := Lib.hid hL; clear hL;have HB2 := Lib.hid hb2; clear hb2;go_wp2_with fail
 refine (Reduce_c ⟨lb, o, sb, g, cap, R⟩ B c k R' _ HL.out hB HP.out hR hc).mono ?_;rintro e w3 ⟨rfl, hL3, hC3⟩;have L3 := Lib.hid hL3;have C3 : Hid (Chg (fun q => q = o ∨ ∃ r ∈ R, r.blk = q) w w3) := Lib.hid ((Chg.of_below HB2.out).trans (hC3.mono (fun q _ e => e)));have cb : w3.cell? ⟨lb, 0, none⟩ = some (.slice (some ⟨o, 0, none⟩) R'.length cap) := L3.out.lad.cell 0;clear hL3 hC3;go_wp2;refine bodyPost_ret (results_tmp2 (t := 2) (u := 3) (by kernel_rfl) _ _ _) rfl ?_;exact ⟨rfl, L3.out.mat, C3.out⟩
theorem results_mat {fn : Func} {p : Tmp} (h : fn.results = #[.cell p 24]) (tmps : Array Value) (w : World) (g : Nat) (a b c : Value) (hp : tmps.getD p undef = .pointer (some ⟨g, 0, none⟩)) (hr : RowAt w g 24 [a, b, c]) :
 (results fn tmps).run Tryz.prog w = .ok (.agg #[a, b, c]) w :=
 results_cell_row h tmps w g 24 #[a, b, c] (0, 0) _ hp hr Tryz.underlying24 rfl (by kernel_rfl)
structure RowsAt (w : World) (L o : Nat) (xss : List (List Int)) : Prop where
 lt : o < w.heap.size
 row : ∀ i (h : i < xss.length), ∃ ao cap, w.cell? ⟨o, i, none⟩ = some (.slice ao xss[i].length cap) /\ LsAt w L ao xss[i]
theorem RowsAt.below {w w' : World} {L o : Nat} {xss : List (List Int)} (h : RowsAt w L o xss) (hb : Below w.heap.size w w') : RowsAt w' L o xss :=
 ⟨Nat.lt_of_lt_of_le h.lt hb.size, fun i hi => by
  obtain ⟨ao, cap, h1, h2⟩ := h.row i hi;exact ⟨ao, cap, (hb.cell (p := ⟨o, i, none⟩) h.lt).trans h1, h2.below hb⟩⟩
structure MatI (w : World) (b m n c N : Nat) (cu : List Int) (W : World) : Prop where
 box : RowAt W m 24 [.int .i64 (n : Int), .int .i64 (c : Int), .slice (some ⟨b, 0, none⟩) cu.length N]
 row : RowN W b (cu ++ List.replicate (N - cu.length) 0)
 res : RowAt W w.heap.size 24 [.int .i64 0, .int .i64 0, .slice none 0 0]
 bel : Below w.heap.size w W
theorem MatI.app {w : World} {b m n c N k : Nat} {cu : List Int} {W : World} (h : MatI w b m n c N cu W) (hb : w.heap.size < b /\ b < m) (hk : cu.length = k) (hkN : k + 1 <= N) {p : P4} {x : Int} (hx : NumAt W (av p) x) (W2 : World)
 (e : (W.alloc (.cells #[.bool p.1, .slice p.2.1 p.2.2.1 p.2.2.2] 45)).setCells b (k * 2) [.bool p.1, .slice p.2.1 p.2.2.1 p.2.2.2] = W2) :
 RowAt W2 m 24 [.int .i64 (n : Int), .int .i64 (c : Int), .slice (some ⟨b, 0, none⟩) k N] /\ MatI w b m n c N (cu ++ [x]) (W2.setCell ⟨m, 2, none⟩ (.slice (some ⟨b, 0, none⟩) (k + 1) N)) := by
 have hb1 : Below W.heap.size W (W.alloc (.cells #[.bool p.1, .slice p.2.1 p.2.2.1 p.2.2.2] 45)) := (Below.refl _ _).alloc (Nat.le_refl _) _;generalize W.alloc (.cells #[.bool p.1, .slice p.2.1 p.2.2.1 p.2.2.2] 45) = W1 at *;subst hk;have hx1 := hx.below hb1;have hr1 := h.row.below hb1;have hm1 := h.box.below hb1 h.box.lt;have hs1 := h.res.below hb1 h.res.lt;have hB1 := h.bel.trans (hb1.mono h.bel.size);have e2 : (W1.setCell ⟨b, cu.length * 2, none⟩ (.bool p.1)).setCell ⟨b, cu.length * 2 + 1, none⟩ (.slice p.2.1 p.2.2.1 p.2.2.2) = W2 := by rw [<- e]; rfl
 have hr2 : RowN W2 b ((cu ++ List.replicate (N - cu.length) 0).set cu.length x) := by rw [<- e2]; exact hr1.set cu.length hx1
 have hne : m ≠ b := by omega
 have hm2 : RowAt W2 m 24 [.int .i64 (n : Int), .int .i64 (c : Int), .slice (some ⟨b, 0, none⟩) cu.length N] := by
  rw [<- e2]; exact (hm1.other (p := ⟨b, cu.length * 2, none⟩) hne _).other (p := ⟨b, cu.length * 2 + 1, none⟩) hne _
 have hs2 : RowAt W2 w.heap.size 24 [.int .i64 0, .int .i64 0, .slice none 0 0] := by
  rw [<- e2]; exact (hs1.other (p := ⟨b, cu.length * 2, none⟩) (by show w.heap.size ≠ b; omega) _).other (p := ⟨b, cu.length * 2 + 1, none⟩) (by show w.heap.size ≠ b; omega) _
 have hB2 : Below w.heap.size w W2 := by
  rw [<- e2]; exact (hB1.setCell (p := ⟨b, cu.length * 2, none⟩) (Nat.le_of_lt hb.1) _).setCell (p := ⟨b, cu.length * 2 + 1, none⟩) (Nat.le_of_lt hb.1) _
 refine ⟨hm2, ?_, ?_, ?_, ?_⟩
 · have := hm2.set 2 (.slice (some ⟨b, 0, none⟩) (cu.length + 1) N);simpa using this
 · have e3 : (cu ++ List.replicate (N - cu.length) 0).set cu.length x = (cu ++ [x]) ++ List.replicate (N - (cu ++ [x]).length) 0 := by
    obtain ⟨q, hq⟩ : ∃ q, N - cu.length = q + 1 := ⟨N - cu.length - 1, by omega⟩;have hq2 : N - (cu ++ [x]).length = q := by simp; omega
    rw [hq, hq2, List.replicate_succ, List.set_append_right _ _ (Nat.le_refl _)];simp
   rw [<- e3];exact hr2.setFar hm2 (by decide) (NoW.mat (n : Int) (c : Int) _ _ _) 2 _
 · exact hs2.other (p := ⟨m, 2, none⟩) (by show w.heap.size ≠ m; omega) _
 · exact hB2.setCell (p := ⟨m, 2, none⟩) (by show w.heap.size <= m; omega) _
theorem two_cells (w : World) (x y : Value) (t : TypeId) : ∀ j u, [x, y][j]? = some u -> (w.alloc (.cells #[x, y] t)).cell? ((⟨w.heap.size, 0, none⟩ : Addr).add j) = some u := by
 intro j u hj;have := (RowAt.new w #[x, y] t).cell j;have e : ((⟨w.heap.size, 0, none⟩ : Addr).add j) = ⟨w.heap.size, j, none⟩ := by unfold Addr.add; simp; omega
 rw [e, this]; exact hj
theorem MatI.spare {w : World} {b m n c N k : Nat} {cu : List Int} {W : World} (h : MatI w b m n c N cu W) (hk : cu.length = k) (hkN : k + 1 <= N) (X : Obj) (j : Nat) (hj : j < 2) : ((W.alloc X).cell? ⟨b, 0 + k * 2 + j, none⟩).isSome = true /\ (W.alloc X).frozen? ⟨b, 0 + k * 2 + j, none⟩ = false := by
 have hb1 : Below W.heap.size W (W.alloc X) := (Below.refl _ _).alloc (Nat.le_refl _) _;have hr1 := h.row.below hb1;refine ⟨?_, hr1.free _⟩;obtain ⟨q, h0, h1, _⟩ := hr1.get (i := k) (by simp [hk]; omega);have hj2 : j = 0 ∨ j = 1 := by omega
 rcases hj2 with rfl | rfl
 · rw [Nat.zero_add, Nat.add_zero, h0]; rfl
 · rw [Nat.zero_add, h1]; rfl
theorem flatten_len {xss : List (List Int)} {c : Nat} (hc : ∀ x ∈ xss, x.length = c) : xss.flatten.length = xss.length * c := by
 induction xss with
 | nil => simp
 | cons x xs ih =>
  rw [List.flatten_cons, List.length_append, ih (fun y hy => hc y (List.mem_cons_of_mem _ hy)), hc x (List.mem_cons_self ..), List.length_cons, Nat.succ_mul]; omega
theorem flatten_take_len {xss : List (List Int)} {c i : Nat} (hc : ∀ x ∈ xss, x.length = c) (hi : i <= xss.length) : (xss.take i).flatten.length = i * c := by
 rw [flatten_len (fun x hx => hc x (List.mem_of_mem_take hx)), List.length_take, Nat.min_eq_left hi]
theorem flatten_take_succ {xss : List (List Int)} {i : Nat} (hi : i < xss.length) : (xss.take (i + 1)).flatten = (xss.take i).flatten ++ xss[i] := by
 rw [List.take_succ_eq_append_getElem hi, List.flatten_append]; simp
set_option maxRecDepth 100000 in
set_option maxHeartbeats 4000000 in
theorem matrix_c (o cap n c : Nat) (xss : List (List Int)) (w : World) (h : RowsAt w 17592186044415 o xss) (hn : xss.length = n) (hc : ∀ x ∈ xss, x.length = c) (hn1 : n <= 10000) (hc1 : c <= 10000) :
 Calls Tryz.prog 44 #[.slice (some ⟨o, 0, none⟩) n cap, .int .i64 (c : Int)] w fun e w' => (∃ b, e = .returned (.agg #[.int .i64 (n : Int), .int .i64 (c : Int), .slice (some ⟨b, 0, none⟩) (n * c) (n * c)]) /\ w.heap.size <= b /\ RowN w' b xss.flatten) /\ Below w.heap.size w w' := by
 have hnc : n * c <= 100000000 := Nat.mul_le_mul hn1 hc1;have hw1 : wrap64 ((n : Int) * (c : Int)) = ((n * c : Nat) : Int) := by
  rw [<- Int.natCast_mul]; unfold wrap64; omega
 obtain ⟨N, hN⟩ : ∃ N, n * c = N := ⟨_, rfl⟩;rw [hN] at hw1 hnc ⊢;have HN := Lib.hid hN; clear hN;have HX := Lib.hid h; clear h;go_enter Tryz.func44, Tryz.ntmps44;go_wp2_with (at_make; refine mk_nums rfl _ _ rfl 0 N rfl rfl rfl (by omega) (Nat.zero_le _) (by omega) ?_; intro b w1 hm1)
 have hI : MatI w b w1.heap.size n c N [] (w1.alloc (.cells #[.int .i64 (n : Int), .int .i64 (c : Int), .slice (some ⟨b, 0, none⟩) 0 N] 24)) := by
  have h0 := RowAt.new w #[.int .i64 0, .int .i64 0, .slice none 0 0] 24;have hb0 : Below w.heap.size w (w.alloc (.cells #[.int .i64 0, .int .i64 0, .slice none 0 0] 24)) := (Below.refl _ _).alloc (Nat.le_refl _) _;have hb1 : Below w1.heap.size w1 (w1.alloc (.cells #[.int .i64 (n : Int), .int .i64 (c : Int), .slice (some ⟨b, 0, none⟩) 0 N] 24)) := (Below.refl _ _).alloc (Nat.le_refl _) _;refine ⟨RowAt.new _ _ _, ?_, ?_, ?_⟩
  · simpa using (RowN.zeros hm1.row).below hb1
  · exact (h0.below hm1.below h0.lt).alloc _
  · exact (hb0.trans (hm1.below.mono hb0.size)).trans (hb1.mono (Nat.le_trans hb0.size hm1.below.size))
 have hbl : w.heap.size < b /\ b < w1.heap.size := by
  have h1 := hm1.at_; have h2 := hm1.size; rw [World.size_alloc] at h1 h2; omega
 have HI := Lib.hid hI; clear hI;clear hm1;generalize w1.alloc (.cells #[.int .i64 (n : Int), .int .i64 (c : Int), .slice (some ⟨b, 0, none⟩) 0 N] 24) = w2 at *;obtain ⟨m, hm⟩ : ∃ m, w1.heap.size = m := ⟨_, rfl⟩;rw [hm] at hbl HI ⊢;clear hm;have HC := Lib.hid hc; clear hc;go_loopw [21] (fun i_ wr => ∃ (i : Nat), i <= n /\ i_ = .int .i64 (i : Int) /\ Hid (MatI w b m n c N (xss.take i).flatten wr)) (fun i_ _ => n - (intOf i_).toNat)
 case atStart => exact ⟨0, Nat.zero_le _, rfl, Lib.hid (by simpa using HI.out)⟩
 case round =>
  obtain ⟨i, hi, rfl, hIr⟩ := hrel;by_cases hin : i < n
  · have hix : i < xss.length := by omega
    have hin1 : (i : Int) < (n : Int) := by omega
    obtain ⟨ra, rc, hroww, hls⟩ := HX.out.row i hix;have hrow0 := (hIr.out.bel.cell (p := ⟨o, i, none⟩) HX.out.lt).trans hroww;clear hroww;have hxl : xss[i].length = c := HC.out _ (List.getElem_mem hix);rw [hxl] at hrow0;have HXL := Lib.hid hxl; clear hxl;have HLS := Lib.hid hls; clear hls;have hmul : (i + 1) * c <= N := by rw [<- HN.out]; exact Nat.mul_le_mul_right _ hin
    have hmul2 : (i + 1) * c = i * c + c := Nat.succ_mul i c;have hfl : (xss.take i).flatten.length = i * c := flatten_take_len HC.out (by omega);have HFL := Lib.hid hfl; clear hfl;have HM := Lib.hid (And.intro hmul hmul2); clear hmul hmul2;go_wp2;go_loopw [27] (fun j_ wq => ∃ (j : Nat), j <= c /\ j_ = .int .i64 (j : Int) /\ Hid (MatI w b m n c N ((xss.take i).flatten ++ xss[i].take j) wq)) (fun j_ _ => c - (intOf j_).toNat)
    case atStart => exact ⟨0, Nat.zero_le _, rfl, Lib.hid (by simpa using hIr.out)⟩
    case round =>
     obtain ⟨j, hj, rfl, hIq⟩ := hrel;by_cases hjc : j < c
     · have hjc1 : (j : Int) < (c : Int) := by omega
       have hjx : j < xss[i].length := by rw [HXL.out]; exact hjc
       obtain ⟨k, hk⟩ : ∃ k, i * c + j = k := ⟨_, rfl⟩;have hkN : k + 1 <= N := by have := HM.out; omega
       obtain ⟨cu, hcu⟩ : ∃ cu, (xss.take i).flatten ++ xss[i].take j = cu := ⟨_, rfl⟩;rw [hcu] at hIq;have hcl : cu.length = k := by rw [<- hcu, List.length_append, HFL.out, List.length_take, Nat.min_eq_left (by omega)]; exact hk
       have hcu2 : (xss.take i).flatten ++ xss[i].take (j + 1) = cu ++ [xss[i][j]] := by
        rw [List.take_succ_eq_append_getElem hjx, <- List.append_assoc, hcu]
       obtain ⟨x, hx⟩ : ∃ x, xss[i][j] = x := ⟨_, rfl⟩;obtain ⟨ab, aoff, hra, hab, hcells⟩ := (HLS.out.below hIq.out.bel) (by omega);subst hra;obtain ⟨px, cx0, cx1, hnx⟩ := hcells j hjx;rw [hx] at hnx hcu2;have HCU := Lib.hid hcu2; clear hcu2 hcu hcells hx;have HK := Lib.hid hk; clear hk;have hb1 : Below wr.heap.size wr (wr.alloc (.cells #[.bool px.1, .slice px.2.1 px.2.2.1 px.2.2.2] 45)) := (Below.refl _ _).alloc (Nat.le_refl _) _;have Hnx := Lib.hid (hnx.below hb1); clear hnx;have hIa : MatI w b m n c N cu (wr.alloc (.cells #[.bool px.1, .slice px.2.1 px.2.2.1 px.2.2.2] 45)) :=
        ⟨hIq.out.box.below hb1 hIq.out.box.lt, hIq.out.row.below hb1, hIq.out.res.below hb1 hIq.out.res.lt, hIq.out.bel.trans (hb1.mono hIq.out.bel.size)⟩
       have HIa := Lib.hid hIa; clear hIa;have hxr := RowAt.new wr #[.bool px.1, .slice px.2.1 px.2.2.1 px.2.2.2] 45;have HXR := Lib.hid hxr; clear hxr;have hsm : m < wr.heap.size := hIq.out.box.lt;clear hIq hb1;go_wp2;generalize wr.alloc (.cells #[.bool px.1, .slice px.2.1 px.2.2.1 px.2.2.2] 45) = w5 at *;obtain ⟨xb, hxb⟩ : ∃ xb, wr.heap.size = xb := ⟨_, rfl⟩;rw [hxb] at HXR hsm ⊢;have q0 : w5.cell? ⟨xb, 0, none⟩ = some (.bool px.1) := HXR.out.cell 0;have q1 : w5.cell? ⟨xb, 1, none⟩ = some (.slice px.2.1 px.2.2.1 px.2.2.2) := HXR.out.cell 1;have c2 : w5.cell? ⟨m, 2, none⟩ = some (.slice (some ⟨b, 0, none⟩) k N) := by have := HIa.out.box.cell 2; rw [hcl] at this; exact this
       clear cx0 cx1 hrow0;obtain ⟨i0, hi0, hz0, hsz0, hby0⟩ := info_parts info_Int;have hrl : (cu ++ List.replicate (N - cu.length) 0).length = N := by rw [List.length_append, List.length_replicate, hcl]; omega
       go_region_law (first
        | (refine step_append_room rfl (.tmp 32) (.tmp 35) 22 rfl 45 i0 2 Tryz.underlying22 hi0 hsz0 b 0 k N rfl ⟨w6.heap.size, 0, none⟩ 1 1 [.bool pz.1, .slice pz.2.1 pz.2.2.1 pz.2.2.2] rfl rfl (two_cells w6 _ _ _) (by simp [Value.oneCell']) (by omega) (fun j hj => HI6.out.spare hcl hkN _ j hj) ?_; obtain ⟨w7, hw7⟩ : ∃ w7, (w6.alloc (.cells #[.bool pz.1, .slice pz.2.1 pz.2.2.1 pz.2.2.2] 45)).setCells b (k * 2) [.bool pz.1, .slice pz.2.1 pz.2.2.1 pz.2.2.2] = w7 := ⟨_, rfl⟩; have hI7 := HI6.out.app hbl hcl hkN HZ6.out w7 hw7; simp only [Nat.zero_add]; rw [hw7]; have g2 := hI7.1.cell 2; have gf2 := hI7.1.free 2; simp only [List.getElem?_cons_zero, List.getElem?_cons_succ] at g2; have HI7 := Lib.hid hI7; clear hI7 hw7)
        | (go_simp; go_at_call 69; refine (ILeast_c (av px) x _ (IntAt.below (w := w5) Hnx.out (Below.refl _ _).drew)).mono ?_; rintro e w6 ⟨⟨vz, rfl, hvz⟩, hb6⟩; obtain ⟨pz, rfl⟩ := NumAt.parts hvz.num; have HZ6 := Lib.hid hvz.num; unfold av at *; have hI6 : MatI w b m n c N cu w6 := ⟨RowAt.below (w := w5.drew) HIa.out.box hb6 HIa.out.box.lt, RowN.below (w := w5.drew) HIa.out.row hb6, RowAt.below (w := w5.drew) HIa.out.res hb6 HIa.out.res.lt, HIa.out.bel.drew.trans (hb6.mono HIa.out.bel.size)⟩; have HI6 := Lib.hid hI6; clear hI6; have k2 := HI6.out.box.cell 2; rw [hcl] at k2; have k3 := (HI6.out.box.alloc (.cells #[.bool pz.1, .slice pz.2.1 pz.2.2.1 pz.2.2.2] 45)).cell 2; rw [hcl] at k3; simp only [List.getElem?_cons_zero, List.getElem?_cons_succ] at k2 k3; clear hb6 hvz))
       all_goals go_wp2
       all_goals refine ⟨⟨j + 1, by omega, by go_num, Lib.hid ?_⟩, ?_⟩
       all_goals first
        | (rw [HCU.out]; exact HI7.out.2)
        | (simp [intOf]; omega)
     · obtain rfl : j = c := by omega
       go_wp2;go_roundw
       case rel =>
        refine ⟨i + 1, by omega, by go_num, Lib.hid ?_⟩;rw [flatten_take_succ hix];have h9 := hIq.out;rw [List.take_of_length_le (l := xss[i]) (by rw [HXL.out]; exact Nat.le_refl _)] at h9;exact h9
       case measure => simp [intOf]; omega
  · obtain rfl : i = n := by omega
    have hce : (xss.take i).flatten = xss.flatten := by rw [List.take_of_length_le (by omega)]
    have HCE := Lib.hid hce; clear hce;have hcl : (xss.take i).flatten.length = N := by rw [HCE.out, flatten_len HC.out, hn]; exact HN.out
    have c0 := hIr.out.box.cell 0;have c1 := hIr.out.box.cell 1;have c2 := hIr.out.box.cell 2;have d0 := hIr.out.res.cell 0;have d1 := hIr.out.res.cell 1;have d2 := hIr.out.res.cell 2;have f0 := hIr.out.res.free 0;have f1 := hIr.out.res.free 1;have f2 := hIr.out.res.free 2;rw [hcl] at c2;simp only [List.getElem?_cons_zero, List.getElem?_cons_succ] at c0 c1 c2 d0 d1 d2;clear hcl;go_wp2;have hrm := hIr.out.row;rw [HCE.out, flatten_len HC.out, hn, HN.out, Nat.sub_self] at hrm;simp only [List.replicate_zero, List.append_nil] at hrm;refine bodyPost_ret (results_mat (p := 4) (by kernel_rfl) _ _ w.heap.size _ _ _ rfl (hIr.out.res.set3 (.int .i64 (i : Int)) (.int .i64 (c : Int)) (.slice (some ⟨b, 0, none⟩) N N))) rfl ?_;exact ⟨⟨b, rfl, by omega, hrm.setMat hIr.out.res (i : Int) (c : Int) _ _ _⟩, ((hIr.out.bel.setCell (p := ⟨w.heap.size, 0, none⟩) (Nat.le_refl _) _).setCell (p := ⟨w.heap.size, 1, none⟩) (Nat.le_refl _) _).setCell (p := ⟨w.heap.size, 2, none⟩) (Nat.le_refl _) _⟩
theorem results_mat_err {fn : Func} {p q : Tmp} (h : fn.results = #[.cell p 24, .tmp q]) (tmps : Array Value) (w : World) (g : Nat) (a b c : Value) (hp : tmps.getD p undef = .pointer (some ⟨g, 0, none⟩)) (hr : RowAt w g 24 [a, b, c]) :
 (results fn tmps).run Tryz.prog w = .ok (.tuple #[.agg #[a, b, c], tmps.getD q undef]) w := results_mat_tmp h tmps w g a b c hp hr
theorem RowN.lsAt {w : World} {b : Nat} {xs : List Int} (h : RowN w b xs) {L : Nat} (hL : ∀ x ∈ xs, wlen x.natAbs <= L) : LsAt w L (some ⟨b, 0, none⟩) xs := by
 intro _;refine ⟨b, 0, rfl, h.lt, fun i hi => ?_⟩;obtain ⟨p, h0, h1, hn⟩ := h.get hi;exact ⟨p, by simpa using h0, by simpa using h1, hn.int (hL _ (List.getElem_mem hi))⟩
theorem MatN.rowsAt {w : World} {o : Nat} {R : List Hd} (h : MatN w o R) {L : Nat} (hL : ∀ r ∈ R, ∀ x ∈ r.xs, wlen x.natAbs <= L) (k : Nat) (hk : k <= R.length) : RowsAt w L o ((R.take k).map Hd.xs) := by
 refine ⟨h.lt, fun i hi => ?_⟩;have hi' : i < R.length := by simp at hi; omega
 have hm : R[i] ∈ R := List.getElem_mem hi';refine ⟨some ⟨R[i].blk, 0, none⟩, R[i].cap, ?_, ?_⟩
 · rw [h.hdr hi'];simp [Hd.hdr]
 · have := (h.row _ hm).lsAt (hL _ hm);simpa using this
theorem ent_words {R : List Hd} {D : Nat} (h : ∀ i b, (ent R i b).natAbs < W ^ D) : ∀ r ∈ R, ∀ x ∈ r.xs, wlen x.natAbs <= D := by
 intro r hr x hx;obtain ⟨i, hi, rfl⟩ := List.getElem_of_mem hr;obtain ⟨j, hj, rfl⟩ := List.getElem_of_mem hx;have := h i j;rw [ent_get hi, gd_lt _ _ hj] at this;exact wlen_le_of_lt this
abbrev hW (m : Nat) : Nat := hermW 66 m
set_option maxRecDepth 100000 in
set_option maxHeartbeats 4000000 in
theorem Form_c (r c m : Nat) (ao : Option Addr) (len cap : Nat) (xs : List Int) (w : World) (hr : r <= 64) (hc : c <= 64) (h : LsAt w 17592186044415 ao xs) (hm : ∀ x ∈ xs, x.natAbs < W ^ m) (hm1 : m <= 140000000) (hl : len = xs.length) (hs : xs.length = r * c) :
 Calls Tryz.prog 13 #[.agg #[.int .i64 (r : Int), .int .i64 (c : Int), .slice ao len cap]] w fun e w' => (∃ b hs k l, e = .returned (.tuple #[.agg #[.int .i64 (r : Int), .int .i64 (c : Int), .slice (some ⟨b, 0, none⟩) (r * c) (r * c)], .int .i64 0]) /\ w.heap.size <= b /\ RowN w' b hs /\ IsHnf r c xs hs k l /\ ∀ x ∈ hs, x.natAbs < W ^ hW m) /\ Below w.heap.size w w' := by
 subst hl;have hlad : ladW 66 m <= 4000000000000 := by unfold ladW hermW; omega
 have hhw : hW m <= 17592186044415 := by unfold hW hermW; omega
 have hwl : ∀ x ∈ xs, wlen x.natAbs <= 17592186044415 := fun x hx => Nat.le_trans (wlen_le_of_lt (hm x hx)) (by omega);have HXS := Lib.hid h; clear h;have HLad := Lib.hid (And.intro hlad (And.intro hhw hwl)); clear hlad hhw hwl;have HMM := Lib.hid hm; clear hm;have hsnd : soundM (r : Int) (c : Int) xs.length = true := by
  unfold soundM sideOk;rw [hs]; simp; omega
 have HS := Lib.hid hs; clear hs;have HCK := Lib.hid (chkM_ok hsnd); clear hsnd;go_enter Tryz.func13, Tryz.ntmps13;go_wp2_with fail
 obtain ⟨r1, r2, hb⟩ := two_new w #[.int .i64 (r : Int), .int .i64 (c : Int), .slice ao xs.length cap] #[.int .i64 0, .int .i64 0, .slice none 0 0] 24 24;generalize (w.alloc (.cells #[.int .i64 (r : Int), .int .i64 (c : Int), .slice ao xs.length cap] 24)).alloc (.cells #[.int .i64 0, .int .i64 0, .slice none 0 0] 24) = w2 at *;refine (Check_c (r : Int) (c : Int) ao xs.length cap _ (by omega) (by omega)).mono ?_;rintro e w3 ⟨rfl, hb3⟩;rw [HCK.out];have R1 := Lib.hid (r1.below hb3 r1.lt);have R2 := Lib.hid (r2.below hb3 r2.lt);have L3 := Lib.hid ((HXS.out.below hb).below hb3);have B3 := Lib.hid (hb.trans (hb3.mono hb.size));have hs2 : w.heap.size + 1 < w3.heap.size := R2.out.lt;have e0 : w3.cell? ⟨w.heap.size, 0, none⟩ = some (.int .i64 (r : Int)) := R1.out.cell 0;have e1 : w3.cell? ⟨w.heap.size, 1, none⟩ = some (.int .i64 (c : Int)) := R1.out.cell 1;have e2 : w3.cell? ⟨w.heap.size, 2, none⟩ = some (.slice ao xs.length cap) := R1.out.cell 2;clear r1 r2 hb hb3;go_wp2_with fail
 refine (callsIn_wide.1 (lines_c r c ao xs.length cap xs w3 hr hc L3.out HLad.out.2.2 rfl HS.out)).mono ?_;rintro e w4 ⟨⟨o, R, rfl, hM, hRl, hRx, hob, hRb⟩, hb4⟩;obtain ⟨hSh, hE⟩ := ent_rows hRl HS.out hRx;obtain ⟨k, R', hRed, hOk⟩ := reduce_ok (N := 66) (B := 4000000000000) (m := m) hSh (fun i b => by rw [hE]; exact matE_bound (pw_pos m) HMM.out i b) (by omega) (by omega) HLad.out.1;have hlR' : R'.length = r := hOk.len.trans hRl;obtain ⟨l, hH, hHb⟩ := hnf_of hRl hE hOk;have hred := reduced_c o r 4000000000000 c k R R' w4 hM (Nat.le_refl _) hRed (by omega) (by omega);rw [hRl] at hred;have HRed := Lib.hid hred; clear hred;have HOk := Lib.hid hOk; clear hOk;have HH := Lib.hid (And.intro hH hHb); clear hH hHb;have R14 := Lib.hid (R1.out.below hb4 R1.out.lt);have R24 := Lib.hid (R2.out.below hb4 R2.out.lt);have B4 := Lib.hid (B3.out.trans (hb4.mono B3.out.size));have HRb := Lib.hid (And.intro hob hRb);clear hRed hM hb4 e0 e1 e2 hSh hE hRx hob hRb R1 R2 L3 B3;rw [hRl];go_wp2_with fail
 refine HRed.out.mono ?_;rintro e w5 ⟨rfl, hM5, hC5⟩;rw [hlR'];have hown : ∀ q, (q = o ∨ ∃ x ∈ R, x.blk = q) -> w3.heap.size <= q := by
  rintro q (rfl | ⟨x, hx, rfl⟩)
  · exact HRb.out.1
  · exact HRb.out.2 x hx
 have hns : ∀ q, q < w3.heap.size -> ¬ (q = o ∨ ∃ x ∈ R, x.blk = q) := fun q hq h => by have := hown q h; omega
 have R15 := Lib.hid (hC5.row R14.out (hns _ (by omega)));have R25 := Lib.hid (hC5.row R24.out (hns _ hs2));have B5 : Hid (Below w.heap.size w w5) := Lib.hid (B4.out.trans (hC5.to_below (B := w.heap.size) (fun q hq => by have := hown q hq; omega) B4.out.size));have hrows := hM5.rowsAt (L := 17592186044415) (fun x hx y hy => Nat.le_trans (ent_words HOk.out.bd x hx y hy) HLad.out.2.1) r (by omega);rw [List.take_of_length_le (by omega)] at hrows;have HRows := Lib.hid hrows; clear hrows;have c1 : w5.cell? ⟨w.heap.size, 1, none⟩ = some (.int .i64 (c : Int)) := R15.out.cell 1;have hsh5 : ∀ x ∈ R'.map Hd.xs, x.length = c := fun x hx => by
  obtain ⟨q, hq, rfl⟩ := List.mem_map.1 hx; exact HOk.out.sh q hq
 clear hM5 hC5 R14 R24 B4 HRed hown hns;go_wp2_with fail
 refine (matrix_c o r r c (R'.map Hd.xs) w5 HRows.out (by rw [List.length_map, hlR']) hsh5 (by omega) (by omega)).mono ?_;rintro e w6 ⟨⟨b, rfl, hbb, hRb6⟩, hb6⟩;have R26 := Lib.hid (R25.out.below hb6 R25.out.lt);have B6 := Lib.hid (B5.out.trans (hb6.mono B5.out.size));have HR6 := Lib.hid hRb6;have hs5 : w.heap.size <= w5.heap.size := B5.out.size;clear hRb6 hb6 c1;have z0 := R26.out.cell 0;have z1 := R26.out.cell 1;have z2 := R26.out.cell 2;have y0 := R26.out.free 0;have y1 := R26.out.free 1;have y2 := R26.out.free 2;go_wp2;refine bodyPost_ret (results_mat_err (p := 2) (q := 3) (by kernel_rfl) _ _ (w.heap.size + 1) _ _ _ rfl (R26.out.set3 (.int .i64 (r : Int)) (.int .i64 (c : Int)) (.slice (some ⟨b, 0, none⟩) (r * c) (r * c)))) rfl ?_;exact ⟨⟨b, _, k, l, rfl, by omega, HR6.out.setMat R26.out (r : Int) (c : Int) _ _ _, HH.out.1, HH.out.2⟩, ((B6.out.setCell (p := ⟨w.heap.size + 1, 0, none⟩) (Nat.le_succ _) _).setCell (p := ⟨w.heap.size + 1, 1, none⟩) (Nat.le_succ _) _).setCell (p := ⟨w.heap.size + 1, 2, none⟩) (Nat.le_succ _) _⟩
theorem NumAt.least {w : World} {v : Value} {x : Int} (h : NumAt w v x) : ∃ ao cap, v = .agg #[.bool (decide (x < 0)), .slice ao (wlen x.natAbs) cap] /\ WAt w ao (dig x.natAbs) /\ wlen x.natAbs <= cap := by
 obtain ⟨⟨n, ao, len, cap, ws, rfl, hW, hl, hL, hc, hx⟩, s, hs⟩ := h;have hn : n = decide (x < 0) := by injection hs with hs; simp at hs; exact hs.1
 have hv : nval ws = x.natAbs := by rw [hx, zi_abs]
 have h1 := wlen_nval hW.1;rw [hv] at h1;have h2 := tlen_le ws;have h3 := dig_nval hW.1;rw [hv, List.take_of_length_le (by omega)] at h3;have h4 : len = wlen x.natAbs := by omega
 subst hn;rw [h3];exact ⟨ao, cap, by rw [h4], hW, by omega⟩
set_option maxRecDepth 100000 in
set_option maxHeartbeats 2000000 in
theorem RSame_c (aoA aoB : Option Addr) (lA cA lB cB : Nat) (xs ys : List Nat) (w : World) (hA : WAt w aoA xs) (hB : WAt w aoB ys) (hlA : lA = xs.length) (hlB : lB = ys.length) (hmA : lA <= 17592186044415) (hmB : lB <= 17592186044415) :
 Calls Tryz.prog 122 #[.slice aoA lA cA, .slice aoB lB cB] w fun e w' => e = .returned (.bool (decide (xs = ys))) /\ Below w.heap.size w w' := by
 subst hlA hlB;have HA := Lib.hid hA; clear hA;have HB := Lib.hid hB; clear hB;go_enter Tryz.func122, Tryz.ntmps122;by_cases hs : xs.length = ys.length
 · have hb : (((xs.length : Nat) : Int) != ((ys.length : Nat) : Int)) = false := by rw [hs]; simp
   have Hs := Lib.hid hs; clear hs;go_wp2;go_loopw [5] (fun i wr => ∃ k : Nat, k <= xs.length /\ i = .int .i64 (k : Int) /\ Hid (∀ j, j < k -> gw xs j = gw ys j) /\ Below w.heap.size w wr) (fun i _ => xs.length - (intOf i).toNat)
   case atStart => exact ⟨0, Nat.zero_le _, rfl, Lib.hid (fun j hj => by omega), Below.refl _ _⟩
   case round =>
    obtain ⟨k, hk, rfl, hag, hbl⟩ := hrel;by_cases h0 : k < xs.length
    · have h01 : (k : Int) < (xs.length : Int) := by omega
      have h02 : (k : Int) < (ys.length : Int) := by have := Hs.out; omega
      obtain ⟨b1, o1, rfl, hb1, hc1⟩ := (HA.out.below hbl).pos (by omega);obtain ⟨b2, o2, rfl, hb2, hc2⟩ := (HB.out.below hbl).pos (by omega);have e1 := hc1 k h0;have e2 := hc2 k (by omega);clear hc1 hc2;by_cases hne : gw xs k = gw ys k
      · have t1 : (((gw xs k : Nat) : Int) != ((gw ys k : Nat) : Int)) = false := by rw [hne]; simp
        have HN := Lib.hid hne; clear hne;go_wp2
        go_quiet (fail)
        go_wp2;go_roundw
        case rel => exact ⟨k + 1, by omega, by go_num, Lib.hid (fun j hj => by
         by_cases e : j = k
         · subst e; exact HN.out
         · exact hag.out j (by omega)), below_drewN hbl _⟩
        case measure => simp [intOf]; omega
      · have t1 : (((gw xs k : Nat) : Int) != ((gw ys k : Nat) : Int)) = true := by rw [bne_iff_ne]; omega
        have hd : decide (xs = ys) = false := by
         rw [decide_eq_false_iff_not]; intro e; exact hne (by rw [e])
        have HD := Lib.hid hd; clear hd hne;go_wp2
        go_quiet (fail)
        go_wp2;go_ret;exact ⟨by rw [HD.out]; rfl, below_drewN hbl _⟩
    · obtain rfl : k = xs.length := by omega
      have hd : decide (xs = ys) = true := by
       rw [decide_eq_true_iff];refine List.ext_getElem Hs.out fun j h1 h2 => ?_;have := hag.out j h1;unfold gw at this;simpa [h1, h2] using this
      have HD := Lib.hid hd; clear hd;go_wp2;go_ret;exact ⟨by rw [HD.out]; rfl, hbl⟩
 · have hb : (((xs.length : Nat) : Int) != ((ys.length : Nat) : Int)) = true := by rw [bne_iff_ne]; omega
   have hd : decide (xs = ys) = false := by
    rw [decide_eq_false_iff_not]; intro e; exact hs (by rw [e])
   have HD := Lib.hid hd; clear hd hs;go_wp2;go_ret;exact ⟨by rw [HD.out]; rfl, Below.refl _ _⟩
theorem alike_bool (x y : Int) : (decide (dig x.natAbs = dig y.natAbs) && (decide (x < 0) == decide (y < 0))) = decide (x = y) := by
 have h1 : dig x.natAbs = dig y.natAbs ↔ x.natAbs = y.natAbs := ⟨fun h => by rw [<- nval_dig x.natAbs, h, nval_dig], fun h => by rw [h]⟩;rw [Bool.eq_iff_iff];simp only [Bool.and_eq_true, decide_eq_true_eq, beq_iff_eq, h1, decide_eq_decide];omega
set_option maxRecDepth 100000 in
set_option maxHeartbeats 2000000 in
theorem Alike_c (v u : Value) (x y : Int) (w : World) (h1 : NumAt w v x) (h2 : NumAt w u y) (hx : wlen x.natAbs <= 17592186044415) (hy : wlen y.natAbs <= 17592186044415) :
 Calls Tryz.prog 75 #[v, u] w fun e w' => e = .returned (.bool (decide (x = y))) /\ Below w.heap.size w w' := by
 obtain ⟨ao1, cap1, rfl, hW1, _⟩ := h1.least;obtain ⟨ao2, cap2, rfl, hW2, _⟩ := h2.least;clear h1 h2;have hAL := alike_bool x y;obtain ⟨r1, r2, hb⟩ := two_new w #[.bool (decide (x < 0)), .slice ao1 (wlen x.natAbs) cap1] #[.bool (decide (y < 0)), .slice ao2 (wlen y.natAbs) cap2] 45 45;have HM := Lib.hid (RSame_c ao1 ao2 (wlen x.natAbs) cap1 (wlen y.natAbs) cap2 _ _ _ (hW1.below hb) (hW2.below hb) rfl rfl hx hy);obtain ⟨n1, hn1⟩ : ∃ n1, decide (x < 0) = n1 := ⟨_, rfl⟩;obtain ⟨n2, hn2⟩ : ∃ n2, decide (y < 0) = n2 := ⟨_, rfl⟩;obtain ⟨m, hm⟩ : ∃ m, decide (dig x.natAbs = dig y.natAbs) = m := ⟨_, rfl⟩;obtain ⟨l1, hl1⟩ : ∃ l1, wlen x.natAbs = l1 := ⟨_, rfl⟩;obtain ⟨l2, hl2⟩ : ∃ l2, wlen y.natAbs = l2 := ⟨_, rfl⟩;simp only [hn1, hn2, hl1, hl2, hm] at r1 r2 hb HM;rw [hn1, hn2, hm] at hAL;rw [hn1, hn2, hl1, hl2];have HAL := Lib.hid hAL; clear hAL hn1 hn2 hm hl1 hl2 hW1 hW2 hx hy;have R1 := Lib.hid r1;have R2 := Lib.hid r2;have e10 := r1.cell 0;have e11 := r1.cell 1;have e20 := r2.cell 0;have e21 := r2.cell 1;have HB := Lib.hid hb; clear hb r1 r2;go_enter Tryz.func75, Tryz.ntmps75;go_wp2_with fail
 generalize (w.alloc (.cells #[.bool n1, .slice ao1 l1 cap1] 45)).alloc (.cells #[.bool n2, .slice ao2 l2 cap2] 45) = w2 at *;refine HM.out.mono ?_;rintro e w3 ⟨rfl, hb3⟩;have k10 := (R1.out.below hb3 R1.out.lt).cell 0;have k20 := (R2.out.below hb3 R2.out.lt).cell 0;have HB3 := Lib.hid (HB.out.trans (hb3.mono HB.out.size)); clear hb3 e10 e11 e20 e21;cases m
 · go_wp2;go_ret;exact ⟨by rw [<- HAL.out]; rfl, HB3.out⟩
 · cases n1 <;> cases n2;all_goals
    go_wp2;go_ret;exact ⟨by rw [<- HAL.out]; rfl, HB3.out⟩
def LsN (w : World) (ao : Option Addr) (xs : List Int) : Prop :=
 0 < xs.length -> ∃ b o, ao = some ⟨b, o, none⟩ /\ b < w.heap.size /\ ∀ i (h : i < xs.length), ∃ p : P4, w.cell? ⟨b, o + i * 2, none⟩ = some (.bool p.1) /\ w.cell? ⟨b, o + i * 2 + 1, none⟩ = some (.slice p.2.1 p.2.2.1 p.2.2.2) /\ NumAt w (av p) xs[i]
theorem LsN.below {w w' : World} {ao : Option Addr} {xs : List Int} (h : LsN w ao xs) (hb : Below w.heap.size w w') : LsN w' ao xs := by
 intro hl;obtain ⟨b, o, e, hlt, hc⟩ := h hl;refine ⟨b, o, e, Nat.lt_of_lt_of_le hlt hb.size, fun i hi => ?_⟩;obtain ⟨p, h0, h1, hn⟩ := hc i hi;exact ⟨p, (hb.cell (p := ⟨b, o + i * 2, none⟩) hlt).trans h0, (hb.cell (p := ⟨b, o + i * 2 + 1, none⟩) hlt).trans h1, hn.below hb⟩
theorem RowN.lsN {w : World} {b : Nat} {xs : List Int} (h : RowN w b xs) : LsN w (some ⟨b, 0, none⟩) xs := by
 intro _;refine ⟨b, 0, rfl, h.lt, fun i hi => ?_⟩;obtain ⟨p, h0, h1, hn⟩ := h.get hi;exact ⟨p, by simpa using h0, by simpa using h1, hn⟩
set_option maxRecDepth 100000 in
set_option maxHeartbeats 4000000 in
theorem AlikeRows_c (aoA aoB : Option Addr) (lA cA lB cB : Nat) (xs ys : List Int) (w : World) (hA : LsN w aoA xs) (hB : LsN w aoB ys) (hlA : lA = xs.length) (hlB : lB = ys.length) (hmA : lA <= 8796093022208) (hmB : lB <= 8796093022208)
 (hx : ∀ x ∈ xs, wlen x.natAbs <= 17592186044415) (hy : ∀ x ∈ ys, wlen x.natAbs <= 17592186044415) :
 Calls Tryz.prog 35 #[.slice aoA lA cA, .slice aoB lB cB] w fun e w' => e = .returned (.bool (decide (xs = ys))) /\ Below w.heap.size w w' := by
 subst hlA hlB;have HA := Lib.hid hA; clear hA;have HB := Lib.hid hB; clear hB;have HX := Lib.hid (And.intro hx hy); clear hx hy;go_enter Tryz.func35, Tryz.ntmps35;by_cases hs : xs.length = ys.length
 · have hb : (((xs.length : Nat) : Int) != ((ys.length : Nat) : Int)) = false := by rw [hs]; simp
   have Hs := Lib.hid hs; clear hs;go_wp2;go_loopw [5] (fun i wr => ∃ k : Nat, k <= xs.length /\ i = .int .i64 (k : Int) /\ Hid (∀ j (h1 : j < xs.length) (h2 : j < ys.length), j < k -> xs[j] = ys[j]) /\ Hid (Below w.heap.size w wr)) (fun i _ => xs.length - (intOf i).toNat)
   case atStart => exact ⟨0, Nat.zero_le _, rfl, Lib.hid (fun j _ _ hj => by omega), Lib.hid (Below.refl _ _)⟩
   case round =>
    obtain ⟨k, hk, rfl, hag, hbl⟩ := hrel;by_cases h0 : k < xs.length
    · have h0y : k < ys.length := by have := Hs.out; omega
      have h01 : (k : Int) < (xs.length : Int) := by omega
      have h02 : (k : Int) < (ys.length : Int) := by omega
      obtain ⟨b1, o1, rfl, hb1, hc1⟩ := (HA.out.below hbl.out) (by omega);obtain ⟨b2, o2, rfl, hb2, hc2⟩ := (HB.out.below hbl.out) (by omega);obtain ⟨p, e10, e11, hn1⟩ := hc1 k h0;obtain ⟨q, e20, e21, hn2⟩ := hc2 k h0y;have HM : Hid (∀ m, Calls Tryz.prog 75 #[.agg #[.bool p.1, .slice p.2.1 p.2.2.1 p.2.2.2], .agg #[.bool q.1, .slice q.2.1 q.2.2.1 q.2.2.2]] (wr.drewN m) fun e w' => e = .returned (.bool (decide (xs[k] = ys[k]))) /\ Below (wr.drewN m).heap.size (wr.drewN m) w') :=
       Lib.hid (fun m => Alike_c _ _ _ _ _ (NumAt.below (w := wr) hn1 (below_drewN (Below.refl _ _) m)) (NumAt.below (w := wr) hn2 (below_drewN (Below.refl _ _) m)) (HX.out.1 _ (List.getElem_mem h0)) (HX.out.2 _ (List.getElem_mem h0y)))
      have HM1 : Hid (Calls Tryz.prog 75 #[.agg #[.bool p.1, .slice p.2.1 p.2.2.1 p.2.2.2], .agg #[.bool q.1, .slice q.2.1 q.2.2.1 q.2.2.2]] wr.drew fun e w' => e = .returned (.bool (decide (xs[k] = ys[k]))) /\ Below wr.drew.heap.size wr.drew w') := Lib.hid (HM.out 1);obtain ⟨t, ht⟩ : ∃ t, decide (xs[k] = ys[k]) = t := ⟨_, rfl⟩;rw [ht] at HM1;have HT := Lib.hid ht;clear hc1 hc2 hn1 hn2 HM ht;go_wp2
      go_region_held3 (fun w' => w'.cell? ⟨b1, o1 + k * 2, none⟩ = some (.bool p.1) /\ w'.cell? ⟨b1, o1 + k * 2 + 1, none⟩ = some (.slice p.2.1 p.2.2.1 p.2.2.2) /\ w'.cell? ⟨b2, o2 + k * 2, none⟩ = some (.bool q.1) /\ w'.cell? ⟨b2, o2 + k * 2 + 1, none⟩ = some (.slice q.2.1 q.2.2.1 q.2.2.2))
       (first | exact ⟨e10, e11, e20, e21⟩ | exact ⟨(hb3.cell (p := ⟨b1, o1 + k * 2, none⟩) hb1).trans e10, (hb3.cell (p := ⟨b1, o1 + k * 2 + 1, none⟩) hb1).trans e11, (hb3.cell (p := ⟨b2, o2 + k * 2, none⟩) hb2).trans e20, (hb3.cell (p := ⟨b2, o2 + k * 2 + 1, none⟩) hb2).trans e21⟩)
       (first | (go_at_call 75; refine HM1.out.mono ?_; rintro e w3 ⟨rfl, hb3⟩))
      have HB3 : Hid (Below w.heap.size w w3) := Lib.hid (hbl.out.drew.trans (hb3.mono hbl.out.size));cases t
      · have hd : decide (xs = ys) = false := by
         rw [decide_eq_false_iff_not]; intro e; have h9 := HT.out; rw [decide_eq_false_iff_not] at h9; exact h9 (by subst e; rfl)
        have HD := Lib.hid hd; clear hd e10 e11 e20 e21 hb3;go_wp2;go_ret;exact ⟨by rw [HD.out]; rfl, HB3.out⟩
      · clear e10 e11 e20 e21 hb3;go_wp2;go_roundw
        case rel => exact ⟨k + 1, by omega, by go_num, Lib.hid (fun j h1 h2 hj => by
         by_cases e : j = k
         · subst e; exact of_decide_eq_true HT.out
         · exact hag.out j h1 h2 (by omega)), HB3⟩
        case measure => simp [intOf]; omega
    · obtain rfl : k = xs.length := by omega
      have hd : decide (xs = ys) = true := by
       rw [decide_eq_true_iff];exact List.ext_getElem Hs.out fun j h1 h2 => hag.out j h1 h2 h1
      have HD := Lib.hid hd; clear hd;go_wp2;go_ret;exact ⟨by rw [HD.out]; rfl, hbl.out⟩
 · have hb : (((xs.length : Nat) : Int) != ((ys.length : Nat) : Int)) = true := by rw [bne_iff_ne]; omega
   have hd : decide (xs = ys) = false := by
    rw [decide_eq_false_iff_not]; intro e; exact hs (by rw [e])
   have HD := Lib.hid hd; clear hd hs;go_wp2;go_ret;exact ⟨by rw [HD.out]; rfl, Below.refl _ _⟩
set_option maxRecDepth 100000 in
set_option maxHeartbeats 4000000 in
theorem Sound_c (r c : Int) (ao : Option Addr) (len cap : Nat) (w : World) :
 Calls Tryz.prog 11 #[.agg #[.int .i64 r, .int .i64 c, .slice ao len cap]] w fun e w' => e = .returned (.bool (soundM r c len)) /\ Below w.heap.size w w' := by
 have hb : Below w.heap.size w (w.alloc (.cells #[.int .i64 r, .int .i64 c, .slice ao len cap] 24)) := (Below.refl _ _).alloc (Nat.le_refl _) _;have HB := Lib.hid hb; clear hb;have fin : ∀ b : Bool, soundM r c len = b -> Hid (soundM r c len = b) := fun b h => Lib.hid h;by_cases h1 : 0 <= r
 · have g1 : decide (0 <= r) = true := by simpa using h1
   by_cases h2 : r <= 64
   · have g2 : decide (r <= 64) = true := by simpa using h2
     by_cases h3 : 0 <= c
     · have g3 : decide (0 <= c) = true := by simpa using h3
       by_cases h4 : c <= 64
       · have g4 : decide (c <= 64) = true := by simpa using h4
         have hm : 0 <= r * c /\ r * c <= 4096 := by
          refine ⟨Int.mul_nonneg h1 h3, ?_⟩;have h5 := Int.mul_le_mul_of_nonneg_right h2 h3;omega
         have hs : soundM r c len = ((len : Int) == r * c) := by simp [soundM, sideOk, g1, g2, g3, g4]
         have hw : IntKind.i64.wrap (r * c) = r * c := wrap_small (by omega) (by omega);have HS := Lib.hid hs; clear hs hm;obtain ⟨q, hq⟩ : ∃ q, r * c = q := ⟨_, rfl⟩;rw [hq] at hw HS;have hw' : IntKind.i64.wrap (r * c) = q := by rw [hq]; exact hw
         clear hw hq;go_enter Tryz.func11, Tryz.ntmps11;go_wp2;go_ret;exact ⟨by rw [HS.out]; rfl, HB.out⟩
       · have g4 : decide (c <= 64) = false := by simpa using h4
         have HS := fin false (by simp [soundM, sideOk, g1, g2, g3, g4]);clear fin h1 h2 h3 h4;go_enter Tryz.func11, Tryz.ntmps11;go_wp2;go_ret;exact ⟨by rw [HS.out]; rfl, HB.out⟩
     · have g3 : decide (0 <= c) = false := by simpa using h3
       have HS := fin false (by simp [soundM, sideOk, g1, g2, g3]);clear fin h1 h2 h3;go_enter Tryz.func11, Tryz.ntmps11;go_wp2;go_ret;exact ⟨by rw [HS.out]; rfl, HB.out⟩
   · have g2 : decide (r <= 64) = false := by simpa using h2
     have HS := fin false (by simp [soundM, sideOk, g1, g2]);clear fin h1 h2;go_enter Tryz.func11, Tryz.ntmps11;go_wp2;go_ret;exact ⟨by rw [HS.out]; rfl, HB.out⟩
 · have g1 : decide (0 <= r) = false := by simpa using h1
   have HS := fin false (by simp [soundM, sideOk, g1]);clear fin h1;go_enter Tryz.func11, Tryz.ntmps11;go_wp2;go_ret;exact ⟨by rw [HS.out]; rfl, HB.out⟩
set_option maxRecDepth 100000 in
set_option maxHeartbeats 4000000 in
theorem M9Check_c (r c : Nat) (ao : Option Addr) (len cap : Nat) (w : World) (hr : r <= 64) (hc : c <= 64) (hs : len = r * c) :
 Calls Tryz.prog 49 #[.agg #[.int .i64 (r : Int), .int .i64 (c : Int), .slice ao len cap]] w fun e w' => e = .returned (.int .i64 0) /\ Below w.heap.size w w' := by
 have hb : Below w.heap.size w (w.alloc (.cells #[.int .i64 (r : Int), .int .i64 (c : Int), .slice ao len cap] 24)) := (Below.refl _ _).alloc (Nat.le_refl _) _;have HB := Lib.hid hb; clear hb;have hN : r * c <= 4096 := Nat.mul_le_mul hr hc;have hw : IntKind.i64.wrap ((r : Int) * (c : Int)) = (len : Int) := by
  rw [<- Int.natCast_mul, <- hs]; exact wrap_small (by omega) (by omega)
 clear hs hN;have g1 : decide ((r : Int) < 0) = false := by simp
 have g2 : decide (64 < (r : Int)) = false := by simp; omega
 have g3 : decide ((c : Int) < 0) = false := by simp
 have g4 : decide (64 < (c : Int)) = false := by simp; omega
 have g5 : ((len : Int) != (len : Int)) = false := by simp
 go_enter Tryz.func49, Tryz.ntmps49;go_wp2;go_ret;exact ⟨rfl, HB.out⟩
set_option maxRecDepth 100000 in
set_option maxHeartbeats 4000000 in
theorem AlikeMats_c (r1 c1 r2 c2 : Int) (aoA aoB : Option Addr) (lA cA lB cB : Nat) (xs ys : List Int) (w : World) (hA : LsN w aoA xs) (hB : LsN w aoB ys) (hlA : lA = xs.length) (hlB : lB = ys.length) (hmA : lA <= 8796093022208) (hmB : lB <= 8796093022208)
 (hx : ∀ x ∈ xs, wlen x.natAbs <= 17592186044415) (hy : ∀ x ∈ ys, wlen x.natAbs <= 17592186044415) :
 Calls Tryz.prog 14 #[.agg #[.int .i64 r1, .int .i64 c1, .slice aoA lA cA], .agg #[.int .i64 r2, .int .i64 c2, .slice aoB lB cB]] w fun e w' => e = .returned (.bool (decide (xs = ys) && (r1 == r2) && (c1 == c2))) /\ Below w.heap.size w w' := by
 obtain ⟨q1, q2, hb⟩ := two_new w #[.int .i64 r1, .int .i64 c1, .slice aoA lA cA] #[.int .i64 r2, .int .i64 c2, .slice aoB lB cB] 24 24;have HM := Lib.hid (AlikeRows_c aoA aoB lA cA lB cB xs ys _ (hA.below hb) (hB.below hb) hlA hlB hmA hmB hx hy);obtain ⟨t, ht⟩ : ∃ t, decide (xs = ys) = t := ⟨_, rfl⟩;rw [ht] at HM ⊢;have R1 := Lib.hid q1;have R2 := Lib.hid q2;have e2 := q1.cell 2;have e5 := q2.cell 2;have HB := Lib.hid hb;clear hb q1 q2 hA hB hlA hlB hx hy ht;go_enter Tryz.func14, Tryz.ntmps14;go_wp2_with fail
 generalize (w.alloc (.cells #[.int .i64 r1, .int .i64 c1, .slice aoA lA cA] 24)).alloc (.cells #[.int .i64 r2, .int .i64 c2, .slice aoB lB cB] 24) = w2 at *;refine HM.out.mono ?_;rintro e w3 ⟨rfl, hb3⟩;have k0 := (R1.out.below hb3 R1.out.lt).cell 0;have k1 := (R1.out.below hb3 R1.out.lt).cell 1;have k3 := (R2.out.below hb3 R2.out.lt).cell 0;have k4 := (R2.out.below hb3 R2.out.lt).cell 1;have HB3 := Lib.hid (HB.out.trans (hb3.mono HB.out.size));clear hb3 e2 e5;cases t
 · go_wp2;go_ret;exact ⟨rfl, HB3.out⟩
 · cases hrr : (r1 == r2)
   · go_wp2;go_ret;exact ⟨by rw [hrr]; rfl, HB3.out⟩
   · go_wp2;go_ret;exact ⟨by rw [hrr]; rfl, HB3.out⟩
end Go.Proofs.YtknkkceioockjaaGreat
namespace Go.Proofs.YtknkkceioockjaaGreat
def HF (r c : Nat) (E : Nat -> Nat -> Int) : Prop := ∃ k l, k <= r /\ Herm k c E l /\ ∀ i, k <= i -> i < r -> ∀ b, E i b = 0
structure IsLead (c : Nat) (E : Nat -> Nat -> Int) (i j : Nat) : Prop where
 le : j <= c
 zero : ∀ b, b < j -> E i b = 0
 ne : j < c -> E i j ≠ 0
def FI (c : Nat) (E : Nat -> Nat -> Int) (i : Nat) (last : Int) : Prop :=
 ∃ k l, k <= i /\ Herm k c E l /\ (∀ a, k <= a -> a < i -> ∀ b, b < c -> E a b = 0) /\ last = (if k < i then (c : Int) else if k = 0 then -1 else (l (k - 1) : Int))
theorem FI.start (c : Nat) (E : Nat -> Nat -> Int) : FI c E 0 (-1) :=
 ⟨0, fun _ => 0, Nat.le_refl _, ⟨⟨fun i k _ h => by omega, fun i h => by omega, fun i h => by omega, fun i h => by omega⟩, fun i k _ h => by omega⟩, fun a _ h => by omega, rfl⟩
theorem FI.fin {r c : Nat} {E : Nat -> Nat -> Int} {last : Int} (hE : ∀ i b, c <= b -> E i b = 0) (h : FI c E r last) : HF r c E := by
 obtain ⟨k, l, hk, hH, hz, _⟩ := h;exact ⟨k, l, hk, hH, fun i hi hr b => by
  by_cases hb : b < c
  · exact hz i hi hr b hb
  · exact hE i b (by omega)⟩
theorem FI.skip {c i : Nat} {E : Nat -> Nat -> Int} {last : Int} (h : FI c E i last) (hl : IsLead c E i c) : FI c E (i + 1) (c : Int) := by
 obtain ⟨k, l, hk, hH, hz, _⟩ := h;refine ⟨k, l, by omega, hH, fun a h1 h2 b hb => ?_, by rw [if_pos (by omega)]⟩;by_cases e : a = i
 · subst e; exact hl.zero b hb
 · exact hz a h1 (by omega) b hb
theorem FI.next {c i j : Nat} {E : Nat -> Nat -> Int} {last : Int} (h : FI c E i last) (hl : IsLead c E i j) (hj : j < c) (hlast : last < (j : Int)) (hp : 0 < E i j) (hr : ∀ a, a < i -> 0 <= E a j /\ E a j < E i j) : FI c E (i + 1) (j : Int) := by
 obtain ⟨k, l, hk, hH, hz, hla⟩ := h;have hki : k = i := by
  by_cases e : k < i
  · rw [if_pos e] at hla; omega
  · omega
 subst hki;rw [if_neg (by omega)] at hla;have hlo : ∀ a, a < k -> l a < j := fun a ha => by
  rw [if_neg (by omega)] at hla;rcases Nat.lt_or_eq_of_le (show a <= k - 1 by omega) with e | e
  · have := hH.inc a (k - 1) e (by omega); omega
  · subst e; omega
 have h2 : ∀ a, a < k -> (if a < k then l a else j) = l a := fun a ha => if_pos ha;have h3 : (if k < k then l k else j) = j := if_neg (by omega);refine ⟨k + 1, fun a => if a < k then l a else j, Nat.le_refl _, ⟨⟨fun a b hab hb => ?_, fun a ha => ?_, fun a ha b hb => ?_, fun a ha => ?_⟩, fun a b hab hb => ?_⟩, fun a h1 h2 => by omega, ?_⟩
 · show (if a < k then l a else j) < (if b < k then l b else j);rw [h2 a (by omega)];by_cases e : b < k
   · rw [h2 b e]; exact hH.inc a b hab e
   · obtain rfl : b = k := by omega
     rw [h3]; exact hlo a (by omega)
 · show (if a < k then l a else j) < c;by_cases e : a < k
   · rw [h2 a e]; exact hH.lt a e
   · obtain rfl : a = k := by omega
     rw [h3]; exact hj
 · have hb : b < (if a < k then l a else j) := hb;by_cases e : a < k
   · rw [h2 a e] at hb; exact hH.zero a e b hb
   · obtain rfl : a = k := by omega
     rw [h3] at hb; exact hl.zero b hb
 · show 0 < E a (if a < k then l a else j);by_cases e : a < k
   · rw [h2 a e]; exact hH.pos a e
   · obtain rfl : a = k := by omega
     rw [h3]; exact hp
 · show 0 <= E a (if b < k then l b else j) /\ E a (if b < k then l b else j) < E b (if b < k then l b else j);by_cases e : b < k
   · rw [h2 b e]; exact hH.red a b hab e
   · obtain rfl : b = k := by omega
     rw [h3]; exact hr a hab
 · rw [if_neg (by omega), if_neg (by omega)];show (j : Int) = ((if k + 1 - 1 < k then l (k + 1 - 1) else j : Nat) : Int);rw [if_neg (by omega)]
theorem HF.row {r c i j : Nat} {E : Nat -> Nat -> Int} {last : Int} (h : HF r c E) (hi : i < r) (hl : IsLead c E i j) (hj : j < c) (hF : FI c E i last) : last < (j : Int) /\ 0 < E i j /\ ∀ a, a < i -> 0 <= E a j /\ E a j < E i j := by
 obtain ⟨K, L, hK, hH, hz⟩ := h;obtain ⟨k, l, hk, hHk, hzk, hla⟩ := hF;have hiK : i < K := by
  by_cases e : i < K
  · exact e
  · exact absurd (hz i (by omega) hi j) (hl.ne hj)
 have hLj : ∀ {a q : Nat}, a < K -> (∀ b, b < q -> E a b = 0) -> E a q ≠ 0 -> L a = q := fun {a q} ha h0 hn => by
  rcases Nat.lt_trichotomy (L a) q with e | e | e
  · have := hH.pos a ha; have := h0 _ e; omega
  · exact e
  · exact absurd (hH.zero a ha q e) hn
 have hLi : L i = j := hLj hiK hl.zero (hl.ne hj);have hki : k = i := by
  by_cases e : k < i
  · exfalso;have h1 := hH.pos k (by omega);rw [hzk k (Nat.le_refl _) e (L k) (hH.lt k (by omega))] at h1;omega
  · omega
 subst hki;rw [if_neg (by omega)] at hla;refine ⟨?_, by rw [<- hLi]; exact hH.pos k hiK, fun a ha => by rw [<- hLi]; exact hH.red a k ha hiK⟩;by_cases e : k = 0
 · rw [if_pos e] at hla; omega
 · rw [if_neg e] at hla;have h1 : L (k - 1) = l (k - 1) := hLj (by omega) (hHk.zero (k - 1) (by omega)) (by have := hHk.pos (k - 1) (by omega); omega);have h2 := hH.inc (k - 1) k (by omega) hiK;omega
theorem HF.zeros {r c i : Nat} {E : Nat -> Nat -> Int} (h : HF r c E) (hi : i < r) (hl : ∀ b, E i b = 0) : ∀ a, i <= a -> a < r -> ∀ b, E a b = 0 := by
 obtain ⟨K, L, hK, hH, hz⟩ := h;have hiK : K <= i := by
  by_cases e : K <= i
  · exact e
  · have := hH.pos i (by omega); rw [hl] at this; omega
 exact fun a h1 h2 b => hz a (by omega) h2 b
theorem HF.congr {r c : Nat} {E F : Nat -> Nat -> Int} (h : HF r c E) (e : ∀ i, i < r -> ∀ b, F i b = E i b) : HF r c F := by
 obtain ⟨k, l, hk, hH, hz⟩ := h;exact ⟨k, l, hk, hH.congr (fun a ha b => e a (by omega) b), fun i hi hr b => (e i hr b).trans (hz i hi hr b)⟩
theorem IsHnf.hf {r c k : Nat} {xs hs : List Int} {l : Nat -> Nat} (h : IsHnf r c xs hs k l) : HF r c (matE hs r c) := ⟨k, l, h.kr, h.herm, fun i hi _ b => h.zero i hi b⟩
end Go.Proofs.YtknkkceioockjaaGreat
namespace Go.Proofs.YtknkkceioockjaaGreat
open Go.RowKit
theorem isLead_of {R : List Hd} {c i : Nat} (hi : i < R.length) (hs : Sh c R) : IsLead c (ent R) i (leadOf R i) := by
 have h := lead_ent hi hs;exact ⟨h.1, h.2.1, h.2.2⟩
set_option maxRecDepth 100000 in
set_option maxHeartbeats 4000000 in
theorem IsForm_c (r c m : Nat) (ao : Option Addr) (len cap : Nat) (xs : List Int) (w : World) (hr : r <= 64) (hc : c <= 64) (h : LsAt w 17592186044415 ao xs) (hm : ∀ x ∈ xs, wlen x.natAbs <= m) (hm1 : m <= 8796093022208) (hl : len = xs.length) (hs : xs.length = r * c) :
 Calls Tryz.prog 16 #[.agg #[.int .i64 (r : Int), .int .i64 (c : Int), .slice ao len cap]] w fun e w' => (∃ t, e = .returned (.tuple #[.bool t, .int .i64 0]) /\ (t = true ↔ HF r c (matE xs r c))) /\ Below w.heap.size w w' := by
 subst hl;have hwl : ∀ x ∈ xs, wlen x.natAbs <= 17592186044415 := fun x hx => Nat.le_trans (hm x hx) (by omega);have HXS := Lib.hid h; clear h;have HWL := Lib.hid hwl; clear hwl;have hsnd : soundM (r : Int) (c : Int) xs.length = true := by
  unfold soundM sideOk;rw [hs]; simp; omega
 have HS := Lib.hid hs; clear hs;have HM := Lib.hid hm; clear hm;have HCK := Lib.hid (chkM_ok hsnd); clear hsnd;have r1 := RowAt.new w #[.int .i64 (r : Int), .int .i64 (c : Int), .slice ao xs.length cap] 24;have hb : Below w.heap.size w (w.alloc (.cells #[.int .i64 (r : Int), .int .i64 (c : Int), .slice ao xs.length cap] 24)) := (Below.refl _ _).alloc (Nat.le_refl _) _;go_enter Tryz.func16, Tryz.ntmps16;go_wp2_with fail
 generalize w.alloc (.cells #[.int .i64 (r : Int), .int .i64 (c : Int), .slice ao xs.length cap] 24) = w2 at *;refine (Check_c (r : Int) (c : Int) ao xs.length cap _ (by omega) (by omega)).mono ?_;rintro e w3 ⟨rfl, hb3⟩;rw [HCK.out];have R1 := Lib.hid (r1.below hb3 r1.lt);have L3 := Lib.hid ((HXS.out.below hb).below hb3);have B3 := Lib.hid (hb.trans (hb3.mono hb.size));have e0 := R1.out.cell 0;have e1 := R1.out.cell 1;have e2 := R1.out.cell 2;have hs3 : w.heap.size < w3.heap.size := R1.out.lt;clear r1 hb hb3;go_wp2_with fail
 refine (callsIn_wide.1 (lines_c r c ao xs.length cap xs w3 hr hc L3.out HWL.out rfl HS.out)).mono ?_;rintro e w4 ⟨⟨o, R, rfl, hM, hRl, hRx, hob, hRb⟩, hb4⟩;obtain ⟨hSh, hE⟩ := ent_rows hRl HS.out hRx;have hbd : ∀ q ∈ R, ∀ x ∈ q.xs, wlen x.natAbs <= m := fun q hq x hx => by
  obtain ⟨k, hk, rfl⟩ := List.getElem_of_mem hq;rw [hRx k hk] at hx;exact HM.out x (List.mem_of_mem_drop (List.mem_of_mem_take hx))
 have HH := Lib.hid (And.intro hSh (And.intro hE hbd));have HMN := Lib.hid hM; clear hM;have R14 := Lib.hid (R1.out.below hb4 R1.out.lt);have B4 := Lib.hid (B3.out.trans (hb4.mono B3.out.size));have HRl := Lib.hid hRl;clear hb4 e0 e1 e2 hSh hE hRx hbd R1 L3 B3 hob hRb;rw [hRl];clear hRl;go_wp2;go_loopw [5, 21] (fun l_ i_ wr => ∃ (i : Nat) (last : Int), i <= r /\ i_ = .int .i64 (i : Int) /\ l_ = .int .i64 last /\ -1 <= last /\ last <= 64 /\ Hid (FI c (ent R) i last) /\ Hid (Below w4.heap.size w4 wr)) (fun _ i_ _ => r - (intOf i_).toNat)
 case atStart => exact ⟨0, -1, Nat.zero_le _, rfl, rfl, by omega, by omega, Lib.hid (FI.start c _), Lib.hid (Below.refl _ _)⟩
 case round =>
  obtain ⟨i, last, hi, rfl, rfl, hla1, hla2, hF, hBl⟩ := hrel;by_cases hin : i < r
  · have hin1 : (i : Int) < (r : Int) := by omega
    have hiR : i < R.length := by rw [HRl.out]; exact hin
    have hM' := HMN.out.below hBl.out;have c0 := hM'.hdr hiR;have hxl : R[i].xs.length = c := HH.out.1.get hiR;unfold Hd.hdr at c0;have hlead := Lead_c R[i].blk R[i].cap R[i].xs wr (hM'.row _ (List.getElem_mem hiR)) (fun x hx => Nat.le_trans (HH.out.2.2 _ (List.getElem_mem hiR) x hx) (by omega)) (by omega);have hle := leadOf_eq hiR;rw [<- hle] at hlead;rw [hxl] at c0 hlead;have hIL := isLead_of hiR HH.out.1;obtain ⟨j, hj⟩ : ∃ j, leadOf R i = j := ⟨_, rfl⟩;rw [hj] at hlead hIL;have HLead := Lib.hid hlead; clear hlead;have HIL := Lib.hid hIL;have hjc : j <= c := hIL.le;have g1 := (R14.out.below hBl.out R14.out.lt).cell 1;simp only [List.getElem?_cons_zero, List.getElem?_cons_succ] at g1;clear hIL hle hj;go_wp2_with fail
    refine HLead.out.mono ?_;rintro e w5 ⟨rfl, hb5⟩;have B5 := Lib.hid (hBl.out.trans (hb5.mono hBl.out.size));have g1' := (R14.out.below B5.out R14.out.lt).cell 1;simp only [List.getElem?_cons_zero, List.getElem?_cons_succ] at g1';clear hb5 g1 c0 hBl;by_cases hjl : j = c
    · subst hjl;have hs2 := Lib.hid (hF.out.skip HIL.out);have hjj : ((j : Int) == (j : Int)) = true := by simp
      go_wp2;go_roundw
      case rel => exact ⟨i + 1, (j : Int), by omega, by go_num, rfl, by omega, by omega, hs2, B5⟩
      case measure => simp [intOf]; omega
    · have hjn : ((j : Int) == (c : Int)) = false := by simp; omega
      have hjc2 : j < c := by omega
      obtain ⟨p, q0, q1, hn⟩ := ((HMN.out.below B5.out).row _ (List.getElem_mem hiR)).get (i := j) (by rw [hxl]; exact hjc2);have hjx : (j : Int) < (c : Int) := by omega
      have hent : ent R i j = R[i].xs[j]'(by rw [hxl]; exact hjc2) := ent_eq hiR (by rw [hxl]; exact hjc2);rw [<- hent] at hn;have hwx : wlen (ent R i j).natAbs <= m := by rw [hent]; exact HH.out.2.2 _ (List.getElem_mem hiR) _ (List.getElem_mem _)
      have HN := Lib.hid (hn.int (L := 17592186044415) (by omega));have HENT := Lib.hid hent;clear hn hent hwx;have hnot : ∀ t : Bool, t = false -> (∀ h : HF r c (ent R), False) -> (t = true ↔ HF r c (matE xs r c)) := fun t ht hno => by
       subst ht;exact Iff.intro (fun h => by cases h) (fun h => (hno (HF.congr h (fun a _ b => HH.out.2.1 a b))).elim)
      have HNo := Lib.hid hnot; clear hnot;have hBf : Below w.heap.size w w5 := B4.out.trans (B5.out.mono B4.out.size);have HBf := Lib.hid hBf; clear hBf;by_cases hjla : (j : Int) <= last
      · have hno := Lib.hid (fun h : HF r c (ent R) => by have := (h.row hin HIL.out hjc2 hF.out).1; omega : HF r c (ent R) -> False);have t1 : decide ((j : Int) <= last) = true := by simpa using hjla
        go_wp2;go_ret2;exact ⟨⟨false, rfl, HNo.out _ rfl hno.out⟩, HBf.out⟩
      · have t1 : decide ((j : Int) <= last) = false := by simpa using hjla
        have hF' := Lib.hid (And.intro hF.out (show last < (j : Int) by omega));have hs1 := ISign_c (av p) (ent R i j) w5 HN.out;obtain ⟨x, hx⟩ : ∃ x, ent R i j = x := ⟨_, rfl⟩;rw [hx] at hs1;obtain ⟨zs, hzs⟩ : ∃ zs, zsign x = zs := ⟨_, rfl⟩;rw [hzs] at hs1;have HS1 := Lib.hid hs1; clear hs1;unfold av at *;clear hjla hF;by_cases hxn : x < 0
        · have t2 : decide (zs < 0) = true := by rw [<- hzs]; unfold zsign; rw [if_pos hxn]; rfl
          have hno := Lib.hid (fun h : HF r c (ent R) => by have := (h.row hin HIL.out hjc2 hF'.out.1).2.1; omega : HF r c (ent R) -> False);clear hx hzs hxn;go_wp2_with fail
          refine HS1.out.mono ?_;rintro e w6 ⟨rfl, hb6⟩;have HB6 := Lib.hid (HBf.out.trans (hb6.mono HBf.out.size)); clear hb6;go_wp2;go_ret2;exact ⟨⟨false, rfl, HNo.out _ rfl hno.out⟩, HB6.out⟩
        · have t2 : decide (zs < 0) = false := by rw [<- hzs]; unfold zsign; rw [if_neg hxn]; split <;> rfl
          have hxp : 0 < x := by have := HIL.out.ne hjc2; rw [hx] at this; omega
          have HX := Lib.hid (And.intro hx hxp); clear hx hzs hxn hxp;go_wp2_with fail
          refine HS1.out.mono ?_;rintro e w6 ⟨rfl, hb6⟩;have B6 := Lib.hid (B5.out.trans (hb6.mono B5.out.size)); clear hb6 q0 q1 g1' HS1;clear B5 HBf HN;go_wp2;go_loopw [49] (fun a_ wq => ∃ (a : Nat), a <= i /\ a_ = .int .i64 (a : Int) /\ Hid (∀ a', a' < a -> 0 <= ent R a' j /\ ent R a' j < x) /\ Hid (Below w4.heap.size w4 wq)) (fun a_ _ => i - (intOf a_).toNat)
          case atStart => exact ⟨0, Nat.zero_le _, rfl, Lib.hid (fun a' h => by omega), B6⟩
          case round =>
           obtain ⟨a, ha, rfl, hag, hBl⟩ := hrel;by_cases hai : a < i
           · have hai1 : (a : Int) < (i : Int) := by omega
             have haR : a < R.length := by omega
             have hM' := HMN.out.below hBl.out;have c0 := hM'.hdr haR;unfold Hd.hdr at c0;have hal : R[a].xs.length = c := HH.out.1.get haR;rw [hal] at c0;obtain ⟨pa, qa0, qa1, hna⟩ := (hM'.row _ (List.getElem_mem haR)).get (i := j) (by rw [hal]; exact hjc2);obtain ⟨pi, qi0, qi1, hni⟩ := (hM'.row _ (List.getElem_mem hiR)).get (i := j) (by rw [hxl]; exact hjc2);have hea : ent R a j = R[a].xs[j]'(by rw [hal]; exact hjc2) := ent_eq haR (by rw [hal]; exact hjc2);rw [<- hea] at hna;rw [<- HENT.out, HX.out.1] at hni;have hwa : wlen (ent R a j).natAbs <= m := by rw [hea]; exact HH.out.2.2 _ (List.getElem_mem haR) _ (List.getElem_mem _)
             have hwi : wlen x.natAbs <= m := by rw [<- HX.out.1, HENT.out]; exact HH.out.2.2 _ (List.getElem_mem hiR) _ (List.getElem_mem _)
             have hba : R[a].blk < wr.heap.size := (hM'.row _ (List.getElem_mem haR)).lt;have hbi : R[i].blk < wr.heap.size := (hM'.row _ (List.getElem_mem hiR)).lt;obtain ⟨y, hy⟩ : ∃ y, ent R a j = y := ⟨_, rfl⟩;rw [hy] at hna hwa;have HY := Lib.hid hy; clear hy hea;have HNa := Lib.hid (hna.int (L := 17592186044415) (by omega));have HNi := Lib.hid (hni.int (L := 17592186044415) (by omega));clear hna hni hwa hwi hM';obtain ⟨za, hza⟩ : ∃ za, zsign y = za := ⟨_, rfl⟩;obtain ⟨zc, hzc⟩ : ∃ zc, zcmp y x = zc := ⟨_, rfl⟩;have hS : Hid (Calls Tryz.prog 47 #[.agg #[.bool pa.1, .slice pa.2.1 pa.2.2.1 pa.2.2.2]] wr.drew fun e w' => e = .returned (.int .i64 za) /\ Below wr.drew.heap.size wr.drew w') := Lib.hid (by
              have := ISign_c (av pa) y wr.drew (IntAt.below (w := wr) HNa.out (Below.refl _ _).drew); rw [hza] at this; exact this)
             have hC : Hid (∀ W : World, Below wr.heap.size wr W -> Calls Tryz.prog 48 #[.agg #[.bool pa.1, .slice pa.2.1 pa.2.2.1 pa.2.2.2], .agg #[.bool pi.1, .slice pi.2.1 pi.2.2.1 pi.2.2.2]] W fun e w' => e = .returned (.int .i64 zc) /\ Below W.heap.size W w') := Lib.hid (fun W hW => by
              have := ICmp_c (av pa) (av pi) y x W (IntAt.below HNa.out hW) (IntAt.below HNi.out hW); rw [hzc] at this; exact this)
             unfold av at *;by_cases hyn : y < 0
             · have t3 : decide (za < 0) = true := by rw [<- hza]; unfold zsign; rw [if_pos hyn]; rfl
               have hno := Lib.hid (fun h : HF r c (ent R) => by have := (h.row hin HIL.out hjc2 hF'.out.1).2.2 a hai; rw [HY.out] at this; omega : HF r c (ent R) -> False);have T3 := Lib.hid t3;clear hza hzc hyn hC qi0 qi1 t3;go_wp2;have t3 : decide (za < 0) = true := T3.out;refine wp_region_any (by kernel_rfl) ?_;try (change wpAny _ _ _ _ _ _ _ (World.drew _))
               refine wpAny_take (i := 0) (v := ?_) rfl (by kernel_rfl) (by kernel_rfl) (by kernel_rfl) (fun _ _ _ h => h) (Or.inl ⟨by kernel_rfl, ?_⟩) ?_;rotate_left
               · intro w; go_simp; try (with_reducible rfl)
               refine wpAny_take (i := 1) (v := ?_) rfl (by kernel_rfl) (by kernel_rfl) (by kernel_rfl) (fun _ _ _ h => h) (Or.inl ⟨by kernel_rfl, ?_⟩) ?_;rotate_left
               · intro w; go_simp; try (with_reducible rfl)
               refine wpAny_take (i := 2) (v := ?_) rfl (by kernel_rfl) (by kernel_rfl) (by kernel_rfl) (fun _ _ _ h => h) (Or.inl ⟨by kernel_rfl, ?_⟩) ?_;rotate_left
               · intro w; go_simp; try (with_reducible rfl)
               refine wpAny_ready (rs := [3]) (by kernel_rfl) (by simp) ?_;refine AllReady.cons rfl (fun K hK => ?_) AllReady.nil;go_simp;refine hK _ _ ?_;clear hK K;refine wpAny_ready (rs := [4]) (by kernel_rfl) (by simp) ?_;refine AllReady.cons rfl (fun K hK => ?_) AllReady.nil;go_simp;go_wp2_with (first | (go_at_call 47; refine hS.out.mono ?_; rintro e w7 ⟨rfl, hb7⟩))
               refine wpAny_take (i := 5) (v := ?_) rfl (by kernel_rfl) (by kernel_rfl) (by kernel_rfl) (fun _ _ _ h => h) (Or.inl ⟨by kernel_rfl, ?_⟩) ?_;rotate_left
               · intro w; go_simp; try (with_reducible rfl)
               refine wpAny_take (i := 6) (v := ?_) rfl (by kernel_rfl) (by kernel_rfl) (by kernel_rfl) (fun _ _ _ h => h) (Or.inl ⟨by kernel_rfl, ?_⟩) ?_;rotate_left
               · intro w; go_simp; try (with_reducible rfl)
               refine wpAny_take (i := 7) (v := undef) rfl (by kernel_rfl) (by kernel_rfl) (by kernel_rfl) (fun _ _ _ h => h) (Or.inr ⟨by kernel_rfl, rfl⟩) ?_;refine wpAny_take (i := 8) (v := undef) rfl (by kernel_rfl) (by kernel_rfl) (by kernel_rfl) (fun _ _ _ h => h) (Or.inr ⟨by kernel_rfl, rfl⟩) ?_;refine wpAny_take (i := 9) (v := undef) rfl (by kernel_rfl) (by kernel_rfl) (by kernel_rfl) (fun _ _ _ h => h) (Or.inr ⟨by kernel_rfl, rfl⟩) ?_;refine wpAny_take (i := 10) (v := undef) rfl (by kernel_rfl) (by kernel_rfl) (by kernel_rfl) (fun _ _ _ h => h) (Or.inr ⟨by kernel_rfl, rfl⟩) ?_;refine wpAny_take (i := 11) (v := undef) rfl (by kernel_rfl) (by kernel_rfl) (by kernel_rfl) (fun _ _ _ h => h) (Or.inr ⟨by kernel_rfl, rfl⟩) ?_;refine wpAny_take (i := 12) (v := undef) rfl (by kernel_rfl) (by kernel_rfl) (by kernel_rfl) (fun _ _ _ h => h) (Or.inr ⟨by kernel_rfl, rfl⟩) ?_;refine wpAny_take (i := 13) (v := undef) rfl (by kernel_rfl) (by kernel_rfl) (by kernel_rfl) (fun _ _ _ h => h) (Or.inr ⟨by kernel_rfl, rfl⟩) ?_;refine wpAny_take (i := 14) (v := undef) rfl (by kernel_rfl) (by kernel_rfl) (by kernel_rfl) (fun _ _ _ h => h) (Or.inr ⟨by kernel_rfl, rfl⟩) ?_;refine wpAny_take (i := 15) (v := undef) rfl (by kernel_rfl) (by kernel_rfl) (by kernel_rfl) (fun _ _ _ h => h) (Or.inr ⟨by kernel_rfl, rfl⟩) ?_;refine wpAny_take (i := 16) (v := undef) rfl (by kernel_rfl) (by kernel_rfl) (by kernel_rfl) (fun _ _ _ h => h) (Or.inr ⟨by kernel_rfl, rfl⟩) ?_;refine wpAny_take (i := 17) (v := ?_) rfl (by kernel_rfl) (by kernel_rfl) (by kernel_rfl) (fun _ _ _ h => h) (Or.inl ⟨by kernel_rfl, ?_⟩) ?_;rotate_left
               · intro w; go_simp; try (with_reducible rfl)
               refine wpAny_done (by kernel_rfl) ?_ _;have HB7 : Hid (Below w.heap.size w w7) := Lib.hid (B4.out.trans ((hBl.out.drew.trans (hb7.mono hBl.out.size)).mono B4.out.size));clear hb7 hS hBl;go_simp;go_wp2;go_ret2;exact ⟨⟨false, rfl, HNo.out _ rfl hno.out⟩, HB7.out⟩
             · have t3 : decide (za < 0) = false := by rw [<- hza]; unfold zsign; rw [if_neg hyn]; split <;> rfl
               obtain ⟨t, ht⟩ : ∃ t, decide (0 <= zc) = t := ⟨_, rfl⟩;have hty : t = false -> y < x := fun e => by
                subst e;rw [decide_eq_false_iff_not, <- hzc] at ht;unfold zcmp at ht;by_cases h : y < x
                · exact h
                · rw [if_neg h] at ht; split at ht <;> omega
               have hty2 : t = true -> ¬ y < x := fun e h => by
                subst e;rw [decide_eq_true_iff, <- hzc] at ht;unfold zcmp at ht;rw [if_pos h] at ht;omega
               have HTY := Lib.hid (And.intro hty (And.intro hty2 hyn));have T3 := Lib.hid t3;clear hza hzc hyn hty hty2 t3;go_wp2;have t3 : decide (za < 0) = false := T3.out;refine wp_region_any (by kernel_rfl) ?_;try (change wpAny _ _ _ _ _ _ _ (World.drew _))
               refine wpAny_take (i := 0) (v := ?_) rfl (by kernel_rfl) (by kernel_rfl) (by kernel_rfl) (fun _ _ _ h => h) (Or.inl ⟨by kernel_rfl, ?_⟩) ?_;rotate_left
               · intro w; go_simp; try (with_reducible rfl)
               refine wpAny_take (i := 1) (v := ?_) rfl (by kernel_rfl) (by kernel_rfl) (by kernel_rfl) (fun _ _ _ h => h) (Or.inl ⟨by kernel_rfl, ?_⟩) ?_;rotate_left
               · intro w; go_simp; try (with_reducible rfl)
               refine wpAny_take (i := 2) (v := ?_) rfl (by kernel_rfl) (by kernel_rfl) (by kernel_rfl) (fun _ _ _ h => h) (Or.inl ⟨by kernel_rfl, ?_⟩) ?_;rotate_left
               · intro w; go_simp; try (with_reducible rfl)
               refine wpAny_ready (rs := [3]) (by kernel_rfl) (by simp) ?_;refine AllReady.cons rfl (fun K hK => ?_) AllReady.nil;go_simp;refine hK _ _ ?_;clear hK K;refine wpAny_ready (rs := [4]) (by kernel_rfl) (by simp) ?_;refine AllReady.cons rfl (fun K hK => ?_) AllReady.nil;go_simp;go_wp2_with (first | (go_at_call 47; refine hS.out.mono ?_; rintro e w7 ⟨rfl, hb7⟩; have k0 := (hb7.cell (p := ⟨R[a].blk, j * 2, none⟩) hba).trans qa0; have k1 := (hb7.cell (p := ⟨R[a].blk, j * 2 + 1, none⟩) hba).trans qa1; have k2 := (hb7.cell (p := ⟨R[i].blk, j * 2, none⟩) hbi).trans qi0; have k3 := (hb7.cell (p := ⟨R[i].blk, j * 2 + 1, none⟩) hbi).trans qi1))
               refine wpAny_take (i := 5) (v := ?_) rfl (by kernel_rfl) (by kernel_rfl) (by kernel_rfl) (fun _ _ _ h => h) (Or.inl ⟨by kernel_rfl, ?_⟩) ?_;rotate_left
               · intro w; go_simp; try (with_reducible rfl)
               refine wpAny_take (i := 6) (v := ?_) rfl (by kernel_rfl) (by kernel_rfl) (by kernel_rfl) (fun _ _ _ h => h) (Or.inl ⟨by kernel_rfl, ?_⟩) ?_;rotate_left
               · intro w; go_simp; try (with_reducible rfl)
               refine wpAny_take (i := 7) (v := ?_) rfl (by kernel_rfl) (by kernel_rfl) (by kernel_rfl) (fun _ _ _ h => h) (Or.inl ⟨by kernel_rfl, ?_⟩) ?_;rotate_left
               · intro w; go_simp; try (with_reducible rfl)
               refine wpAny_take (i := 8) (v := ?_) rfl (by kernel_rfl) (by kernel_rfl) (by kernel_rfl) (fun _ _ _ h => h) (Or.inl ⟨by kernel_rfl, ?_⟩) ?_;rotate_left
               · intro w; go_simp; try (with_reducible rfl)
               refine wpAny_take (i := 9) (v := ?_) rfl (by kernel_rfl) (by kernel_rfl) (by kernel_rfl) (fun _ _ _ h => h) (Or.inl ⟨by kernel_rfl, ?_⟩) ?_;rotate_left
               · intro w; go_simp; try (with_reducible rfl)
               refine wpAny_take (i := 11) (v := ?_) rfl (by kernel_rfl) (by kernel_rfl) (by kernel_rfl) (fun _ _ _ h => h) (Or.inl ⟨by kernel_rfl, ?_⟩) ?_;rotate_left
               · intro w; go_simp; try (with_reducible rfl)
               refine wpAny_take (i := 12) (v := ?_) rfl (by kernel_rfl) (by kernel_rfl) (by kernel_rfl) (fun _ _ _ h => h) (Or.inl ⟨by kernel_rfl, ?_⟩) ?_;rotate_left
               · intro w; go_simp; try (with_reducible rfl)
               refine wpAny_take (i := 13) (v := ?_) rfl (by kernel_rfl) (by kernel_rfl) (by kernel_rfl) (fun _ _ _ h => h) (Or.inl ⟨by kernel_rfl, ?_⟩) ?_;rotate_left
               · intro w; go_simp; try (with_reducible rfl)
               refine wpAny_ready (rs := [10, 14]) (by kernel_rfl) (by simp) ?_;refine AllReady.cons rfl (fun K hK => ?_) (AllReady.cons rfl (fun K hK => ?_) AllReady.nil)
               · go_simp;refine hK _ _ ?_;clear hK K;refine wpAny_ready (rs := [14]) (by kernel_rfl) (by simp) ?_;refine AllReady.cons rfl (fun K hK => ?_) AllReady.nil;go_simp;refine hK _ _ ?_;clear hK K;refine wpAny_ready (rs := [15]) (by kernel_rfl) (by simp) ?_;refine AllReady.cons rfl (fun K hK => ?_) AllReady.nil;go_simp;go_wp2_with (first | (go_at_call 48; refine (hC.out _ ((Below.refl _ wr).drew.trans hb7)).mono ?_; rintro e w8 ⟨rfl, hb8⟩))
                 refine wpAny_take (i := 16) (v := ?_) rfl (by kernel_rfl) (by kernel_rfl) (by kernel_rfl) (fun _ _ _ h => h) (Or.inl ⟨by kernel_rfl, ?_⟩) ?_;rotate_left
                 · intro w; go_simp; try (with_reducible rfl)
                 refine wpAny_take (i := 17) (v := ?_) rfl (by kernel_rfl) (by kernel_rfl) (by kernel_rfl) (fun _ _ _ h => h) (Or.inl ⟨by kernel_rfl, ?_⟩) ?_;rotate_left
                 · intro w; go_simp; try (with_reducible rfl)
                 refine wpAny_done (by kernel_rfl) ?_ _;have HB8 : Hid (Below w4.heap.size w4 w8) := Lib.hid ((hBl.out.drew.trans (hb7.mono hBl.out.size)).trans (hb8.mono (Nat.le_trans hBl.out.size hb7.size)));clear hb7 hb8 hS hC hBl k0 k1 k2 k3 qa0 qa1 qi0 qi1 c0;clear ht;go_simp;cases t
                 · go_wp2;go_roundw
                   case rel => exact ⟨a + 1, by omega, by go_num, Lib.hid (fun a' h => by
                    by_cases e : a' = a
                    · subst e; rw [HY.out]; exact ⟨by have := HTY.out.2.2; omega, HTY.out.1 rfl⟩
                    · exact hag.out a' (by omega)), HB8⟩
                   case measure => simp [intOf]; omega
                 · have hno := Lib.hid (fun h : HF r c (ent R) => by have := (h.row hin HIL.out hjc2 hF'.out.1).2.2 a hai; rw [HY.out, HX.out.1] at this; have h8 := HTY.out.2.1 rfl; omega : HF r c (ent R) -> False);have HB9 : Hid (Below w.heap.size w w8) := Lib.hid (B4.out.trans (HB8.out.mono B4.out.size));go_wp2;go_ret2;first | exact ⟨⟨false, rfl, HNo.out _ rfl hno.out⟩, HB9.out⟩ | exact ⟨.inl ⟨rfl, fun h => by have h8 := (HNo.out _ rfl hno.out).2 h; cases h8⟩, HB9.out⟩
               · go_simp;refine hK _ _ ?_;clear hK K;refine wpAny_ready (rs := [10]) (by kernel_rfl) (by simp) ?_;refine AllReady.cons rfl (fun K hK => ?_) AllReady.nil;go_simp;refine hK _ _ ?_;clear hK K;refine wpAny_ready (rs := [15]) (by kernel_rfl) (by simp) ?_;refine AllReady.cons rfl (fun K hK => ?_) AllReady.nil;go_simp;go_wp2_with (first | (go_at_call 48; refine (hC.out _ ((Below.refl _ wr).drew.trans hb7)).mono ?_; rintro e w8 ⟨rfl, hb8⟩))
                 refine wpAny_take (i := 16) (v := ?_) rfl (by kernel_rfl) (by kernel_rfl) (by kernel_rfl) (fun _ _ _ h => h) (Or.inl ⟨by kernel_rfl, ?_⟩) ?_;rotate_left
                 · intro w; go_simp; try (with_reducible rfl)
                 refine wpAny_take (i := 17) (v := ?_) rfl (by kernel_rfl) (by kernel_rfl) (by kernel_rfl) (fun _ _ _ h => h) (Or.inl ⟨by kernel_rfl, ?_⟩) ?_;rotate_left
                 · intro w; go_simp; try (with_reducible rfl)
                 refine wpAny_done (by kernel_rfl) ?_ _;have HB8 : Hid (Below w4.heap.size w4 w8) := Lib.hid ((hBl.out.drew.trans (hb7.mono hBl.out.size)).trans (hb8.mono (Nat.le_trans hBl.out.size hb7.size)));clear hb7 hb8 hS hC hBl k0 k1 k2 k3 qa0 qa1 qi0 qi1 c0;clear ht;go_simp;cases t
                 · go_wp2;go_roundw
                   case rel => exact ⟨a + 1, by omega, by go_num, Lib.hid (fun a' h => by
                    by_cases e : a' = a
                    · subst e; rw [HY.out]; exact ⟨by have := HTY.out.2.2; omega, HTY.out.1 rfl⟩
                    · exact hag.out a' (by omega)), HB8⟩
                   case measure => simp [intOf]; omega
                 · have hno := Lib.hid (fun h : HF r c (ent R) => by have := (h.row hin HIL.out hjc2 hF'.out.1).2.2 a hai; rw [HY.out, HX.out.1] at this; have h8 := HTY.out.2.1 rfl; omega : HF r c (ent R) -> False);have HB9 : Hid (Below w.heap.size w w8) := Lib.hid (B4.out.trans (HB8.out.mono B4.out.size));go_wp2;go_ret2;first | exact ⟨⟨false, rfl, HNo.out _ rfl hno.out⟩, HB9.out⟩ | exact ⟨.inl ⟨rfl, fun h => by have h8 := (HNo.out _ rfl hno.out).2 h; cases h8⟩, HB9.out⟩
           · obtain rfl : a = i := by omega
             have hnx := Lib.hid (hF'.out.1.next HIL.out hjc2 hF'.out.2 (by rw [HX.out.1]; exact HX.out.2) (fun a' h => by rw [HX.out.1]; exact hag.out a' h));go_wp2;go_roundw
             case rel => exact ⟨a + 1, (j : Int), by omega, by go_num, rfl, by omega, by omega, hnx, hBl⟩
             case measure => simp [intOf]; omega
  · obtain rfl : i = r := by omega
    have hfin : HF i c (ent R) := hF.out.fin (fun a b hb => HH.out.1.wide a hb);have HFN := Lib.hid hfin; clear hfin;go_wp2;go_ret2;refine ⟨⟨true, rfl, fun _ => HFN.out.congr (fun a _ b => (HH.out.2.1 a b).symm), fun _ => rfl⟩, B4.out.trans (hBl.out.mono B4.out.size)⟩
theorem ownsRow_below {w w' : World} {base : Nat} {e : TypeId} {size : Nat} {v : Value} {n : Nat} {xs : List Value} (h : w.ownsRow base e size v n xs) (hb : Below w.heap.size w w') : w'.ownsRow base e size v n xs := by
 refine ⟨h.1, ?_⟩;rcases h.2 with hn | ⟨g, cap, cur, hv, hg, hc, rest⟩
 · exact .inl hn
 · refine .inr ⟨g, cap, cur, hv, hg, ?_, rest⟩;have hlt : g < w.heap.size := by
    by_cases e : g < w.heap.size
    · exact e
    · rw [Array.getElem?_eq_none (by omega)] at hc; cases hc
   rw [hb.block g hlt]; exact hc
structure PV (c : Nat) (E : Nat -> Nat -> Int) (i : Nat) (ls : List Nat) : Prop where
 len : ls.length = i
 herm : Herm i c E (fun a => ls.getD a 0)
def lastP (ls : List Nat) : Int := if ls.length = 0 then -1 else (ls.getD (ls.length - 1) 0 : Int)
theorem PV.start (c : Nat) (E : Nat -> Nat -> Int) : PV c E 0 [] :=
 ⟨rfl, ⟨⟨fun i k _ h => by omega, fun i h => by omega, fun i h => by omega, fun i h => by omega⟩, fun i k _ h => by omega⟩⟩
theorem PV.fi {c : Nat} {E : Nat -> Nat -> Int} {i : Nat} {ls : List Nat} (h : PV c E i ls) : FI c E i (lastP ls) := by
 refine ⟨i, fun a => ls.getD a 0, Nat.le_refl _, h.herm, fun a h1 h2 => by omega, ?_⟩;rw [if_neg (by omega)];unfold lastP;rw [h.len]
theorem Ech.leadAt {n c : Nat} {E : Nat -> Nat -> Int} {l : Nat -> Nat} (h : Ech n c E l) {a q : Nat} (ha : a < n) (h0 : ∀ b, b < q -> E a b = 0) (hn : E a q ≠ 0) : l a = q := by
 rcases Nat.lt_trichotomy (l a) q with e | e | e
 · have := h.pos a ha; have := h0 _ e; omega
 · exact e
 · exact absurd (h.zero a ha q e) hn
theorem Herm.lcongr {n c : Nat} {E : Nat -> Nat -> Int} {l l' : Nat -> Nat} (h : Herm n c E l) (e : ∀ a, a < n -> l' a = l a) : Herm n c E l' := by
 refine ⟨⟨fun i k hik hk => ?_, fun i hi => ?_, fun i hi j hj => ?_, fun i hi => ?_⟩, fun i k hik hk => ?_⟩
 · rw [e i (by omega), e k hk]; exact h.inc i k hik hk
 · rw [e i hi]; exact h.lt i hi
 · rw [e i hi] at hj; exact h.zero i hi j hj
 · rw [e i hi]; exact h.pos i hi
 · rw [e k hk]; exact h.red i k hik hk
theorem PV.next {c : Nat} {E : Nat -> Nat -> Int} {i j : Nat} {ls : List Nat} (h : PV c E i ls) (hl : IsLead c E i j) (hj : j < c) (hlast : lastP ls < (j : Int)) (hp : 0 < E i j) (hr : ∀ a, a < i -> 0 <= E a j /\ E a j < E i j) : PV c E (i + 1) (ls ++ [j]) := by
 obtain ⟨k, l, hk, hH, hz, hla⟩ := h.fi.next hl hj hlast hp hr;have hki : k = i + 1 := by
  by_cases e : k < i + 1
  · rw [if_pos e] at hla; omega
  · omega
 subst hki;refine ⟨by simp [h.len], hH.lcongr fun a ha => ?_⟩;by_cases e : a < i
 · have e1 : (ls ++ [j]).getD a 0 = ls.getD a 0 := by
    rw [List.getD_eq_getElem?_getD, List.getD_eq_getElem?_getD, List.getElem?_append_left (by rw [h.len]; exact e)]
   show (ls ++ [j]).getD a 0 = l a;rw [e1];exact (hH.leadAt ha (h.herm.zero a e) (by have := h.herm.pos a e; omega)).symm
 · obtain rfl : a = i := by omega
   have e1 : (ls ++ [j]).getD a 0 = j := by
    rw [List.getD_eq_getElem?_getD, List.getElem?_append_right (by rw [h.len]; exact Nat.le_refl _), h.len]; simp
   show (ls ++ [j]).getD a 0 = l a;rw [e1];exact (hH.leadAt ha hl.zero (by omega)).symm
theorem flat_no {xs : List Int} {r c i q : Nat} (hs : xs.length = r * c) (hq : q < xs.length) (hn : xs.getD q 0 ≠ 0) (hz : ∀ a, i <= a -> a < r -> ∀ b, matE xs r c a b = 0) (hiq : i * c <= q) : False := by
 rw [hs] at hq;have hc : 0 < c := by
  rcases Nat.eq_zero_or_pos c with e | e
  · rw [e, Nat.mul_zero] at hq; omega
  · exact e
 have h1 : q / c < r := Nat.div_lt_of_lt_mul (by rw [Nat.mul_comm]; exact hq);have h2 : i <= q / c := (Nat.le_div_iff_mul_le hc).2 hiq;have h3 := hz (q / c) h2 h1 (q % c);unfold matE at h3;rw [if_pos ⟨h1, Nat.mod_lt _ hc⟩, show q / c * c + q % c = q by rw [Nat.mul_comm]; exact Nat.div_add_mod q c] at h3;exact hn h3
theorem flat_zero {xs : List Int} {r c i : Nat} (h : ∀ u, i * c <= u -> u < xs.length -> xs.getD u 0 = 0) (hs : xs.length = r * c) : ∀ a, i <= a -> a < r -> ∀ b, matE xs r c a b = 0 := by
 intro a h1 h2 b;unfold matE;split
 · rename_i h3;exact h _ (Nat.le_trans (Nat.mul_le_mul_right _ h1) (Nat.le_add_right _ _)) (by rw [hs]; exact idx_lt h3.1 h3.2)
 · rfl
def Pvs (r c : Nat) (E : Nat -> Nat -> Int) (ls : List Nat) : Prop := ∃ i, i <= r /\ PV c E i ls /\ ∀ a, i <= a -> a < r -> ∀ b, E a b = 0
theorem zs_zero {x : Int} (h : x = 0) : (zsign x == 0) = true := by subst h; rfl
theorem zs_ne {x : Int} (h : x ≠ 0) : (zsign x == 0) = false := by
 unfold zsign;rw [if_neg h];split <;> rfl
theorem info_intP : (Tryz.prog.info? 3).map (fun i => (i.zero, i.size, i.bytes)) = some (some (.int .i64 0), 1, 8) := by kernel_rfl
def litsN (ls : List Nat) : List Value := ls.map fun (a : Nat) => Value.int .i64 (a : Int)
theorem own_cells {w : World} {base : Nat} {e : TypeId} {v : Value} {ls : List Nat} (h : w.ownsRow base e 1 v ls.length (litsN ls)) :
 (v = .slice none 0 0 /\ ls = []) ∨ ∃ g cap, v = .slice (some ⟨g, 0, none⟩) ls.length cap /\ 0 < ls.length + 1 /\ g < w.heap.size /\ ∀ k (hk : k < ls.length), w.cell? ⟨g, k, none⟩ = some (.int .i64 (ls.getD k 0 : Nat)) := by
 rcases h.2 with ⟨hn, h0⟩ | ⟨g, cap, cur, hv, hg, hc, h1, h2, h3, h4⟩
 · exact .inl ⟨hn, List.eq_nil_of_length_eq_zero h0⟩
 · refine .inr ⟨g, cap, hv, by omega, ?_, fun k hk => ?_⟩
   · by_cases e : g < w.heap.size
     · exact e
     · rw [Array.getElem?_eq_none (by omega)] at hc; cases hc
   · have e1 : cur[k]? = some (Value.int .i64 (ls.getD k 0 : Nat)) := by
      rw [<- Array.getElem?_toList];have e2 : (cur.toList.take (ls.length * 1))[k]? = cur.toList[k]? := List.getElem?_take_of_lt (by omega);rw [<- e2, h4];unfold litsN;rw [List.getElem?_map, List.getD_eq_getElem?_getD, List.getElem?_eq_getElem hk];rfl
     simp [World.cell?, hc, e1]
theorem own_ge {w : World} {base : Nat} {e : TypeId} {size n : Nat} {v : Value} {xs : List Value} (h : w.ownsRow base e size v n xs) : ∀ k, v.ownBlock = some k -> base <= k := by
 intro k hk;rcases h.2 with ⟨rfl, _⟩ | ⟨g, cap, cur, rfl, hg, _⟩
 · cases hk
 · have : g = k := by simpa [Value.ownBlock] using hk
   omega
theorem own_form {w : World} {base : Nat} {e : TypeId} {v : Value} {ls : List Nat} (h : w.ownsRow base e 1 v ls.length (litsN ls)) :
 ∃ ao cap, v = .slice ao ls.length cap /\ (0 < ls.length -> ∃ g, ao = some ⟨g, 0, none⟩ /\ g < w.heap.size /\ ∀ k (hk : k < ls.length), w.cell? ⟨g, k, none⟩ = some (.int .i64 (ls.getD k 0 : Nat))) := by
 rcases own_cells h with ⟨rfl, rfl⟩ | ⟨g, cap, rfl, _, hg, hc⟩
 · exact ⟨none, 0, rfl, fun h => by simp at h⟩
 · exact ⟨_, cap, rfl, fun _ => ⟨g, rfl, hg, hc⟩⟩
set_option maxRecDepth 100000 in
set_option maxHeartbeats 4000000 in
theorem Pivots_c (r c L : Nat) (ao : Option Addr) (len cap : Nat) (xs : List Int) (w : World) (hr : r <= 64) (hc : c <= 64) (h : LsAt w L ao xs) (hL : L <= 1099511627776) (hl : len = xs.length) (hs : xs.length = r * c) :
 Calls Tryz.prog 15 #[.agg #[.int .i64 (r : Int), .int .i64 (c : Int), .slice ao len cap]] w fun e w' => (∃ v t, e = .returned (.tuple #[v, .bool t]) /\ (t = true -> ∃ ls, Pvs r c (matE xs r c) ls /\ w'.ownsRow w.heap.size 3 1 v ls.length (litsN ls)) /\ (t = false -> ¬ HF r c (matE xs r c))) /\ Below w.heap.size w w' := by
 subst hl;have r1 := RowAt.new w #[.int .i64 (r : Int), .int .i64 (c : Int), .slice ao xs.length cap] 24;have hb : Below w.heap.size w (w.alloc (.cells #[.int .i64 (r : Int), .int .i64 (c : Int), .slice ao xs.length cap] 24)) := (Below.refl _ _).alloc (Nat.le_refl _) _;have hs2e : (w.alloc (.cells #[.int .i64 (r : Int), .int .i64 (c : Int), .slice ao xs.length cap] 24)).heap.size = w.heap.size + 1 := Array.size_push _;have HXS := Lib.hid (h.below hb);have HS := Lib.hid hs;have HLL := Lib.hid hL;have hxl : xs.length <= 4096 := by rw [hs]; exact Nat.mul_le_mul hr hc
 clear h hs hL;obtain ⟨i0, hi0, hz0, hz1, hz2⟩ := info_parts info_intP;go_enter Tryz.func15, Tryz.ntmps15;go_wp2_with fail
 generalize w.alloc (.cells #[.int .i64 (r : Int), .int .i64 (c : Int), .slice ao xs.length cap] 24) = w2 at *;have hs2 : w.heap.size < w2.heap.size := r1.lt;have HS2 := Lib.hid hs2e; clear hs2e;have R1 := Lib.hid r1;have B2 := Lib.hid hb;clear r1 hb;go_wp2;go_loopw [4, 5] (fun v_ i_ wr => ∃ (i : Nat) (ls : List Nat), i <= r /\ i_ = .int .i64 (i : Int) /\ Hid (wr.ownsRow (w.heap.size + 1) 3 1 v_ ls.length (litsN ls)) /\ Hid (PV c (matE xs r c) i ls) /\ Hid (Below w2.heap.size w2 wr)) (fun _ i_ _ => r - (intOf i_).toNat)
 case atStart => exact ⟨0, [], Nat.zero_le _, rfl, Lib.hid ⟨by simp [litsN], .inl ⟨rfl, rfl⟩⟩, Lib.hid (PV.start _ _), Lib.hid (Below.refl _ _)⟩
 case round =>
  obtain ⟨i, ls, hi, rfl, hOwn, hPV, hBl⟩ := hrel;have k0 := (R1.out.below hBl.out R1.out.lt).cell 0;have k1 := (R1.out.below hBl.out R1.out.lt).cell 1;have k2 := (R1.out.below hBl.out R1.out.lt).cell 2;simp only [List.getElem?_cons_zero, List.getElem?_cons_succ] at k0 k1 k2;by_cases hir : i < r
  · have hir1 : (i : Int) < (r : Int) := by omega
    clear k1 k2;have HBl0 := hBl;go_wp2;go_loopw [6] (fun j_ wq => ∃ (j : Nat), j <= c /\ j_ = .int .i64 (j : Int) /\ Hid (∀ b, b < j -> matE xs r c i b = 0) /\ Hid (Below wr.heap.size wr wq)) (fun j_ _ => c - (intOf j_).toNat)
    case atStart => exact ⟨0, Nat.zero_le _, rfl, Lib.hid (fun b h => by omega), Lib.hid (Below.refl _ _)⟩
    case round =>
     obtain ⟨j, hj, rfl, hz, hBq⟩ := hrel;have hBw := hBl.out.trans (hBq.out.mono hBl.out.size);have k1 := (R1.out.below hBw R1.out.lt).cell 1;have k2 := (R1.out.below hBw R1.out.lt).cell 2;simp only [List.getElem?_cons_zero, List.getElem?_cons_succ] at k1 k2;have hLS := HXS.out.below hBw;have HBw := Lib.hid hBw; clear hBw;by_cases hjc : j < c
     · have hjc1 : (j : Int) < (c : Int) := by omega
       have hqx : i * c + j < xs.length := by rw [HS.out]; exact idx_lt hir hjc
       obtain ⟨P, hP⟩ : ∃ P, i * c = P := ⟨_, rfl⟩;have hw1 : IntKind.i64.wrap ((i : Int) * (c : Int)) = (P : Int) := by
        rw [<- Int.natCast_mul, hP]; exact wrap_small (by omega) (by omega)
       rw [hP] at hqx;have hE : matE xs r c i j = xs[P + j]'hqx := by
        unfold matE;rw [if_pos ⟨hir, hjc⟩, hP, List.getD_eq_getElem?_getD, List.getElem?_eq_getElem hqx]; rfl
       obtain ⟨q, hq⟩ : ∃ q, P + j = q := ⟨_, rfl⟩;have hw2 : IntKind.i64.wrap ((P : Int) + (j : Int)) = (q : Int) := by
        rw [<- Int.natCast_add, hq]; exact wrap_small (by omega) (by omega)
       subst hq;obtain ⟨q, hq⟩ : ∃ q, q = P + j := ⟨_, rfl⟩;obtain ⟨b, o, hao, hbb, hcl⟩ := hLS (by omega);subst hao;obtain ⟨p, c0, c1, hn⟩ := hcl (P + j) hqx;rw [<- hE] at hn;rw [<- hq] at c0 c1 hqx hw2;have hqx1 : (q : Int) < (xs.length : Int) := by omega
       have HE := Lib.hid (And.intro hP hq);clear hcl hLS hP hE hq;obtain ⟨x, hx⟩ : ∃ x, matE xs r c i j = x := ⟨_, rfl⟩;rw [hx] at hn;obtain ⟨zs, hzs⟩ : ∃ zs, zsign x = zs := ⟨_, rfl⟩;have HSg : Hid (Calls Tryz.prog 45 #[.agg #[.bool p.1, .slice p.2.1 p.2.2.1 p.2.2.2]] wr fun e w' => e = .returned (.int .i64 zs) /\ Below wr.heap.size wr w') := Lib.hid (by rw [<- hzs]; exact RSign_c (av p) x L wr hn (by have := HLL.out; omega));have HX := Lib.hid hx;have HN := Lib.hid hn;clear hx hn;by_cases hx0 : x = 0
       · have t1 : (zs == 0) = true := by rw [<- hzs]; exact zs_zero hx0
         have hz2 := Lib.hid (fun b' (h : b' < j + 1) => (by
          by_cases e : b' = j
          · subst e; rw [HX.out, hx0]
          · exact hz.out b' (by omega) : matE xs r c i b' = 0))
         clear hzs hx0;go_wp2_with fail
         refine HSg.out.mono ?_;rintro e w5 ⟨rfl, hb5⟩;have HB5 := Lib.hid (hBq.out.trans (hb5.mono hBq.out.size));clear hb5;go_wp2;go_roundw
         case rel => exact ⟨j + 1, by omega, by go_num, hz2, HB5⟩
         case measure => simp [intOf]; omega
       · have t1 : (zs == 0) = false := by rw [<- hzs]; exact zs_ne hx0
         have HX0 := Lib.hid hx0;clear hzs hx0;go_wp2_with fail
         refine HSg.out.mono ?_;rintro e w5 ⟨rfl, hb5⟩;have HB5 := Lib.hid (hBq.out.trans (hb5.mono hBq.out.size));have HBW5 := Lib.hid (HBw.out.trans (hb5.mono HBw.out.size));have f1 := (R1.out.below HBW5.out R1.out.lt).cell 1;have f2 := (R1.out.below HBW5.out R1.out.lt).cell 2;simp only [List.getElem?_cons_zero, List.getElem?_cons_succ] at f1 f2;have d0 := (hb5.cell (p := ⟨b, o + q * 2, none⟩) hbb).trans c0;have d1 := (hb5.cell (p := ⟨b, o + q * 2 + 1, none⟩) hbb).trans c1;have hbb5 : b < w5.heap.size := Nat.lt_of_lt_of_le hbb hb5.size;have HN5 := Lib.hid (IntAt.below HN.out hb5);have hjn : ((j : Int) == (c : Int)) = false := by simp; omega
         have rP := RowAt.new w5 #[.bool p.1, .slice p.2.1 p.2.2.1 p.2.2.2] 45;have hb6 : Below w5.heap.size w5 (w5.alloc (.cells #[.bool p.1, .slice p.2.1 p.2.2.1 p.2.2.2] 45)) := (Below.refl _ _).alloc (Nat.le_refl _) _;have HIL : Hid (IsLead c (matE xs r c) i j) := Lib.hid ⟨by omega, hz.out, fun _ => by rw [HX.out]; exact HX0.out⟩;clear hb5 c0 c1 k1 k2 HSg HN hbb;go_wp2_with fail
         generalize w5.alloc (.cells #[.bool p.1, .slice p.2.1 p.2.2.1 p.2.2.2] 45) = w6 at *;obtain ⟨zs', hzs'⟩ : ∃ zs', zsign x = zs' := ⟨_, rfl⟩;have hsg := RSign_c (av p) x L w6 (IntAt.below HN5.out hb6) (by have := HLL.out; omega);rw [hzs'] at hsg;refine hsg.mono ?_;rintro e w7 ⟨rfl, hb7⟩;have RP := Lib.hid (rP.below hb7 rP.lt);have HB7 := Lib.hid (HB5.out.trans ((hb6.trans (hb7.mono hb6.size)).mono HB5.out.size));have HBW7 := Lib.hid (HBl0.out.trans (HB7.out.mono HBl0.out.size));have HBf := Lib.hid (B2.out.trans (HBW7.out.mono B2.out.size));have hs5 : w5.heap.size < w7.heap.size := RP.out.lt;have HNx7 := Lib.hid (IntAt.below (IntAt.below HN5.out hb6) hb7);have HOwn7 := Lib.hid (ownsRow_below hOwn.out HB7.out);clear hsg hb6 hb7 rP d0 d1 f1 f2 HB5 HBW5;by_cases hxn : x < 0
         · have t2 : decide (zs' < 0) = true := by rw [<- hzs']; unfold zsign; rw [if_pos hxn]; rfl
           have hno := Lib.hid (fun h : HF r c (matE xs r c) => by have := (h.row hir HIL.out hjc hPV.out.fi).2.1; rw [HX.out] at this; omega : HF r c (matE xs r c) -> False);clear hzs' hxn;go_wp2;go_ret2;exact ⟨⟨_, false, rfl, (fun h => by cases h), fun _ => hno.out⟩, HBf.out⟩
         · have t2 : decide (zs' < 0) = false := by rw [<- hzs']; unfold zsign; rw [if_neg hxn]; split <;> rfl
           have hxp : 0 < x := by have := HX0.out; omega
           have HXP := Lib.hid hxp;clear hzs' hxn hxp;obtain ⟨ao', cap', rfl, hcell⟩ := own_form HOwn7.out;have HC := Lib.hid hcell; clear hcell;have p0 := RP.out.cell 0;have p1 := RP.out.cell 1;simp only [List.getElem?_cons_zero, List.getElem?_cons_succ] at p0 p1;have hlen : ls.length <= 64 := by rw [hPV.out.len]; omega
           by_cases hlast : lastP ls < (j : Int)
           · have HLA := Lib.hid hlast;have hnl : ls.length = 0 ∨ ∃ k, ls.length = k + 1 /\ ls.getD k 0 < j := by
              rcases Nat.eq_zero_or_pos ls.length with e | e
              · exact .inl e
              · refine .inr ⟨ls.length - 1, by omega, ?_⟩;unfold lastP at hlast;rw [if_neg (by omega)] at hlast;omega
             clear hlast;rcases hnl with hn0 | ⟨k, hn0, hk⟩
             · obtain rfl : ls = [] := List.eq_nil_of_length_eq_zero hn0;clear hn0 HC;go_wp2;go_loopw [9] (fun a_ wq => ∃ (a : Nat), a <= i /\ a_ = .int .i64 (a : Int) /\ Hid (∀ a', a' < a -> 0 <= matE xs r c a' j /\ matE xs r c a' j < x) /\ Hid (Below w7.heap.size w7 wq)) (fun a_ _ => i - (intOf a_).toNat)
               case atStart => exact ⟨0, Nat.zero_le _, rfl, Lib.hid (fun a' h => by omega), Lib.hid (Below.refl _ _)⟩
               case round =>
                obtain ⟨a, ha, rfl, hag, hBa⟩ := hrel;have hBw := HBW7.out.trans (hBa.out.mono HBW7.out.size);by_cases hai : a < i
                · have hai1 : (a : Int) < (i : Int) := by omega
                  have k1 := (R1.out.below hBw R1.out.lt).cell 1;have k2 := (R1.out.below hBw R1.out.lt).cell 2;simp only [List.getElem?_cons_zero, List.getElem?_cons_succ] at k1 k2;have hLS := HXS.out.below hBw;have HBw' := Lib.hid hBw; clear hBw;have har : a < r := by omega
                  have hqx' : a * c + j < xs.length := by rw [HS.out]; exact idx_lt har hjc
                  obtain ⟨P', hP'⟩ : ∃ P', a * c = P' := ⟨_, rfl⟩;have hv1 : IntKind.i64.wrap ((a : Int) * (c : Int)) = (P' : Int) := by
                   rw [<- Int.natCast_mul, hP']; exact wrap_small (by omega) (by omega)
                  rw [hP'] at hqx';have hE' : matE xs r c a j = xs[P' + j]'hqx' := by
                   unfold matE;rw [if_pos ⟨har, hjc⟩, hP', List.getD_eq_getElem?_getD, List.getElem?_eq_getElem hqx']; rfl
                  obtain ⟨q', hq'⟩ : ∃ q', q' = P' + j := ⟨_, rfl⟩;have hv2 : IntKind.i64.wrap ((P' : Int) + (j : Int)) = (q' : Int) := by
                   rw [<- Int.natCast_add, <- hq']; exact wrap_small (by omega) (by omega)
                  obtain ⟨b', o', he, hbb', hcl⟩ := hLS (by omega);have he2 : b = b' /\ o = o' := by injection he with h1; injection h1 with h2 h3; exact ⟨h2, h3⟩
                  rw [<- he2.1, <- he2.2] at hcl;rw [<- he2.1] at hbb';obtain ⟨p', c0, c1, hn⟩ := hcl (P' + j) hqx';rw [<- hE'] at hn;rw [<- hq'] at c0 c1 hqx';have hqx1' : (q' : Int) < (xs.length : Int) := by omega
                  have p0 := (RP.out.below hBa.out RP.out.lt).cell 0;have p1 := (RP.out.below hBa.out RP.out.lt).cell 1;have RPa := Lib.hid (RP.out.below hBa.out RP.out.lt);simp only [List.getElem?_cons_zero, List.getElem?_cons_succ] at p0 p1;clear hcl hLS hP' hE' hq' he he2 p0 p1;obtain ⟨y, hy⟩ : ∃ y, matE xs r c a j = y := ⟨_, rfl⟩;rw [hy] at hn;have HY := Lib.hid hy;have HNy := Lib.hid hn;have rX := RowAt.new wr #[.bool p'.1, .slice p'.2.1 p'.2.2.1 p'.2.2.2] 45;have hb8 : Below wr.heap.size wr (wr.alloc (.cells #[.bool p'.1, .slice p'.2.1 p'.2.2.1 p'.2.2.2] 45)) := (Below.refl _ _).alloc (Nat.le_refl _) _;clear hy hn;go_wp2_with fail
                  generalize wr.alloc (.cells #[.bool p'.1, .slice p'.2.1 p'.2.2.1 p'.2.2.2] 45) = w8 at *;obtain ⟨ys, hys⟩ : ∃ ys, zsign y = ys := ⟨_, rfl⟩;have hsg := RSign_c (av p') y L w8 (IntAt.below HNy.out hb8) (by have := HLL.out; omega);rw [hys] at hsg;refine hsg.mono ?_;rintro e w9 ⟨rfl, hb9⟩;have RX := Lib.hid (rX.below hb9 rX.lt);have hb89 := hb8.trans (hb9.mono hb8.size);have HB9 := Lib.hid (hBa.out.trans (hb89.mono hBa.out.size));have HBf9 := Lib.hid (HBf.out.trans (HB9.out.mono HBf.out.size));have hs9 : wr.heap.size < w9.heap.size := RX.out.lt;have x0 := RX.out.cell 0;have x1 := RX.out.cell 1;have p0 := (RPa.out.below hb89 RPa.out.lt).cell 0;have p1 := (RPa.out.below hb89 RPa.out.lt).cell 1;simp only [List.getElem?_cons_zero, List.getElem?_cons_succ] at x0 x1 p0 p1;have HY9 := Lib.hid (IntAt.below HNy.out hb89);have HX9 := Lib.hid (IntAt.below (IntAt.below HNx7.out hBa.out) hb89);clear hsg hb8 hb9 hb89 rX c0 c1 k1 k2 hbb';by_cases hyn : y < 0
                  · have t8 : decide (ys < 0) = true := by rw [<- hys]; unfold zsign; rw [if_pos hyn]; rfl
                    have hno := Lib.hid (fun h : HF r c (matE xs r c) => by have := (h.row hir HIL.out hjc hPV.out.fi).2.2 a hai; rw [HY.out] at this; omega : HF r c (matE xs r c) -> False);clear hys hyn;go_wp2;go_ret2;exact ⟨⟨_, false, rfl, (fun h => by cases h), fun _ => hno.out⟩, HBf9.out⟩
                  · have t8 : decide (ys < 0) = false := by rw [<- hys]; unfold zsign; rw [if_neg hyn]; split <;> rfl
                    obtain ⟨zc, hzc⟩ : ∃ zc, zcmp y x = zc := ⟨_, rfl⟩;have hcm := RCmp_c (av p') (av p) y x L w9 HY9.out HX9.out HLL.out;rw [hzc] at hcm;have HCM := Lib.hid hcm;have HYN := Lib.hid hyn;clear hys hyn hcm;go_wp2_with fail
                    refine HCM.out.mono ?_;rintro e w10 ⟨rfl, hb10⟩;have HB10 := Lib.hid (HB9.out.trans (hb10.mono HB9.out.size));have HBf10 := Lib.hid (HBf9.out.trans (hb10.mono HBf9.out.size));clear hb10 x0 x1 p0 p1;by_cases hyx : y < x
                    · have t9 : decide (0 <= zc) = false := by rw [<- hzc]; unfold zcmp; rw [if_pos hyx]; rfl
                      have HYX := Lib.hid hyx;clear hzc hyx;go_wp2;go_roundw
                      case rel => exact ⟨a + 1, by omega, by go_num, Lib.hid (fun a' h => by
                       by_cases e : a' = a
                       · subst e; rw [HY.out]; exact ⟨by have := HYN.out; omega, HYX.out⟩
                       · exact hag.out a' (by omega)), HB10⟩
                      case measure => simp [intOf]; omega
                    · have t9 : decide (0 <= zc) = true := by rw [<- hzc]; unfold zcmp; rw [if_neg hyx]; split <;> rfl
                      have hno := Lib.hid (fun h : HF r c (matE xs r c) => by have := (h.row hir HIL.out hjc hPV.out.fi).2.2 a hai; rw [HY.out, HX.out] at this; omega : HF r c (matE xs r c) -> False);clear hzc hyx;go_wp2;go_ret2;exact ⟨⟨_, false, rfl, (fun h => by cases h), fun _ => hno.out⟩, HBf10.out⟩
                · obtain rfl : a = i := by omega
                  have hOwn9 := ownsRow_below HOwn7.out hBa.out;have HPN := Lib.hid (hPV.out.next HIL.out hjc HLA.out (by rw [HX.out]; exact HXP.out) (fun a' h => by rw [HX.out]; exact hag.out a' h));have HBo := Lib.hid hBw;have hsz : w.heap.size + 1 <= wr.heap.size := by have := hBw.size; omega
                  clear hBw;go_wp2_with (at_builtin; refine wpList_append_own _ rfl _ _ 33 rfl (w.heap.size + 1) 3 i0 (.int .i64 0) 1 8 Tryz.underlying33 hi0 hz0 hz1 hz2 rfl (by decide) _ _ _ rfl (hOwn9.alloc _) ⟨wr.heap.size, 0, none⟩ 1 1 [.int .i64 (j : Int)] rfl rfl (cell_one_new _ _ _) (by simp [Value.oneCell']) (by unfold maxLen; omega) (by omega) (by simp; omega) ?_; intro v' w11 hown' hgrow' hnil')
                  have hb12 := Lib.hid (Below.grown (HBo.out.alloc HBo.out.size _) hgrow' (HBo.out.alloc HBo.out.size _).size (fun k hk => by have h1 := own_ge hOwn9 k hk; have h2 := HS2.out; omega));have hown'' := Lib.hid hown';clear hown' hgrow' hnil';go_roundw
                  case rel => exact ⟨a + 1, _ ++ [j], by omega, by go_num, Lib.hid (by have h9 := hown''.out; simpa [litsN] using h9), HPN, hb12⟩
                  case measure => simp [intOf]; omega
             · obtain ⟨g, rfl, hg, hcl⟩ := HC.out (by omega);have l0 := hcl k (by omega);obtain ⟨yl, hyl⟩ : ∃ y, ls.getD k 0 = y := ⟨_, rfl⟩;rw [hyl] at l0 hk;have t4 : decide ((0 : Int) < (ls.length : Int)) = true := decide_eq_true (by omega);have t5 : IntKind.i64.wrap ((ls.length : Int) - 1) = (k : Int) := by rw [hn0]; rw [show ((k + 1 : Nat) : Int) - 1 = (k : Int) by omega]; exact wrap_small (by omega) (by omega)
               have t6 : decide ((j : Int) <= (yl : Int)) = false := by simp; omega
               have t7 : (k : Int) < (ls.length : Int) := by omega
               have t6' : decide (j <= yl) = false := decide_eq_false (by omega);clear hn0 hcl hyl HC;go_wp2;go_loopw [9] (fun a_ wq => ∃ (a : Nat), a <= i /\ a_ = .int .i64 (a : Int) /\ Hid (∀ a', a' < a -> 0 <= matE xs r c a' j /\ matE xs r c a' j < x) /\ Hid (Below w7.heap.size w7 wq)) (fun a_ _ => i - (intOf a_).toNat)
               case atStart => exact ⟨0, Nat.zero_le _, rfl, Lib.hid (fun a' h => by omega), Lib.hid (Below.refl _ _)⟩
               case round =>
                obtain ⟨a, ha, rfl, hag, hBa⟩ := hrel;have hBw := HBW7.out.trans (hBa.out.mono HBW7.out.size);by_cases hai : a < i
                · have hai1 : (a : Int) < (i : Int) := by omega
                  have k1 := (R1.out.below hBw R1.out.lt).cell 1;have k2 := (R1.out.below hBw R1.out.lt).cell 2;simp only [List.getElem?_cons_zero, List.getElem?_cons_succ] at k1 k2;have hLS := HXS.out.below hBw;have HBw' := Lib.hid hBw; clear hBw;have har : a < r := by omega
                  have hqx' : a * c + j < xs.length := by rw [HS.out]; exact idx_lt har hjc
                  obtain ⟨P', hP'⟩ : ∃ P', a * c = P' := ⟨_, rfl⟩;have hv1 : IntKind.i64.wrap ((a : Int) * (c : Int)) = (P' : Int) := by
                   rw [<- Int.natCast_mul, hP']; exact wrap_small (by omega) (by omega)
                  rw [hP'] at hqx';have hE' : matE xs r c a j = xs[P' + j]'hqx' := by
                   unfold matE;rw [if_pos ⟨har, hjc⟩, hP', List.getD_eq_getElem?_getD, List.getElem?_eq_getElem hqx']; rfl
                  obtain ⟨q', hq'⟩ : ∃ q', q' = P' + j := ⟨_, rfl⟩;have hv2 : IntKind.i64.wrap ((P' : Int) + (j : Int)) = (q' : Int) := by
                   rw [<- Int.natCast_add, <- hq']; exact wrap_small (by omega) (by omega)
                  obtain ⟨b', o', he, hbb', hcl⟩ := hLS (by omega);have he2 : b = b' /\ o = o' := by injection he with h1; injection h1 with h2 h3; exact ⟨h2, h3⟩
                  rw [<- he2.1, <- he2.2] at hcl;rw [<- he2.1] at hbb';obtain ⟨p', c0, c1, hn⟩ := hcl (P' + j) hqx';rw [<- hE'] at hn;rw [<- hq'] at c0 c1 hqx';have hqx1' : (q' : Int) < (xs.length : Int) := by omega
                  have p0 := (RP.out.below hBa.out RP.out.lt).cell 0;have p1 := (RP.out.below hBa.out RP.out.lt).cell 1;have RPa := Lib.hid (RP.out.below hBa.out RP.out.lt);simp only [List.getElem?_cons_zero, List.getElem?_cons_succ] at p0 p1;clear hcl hLS hP' hE' hq' he he2 p0 p1;obtain ⟨y, hy⟩ : ∃ y, matE xs r c a j = y := ⟨_, rfl⟩;rw [hy] at hn;have HY := Lib.hid hy;have HNy := Lib.hid hn;have rX := RowAt.new wr #[.bool p'.1, .slice p'.2.1 p'.2.2.1 p'.2.2.2] 45;have hb8 : Below wr.heap.size wr (wr.alloc (.cells #[.bool p'.1, .slice p'.2.1 p'.2.2.1 p'.2.2.2] 45)) := (Below.refl _ _).alloc (Nat.le_refl _) _;clear hy hn;go_wp2_with fail
                  generalize wr.alloc (.cells #[.bool p'.1, .slice p'.2.1 p'.2.2.1 p'.2.2.2] 45) = w8 at *;obtain ⟨ys, hys⟩ : ∃ ys, zsign y = ys := ⟨_, rfl⟩;have hsg := RSign_c (av p') y L w8 (IntAt.below HNy.out hb8) (by have := HLL.out; omega);rw [hys] at hsg;refine hsg.mono ?_;rintro e w9 ⟨rfl, hb9⟩;have RX := Lib.hid (rX.below hb9 rX.lt);have hb89 := hb8.trans (hb9.mono hb8.size);have HB9 := Lib.hid (hBa.out.trans (hb89.mono hBa.out.size));have HBf9 := Lib.hid (HBf.out.trans (HB9.out.mono HBf.out.size));have hs9 : wr.heap.size < w9.heap.size := RX.out.lt;have x0 := RX.out.cell 0;have x1 := RX.out.cell 1;have p0 := (RPa.out.below hb89 RPa.out.lt).cell 0;have p1 := (RPa.out.below hb89 RPa.out.lt).cell 1;simp only [List.getElem?_cons_zero, List.getElem?_cons_succ] at x0 x1 p0 p1;have HY9 := Lib.hid (IntAt.below HNy.out hb89);have HX9 := Lib.hid (IntAt.below (IntAt.below HNx7.out hBa.out) hb89);clear hsg hb8 hb9 hb89 rX c0 c1 k1 k2 hbb';by_cases hyn : y < 0
                  · have t8 : decide (ys < 0) = true := by rw [<- hys]; unfold zsign; rw [if_pos hyn]; rfl
                    have hno := Lib.hid (fun h : HF r c (matE xs r c) => by have := (h.row hir HIL.out hjc hPV.out.fi).2.2 a hai; rw [HY.out] at this; omega : HF r c (matE xs r c) -> False);clear hys hyn;go_wp2;go_ret2;exact ⟨⟨_, false, rfl, (fun h => by cases h), fun _ => hno.out⟩, HBf9.out⟩
                  · have t8 : decide (ys < 0) = false := by rw [<- hys]; unfold zsign; rw [if_neg hyn]; split <;> rfl
                    obtain ⟨zc, hzc⟩ : ∃ zc, zcmp y x = zc := ⟨_, rfl⟩;have hcm := RCmp_c (av p') (av p) y x L w9 HY9.out HX9.out HLL.out;rw [hzc] at hcm;have HCM := Lib.hid hcm;have HYN := Lib.hid hyn;clear hys hyn hcm;go_wp2_with fail
                    refine HCM.out.mono ?_;rintro e w10 ⟨rfl, hb10⟩;have HB10 := Lib.hid (HB9.out.trans (hb10.mono HB9.out.size));have HBf10 := Lib.hid (HBf9.out.trans (hb10.mono HBf9.out.size));clear hb10 x0 x1 p0 p1;by_cases hyx : y < x
                    · have t9 : decide (0 <= zc) = false := by rw [<- hzc]; unfold zcmp; rw [if_pos hyx]; rfl
                      have HYX := Lib.hid hyx;clear hzc hyx;go_wp2;go_roundw
                      case rel => exact ⟨a + 1, by omega, by go_num, Lib.hid (fun a' h => by
                       by_cases e : a' = a
                       · subst e; rw [HY.out]; exact ⟨by have := HYN.out; omega, HYX.out⟩
                       · exact hag.out a' (by omega)), HB10⟩
                      case measure => simp [intOf]; omega
                    · have t9 : decide (0 <= zc) = true := by rw [<- hzc]; unfold zcmp; rw [if_neg hyx]; split <;> rfl
                      have hno := Lib.hid (fun h : HF r c (matE xs r c) => by have := (h.row hir HIL.out hjc hPV.out.fi).2.2 a hai; rw [HY.out, HX.out] at this; omega : HF r c (matE xs r c) -> False);clear hzc hyx;go_wp2;go_ret2;exact ⟨⟨_, false, rfl, (fun h => by cases h), fun _ => hno.out⟩, HBf10.out⟩
                · obtain rfl : a = i := by omega
                  have hOwn9 := ownsRow_below HOwn7.out hBa.out;have HPN := Lib.hid (hPV.out.next HIL.out hjc HLA.out (by rw [HX.out]; exact HXP.out) (fun a' h => by rw [HX.out]; exact hag.out a' h));have HBo := Lib.hid hBw;have hsz : w.heap.size + 1 <= wr.heap.size := by have := hBw.size; omega
                  clear hBw;go_wp2_with (at_builtin; refine wpList_append_own _ rfl _ _ 33 rfl (w.heap.size + 1) 3 i0 (.int .i64 0) 1 8 Tryz.underlying33 hi0 hz0 hz1 hz2 rfl (by decide) _ _ _ rfl (hOwn9.alloc _) ⟨wr.heap.size, 0, none⟩ 1 1 [.int .i64 (j : Int)] rfl rfl (cell_one_new _ _ _) (by simp [Value.oneCell']) (by unfold maxLen; omega) (by omega) (by simp; omega) ?_; intro v' w11 hown' hgrow' hnil')
                  have hb12 := Lib.hid (Below.grown (HBo.out.alloc HBo.out.size _) hgrow' (HBo.out.alloc HBo.out.size _).size (fun k hk => by have h1 := own_ge hOwn9 k hk; have h2 := HS2.out; omega));have hown'' := Lib.hid hown';clear hown' hgrow' hnil';go_roundw
                  case rel => exact ⟨a + 1, _ ++ [j], by omega, by go_num, Lib.hid (by have h9 := hown''.out; simpa [litsN] using h9), HPN, hb12⟩
                  case measure => simp [intOf]; omega
           · have hno := Lib.hid (fun h : HF r c (matE xs r c) => by have := (h.row hir HIL.out hjc hPV.out.fi).1; omega : HF r c (matE xs r c) -> False);obtain ⟨k, hn0, hk⟩ : ∃ k, ls.length = k + 1 /\ j <= ls.getD k 0 := by
              unfold lastP at hlast;by_cases e : ls.length = 0
              · rw [if_pos e] at hlast; omega
              · rw [if_neg e] at hlast; exact ⟨ls.length - 1, by omega, by omega⟩
             obtain ⟨g, rfl, hg, hcl⟩ := HC.out (by omega);have l0 := hcl k (by omega);obtain ⟨y, hy⟩ : ∃ y, ls.getD k 0 = y := ⟨_, rfl⟩;rw [hy] at l0 hk;have HN0 := Lib.hid (And.intro hn0 hy);obtain ⟨n, hn⟩ : ∃ n, ls.length = n := ⟨_, rfl⟩;clear hlast hcl hy HC;have t4 : decide ((0 : Int) < (ls.length : Int)) = true := decide_eq_true (by omega);have t5 : IntKind.i64.wrap ((ls.length : Int) - 1) = (k : Int) := by rw [hn0]; rw [show ((k + 1 : Nat) : Int) - 1 = (k : Int) by omega]; exact wrap_small (by omega) (by omega)
             have t6 : decide ((j : Int) <= (y : Int)) = true := by simpa using hk
             have t7 : (k : Int) < (ls.length : Int) := by omega
             clear hn hn0;go_wp2;go_ret2;exact ⟨⟨_, false, rfl, (fun h => by cases h), fun _ => hno.out⟩, HBf.out⟩
     · obtain rfl : j = c := by omega
       obtain ⟨P, hP⟩ : ∃ P, i * j = P := ⟨_, rfl⟩;have hPx : P <= xs.length := by rw [HS.out, <- hP]; exact Nat.mul_le_mul_right _ hi
       have hw1 : IntKind.i64.wrap ((i : Int) * (j : Int)) = (P : Int) := by
        rw [<- Int.natCast_mul, hP]; exact wrap_small (by omega) (by omega)
       have HP := Lib.hid hP;have hj0 : ((j : Int) == (j : Int)) = true := by simp
       have hrow0 : ∀ b, matE xs r j i b = 0 := fun b => by
        by_cases e : b < j
        · exact hz.out b e
        · unfold matE; rw [if_neg (by omega)]
       have HR0 := Lib.hid hrow0;have HOw := Lib.hid (ownsRow_below hOwn.out hBq.out);clear hP hrow0;go_wp2;go_loopw [7] (fun q_ wq => ∃ (q : Nat), P <= q /\ q <= xs.length /\ q_ = .int .i64 (q : Int) /\ Hid (∀ u, P <= u -> u < q -> xs.getD u 0 = 0) /\ Hid (Below wr.heap.size wr wq)) (fun q_ _ => xs.length - (intOf q_).toNat)
       case atStart => exact ⟨P, Nat.le_refl _, hPx, rfl, Lib.hid (fun u h1 h2 => by omega), Lib.hid (Below.refl _ _)⟩
       case round =>
        obtain ⟨q, hPq, hqx, rfl, hzq, hBa⟩ := hrel;have hBw := HBw.out.trans (hBa.out.mono HBw.out.size);have k2 := (R1.out.below hBw R1.out.lt).cell 2;simp only [List.getElem?_cons_zero, List.getElem?_cons_succ] at k2;have HBf := Lib.hid (B2.out.trans (hBw.mono B2.out.size));by_cases hqn : q < xs.length
        · have hqn1 : (q : Int) < (xs.length : Int) := by omega
          have hLS := HXS.out.below hBw;obtain ⟨b, o, hao, hbb, hcl⟩ := hLS (by omega);subst hao;obtain ⟨p, c0, c1, hn⟩ := hcl q hqn;obtain ⟨x, hx⟩ : ∃ x, xs[q] = x := ⟨_, rfl⟩;rw [hx] at hn;have hxd : xs.getD q 0 = x := by rw [List.getD_eq_getElem?_getD, List.getElem?_eq_getElem hqn, <- hx]; rfl
          have HX := Lib.hid hxd;obtain ⟨zs, hzs⟩ : ∃ zs, zsign x = zs := ⟨_, rfl⟩;have hsg := RSign_c (av p) x L wr hn (by have := HLL.out; omega);rw [hzs] at hsg;have HSg : Hid (Calls Tryz.prog 45 #[.agg #[.bool p.1, .slice p.2.1 p.2.2.1 p.2.2.2]] wr fun e w' => e = .returned (.int .i64 zs) /\ Below wr.heap.size wr w') := Lib.hid hsg;clear hcl hLS hn hx hxd hsg;by_cases hx0 : x = 0
          · have t1 : (zs != 0) = false := by rw [bne, <- hzs, zs_zero hx0]; rfl
            have HX0 := Lib.hid hx0;clear hzs hx0;go_wp2_with fail
            refine HSg.out.mono ?_;rintro e w5 ⟨rfl, hb5⟩;have HB5 := Lib.hid (hBa.out.trans (hb5.mono hBa.out.size));clear hb5;go_wp2;go_roundw
            case rel => exact ⟨q + 1, by omega, by omega, by go_num, Lib.hid (fun u h1 h2 => by
             by_cases e : u = q
             · subst e; rw [HX.out]; exact HX0.out
             · exact hzq.out u h1 (by omega)), HB5⟩
            case measure => simp [intOf]; omega
          · have t1 : (zs != 0) = true := by rw [bne, <- hzs, zs_ne hx0]; rfl
            have hno := Lib.hid (fun h : HF r j (matE xs r j) => flat_no HS.out hqn (by rw [HX.out]; exact hx0) (h.zeros hir HR0.out) (by rw [HP.out]; exact hPq) : HF r j (matE xs r j) -> False);clear hzs hx0;go_wp2_with fail
            refine HSg.out.mono ?_;rintro e w5 ⟨rfl, hb5⟩;have HB5 := Lib.hid (HBf.out.trans (hb5.mono HBf.out.size));clear hb5;go_wp2;go_ret2;exact ⟨⟨_, false, rfl, (fun h => by cases h), fun _ => hno.out⟩, HB5.out⟩
        · obtain rfl : q = xs.length := by omega
          have HF0 : Hid (Pvs r j (matE xs r j) ls) := Lib.hid ⟨i, hi, hPV.out, flat_zero (r := r) (by rw [HP.out]; exact hzq.out) HS.out⟩;have HOw2 := Lib.hid (ownsRow_below HOw.out hBa.out);go_wp2;go_ret2;exact ⟨⟨_, true, rfl, fun _ => ⟨ls, HF0.out, World.ownsRow.mono HOw2.out (Nat.le_succ _)⟩, fun h => by cases h⟩, HBf.out⟩
  · obtain rfl : i = r := by omega
    have HF0 : Hid (Pvs i c (matE xs i c) ls) := Lib.hid ⟨i, Nat.le_refl _, hPV.out, fun a h1 h2 => by omega⟩;go_wp2;go_ret2;exact ⟨⟨_, true, rfl, fun _ => ⟨ls, HF0.out, World.ownsRow.mono hOwn.out (Nat.le_succ _)⟩, fun h => by cases h⟩, B2.out.trans (hBl.out.mono B2.out.size)⟩
theorem LsAt.up {w : World} {L L' : Nat} {ao : Option Addr} {xs : List Int} (h : LsAt w L ao xs) (hL : L <= L') : LsAt w L' ao xs := fun hl => by
 obtain ⟨b, o, e, hlt, hc⟩ := h hl;exact ⟨b, o, e, hlt, fun i hi => by obtain ⟨p, h0, h1, hn⟩ := hc i hi; exact ⟨p, h0, h1, hn.mono hL⟩⟩
def PVz (c : Nat) (E : Nat -> Nat -> Int) (i : Nat) (ls : List Nat) : Prop := ∃ i0, i0 <= i /\ PV c E i0 ls /\ ∀ a, i0 <= a -> a < i -> ∀ b, E a b = 0
theorem PVz.start (c : Nat) (E : Nat -> Nat -> Int) : PVz c E 0 [] := ⟨0, Nat.le_refl _, PV.start c E, fun a h1 h2 => by omega⟩
theorem PVz.zero {c : Nat} {E : Nat -> Nat -> Int} {i : Nat} {ls : List Nat} (h : PVz c E i ls) (hz : ∀ b, E i b = 0) : PVz c E (i + 1) ls := by
 obtain ⟨i0, h0, hp, h1⟩ := h;refine ⟨i0, by omega, hp, fun a ha hb => ?_⟩;by_cases e : a = i
 · subst e; exact hz
 · exact h1 a ha (by omega)
theorem PVz.next {r c : Nat} {E : Nat -> Nat -> Int} {i j : Nat} {ls : List Nat} (h : PVz c E i ls) (hF : HF r c E) (hi : i < r) (hl : IsLead c E i j) (hj : j < c) : PVz c E (i + 1) (ls ++ [j]) := by
 obtain ⟨i0, h0, hp, h1⟩ := h;obtain rfl : i0 = i := by
  by_cases e : i0 < i
  · exact absurd (hF.zeros (by omega : i0 < r) (h1 i0 (Nat.le_refl _) e) i (by omega) hi j) (hl.ne hj)
  · omega
 obtain ⟨a1, a2, a3⟩ := hF.row hi hl hj hp.fi;exact ⟨i0 + 1, Nat.le_refl _, hp.next hl hj a1 a2 a3, fun a ha hb => by omega⟩
theorem PVz.len {c : Nat} {E : Nat -> Nat -> Int} {i : Nat} {ls : List Nat} (h : PVz c E i ls) : ls.length <= i := by
 obtain ⟨i0, h0, hp, _⟩ := h;rw [hp.len]; exact h0
set_option maxRecDepth 100000 in
set_option maxHeartbeats 4000000 in
theorem PivH_c (r c m : Nat) (ao : Option Addr) (len cap : Nat) (xs : List Int) (w : World) (hr : r <= 64) (hc : c <= 64) (h : LsAt w 17592186044415 ao xs) (hm : ∀ x ∈ xs, wlen x.natAbs <= m) (hm1 : m <= 8796093022208) (hl : len = xs.length) (hs : xs.length = r * c) (hF : HF r c (matE xs r c)) :
 Calls Tryz.prog 18 #[.agg #[.int .i64 (r : Int), .int .i64 (c : Int), .slice ao len cap]] w fun e w' => (∃ v ls, e = .returned (.tuple #[v, .int .i64 0]) /\ Pvs r c (matE xs r c) ls /\ w'.ownsRow w.heap.size 3 1 v ls.length (litsN ls) ) /\ Below w.heap.size w w' := by
 subst hl;have hwl : ∀ x ∈ xs, wlen x.natAbs <= 17592186044415 := fun x hx => Nat.le_trans (hm x hx) (by omega);have HI := Lib.hid (fun w2 (h2 : LsAt w2 17592186044415 ao xs) => IsForm_c r c m ao xs.length cap xs w2 hr hc h2 hm hm1 rfl hs);have HWL := Lib.hid hwl; clear hwl;have HS := Lib.hid hs; clear hs;have HM := Lib.hid hm; clear hm;have HF0 := Lib.hid hF; clear hF;have r1 := RowAt.new w #[.int .i64 (r : Int), .int .i64 (c : Int), .slice ao xs.length cap] 24;have hb : Below w.heap.size w (w.alloc (.cells #[.int .i64 (r : Int), .int .i64 (c : Int), .slice ao xs.length cap] 24)) := (Below.refl _ _).alloc (Nat.le_refl _) _;have HXS := Lib.hid (h.below hb); clear h;obtain ⟨i0, hi0, hz0, hz1, hz2⟩ := info_parts info_intP;go_enter Tryz.func18, Tryz.ntmps18;go_wp2_with fail
 generalize w.alloc (.cells #[.int .i64 (r : Int), .int .i64 (c : Int), .slice ao xs.length cap] 24) = w2 at *;refine (HI.out w2 HXS.out).mono ?_;rintro e w3 ⟨⟨t, rfl, ht⟩, hb3⟩;obtain rfl : t = true := ht.2 HF0.out;clear ht;have R1 := Lib.hid (r1.below hb3 r1.lt);have L3 := Lib.hid (HXS.out.below hb3);have B3 := Lib.hid (hb.trans (hb3.mono hb.size));have e0 := R1.out.cell 0;have e1 := R1.out.cell 1;have e2 := R1.out.cell 2;have hs3 : w.heap.size < w3.heap.size := R1.out.lt;clear r1 hb hb3 HI;go_wp2_with fail
 refine (callsIn_wide.1 (lines_c r c ao xs.length cap xs w3 hr hc L3.out HWL.out rfl HS.out)).mono ?_;rintro e w4 ⟨⟨o, R, rfl, hM, hRl, hRx, hob, hRb⟩, hb4⟩;obtain ⟨hSh, hE⟩ := ent_rows hRl HS.out hRx;have hbd : ∀ q ∈ R, ∀ x ∈ q.xs, wlen x.natAbs <= m := fun q hq x hx => by
  obtain ⟨k, hk, rfl⟩ := List.getElem_of_mem hq;rw [hRx k hk] at hx;exact HM.out x (List.mem_of_mem_drop (List.mem_of_mem_take hx))
 have hHF : HF r c (ent R) := HF0.out.congr (fun a _ b => hE a b);have HH := Lib.hid (And.intro hSh (And.intro hE (And.intro hbd hHF)));have HMN := Lib.hid hM; clear hM;have R14 := Lib.hid (R1.out.below hb4 R1.out.lt);have B4 := Lib.hid (B3.out.trans (hb4.mono B3.out.size));have HRl := Lib.hid hRl;have hs4 : w.heap.size < w4.heap.size := R14.out.lt;clear hb4 e0 e1 e2 hSh hE hRx hbd R1 L3 B3 hob hRb hHF;rw [hRl];clear hRl;go_wp2;go_loopw [6, 23] (fun v i_ wr => ∃ (i : Nat) (ls : List Nat), i <= r /\ i_ = .int .i64 (i : Int) /\ Hid (PVz c (ent R) i ls) /\ Hid (wr.ownsRow w4.heap.size 3 1 v ls.length (litsN ls)) /\ Hid (Below w4.heap.size w4 wr)) (fun _ i_ _ => r - (intOf i_).toNat)
 case atStart => exact ⟨0, [], Nat.zero_le _, rfl, Lib.hid (PVz.start c _), Lib.hid (World.ownsRow_nil _ _ _ _), Lib.hid (Below.refl _ _)⟩
 case round =>
  obtain ⟨i, ls, hi, rfl, hPV, hOwn, hBl⟩ := hrel;by_cases hin : i < r
  · have hin1 : (i : Int) < (r : Int) := by omega
    have hiR : i < R.length := by rw [HRl.out]; exact hin
    have hM' := HMN.out.below hBl.out;have c0 := hM'.hdr hiR;have hxl : R[i].xs.length = c := HH.out.1.get hiR;unfold Hd.hdr at c0;have hlead := Lead_c R[i].blk R[i].cap R[i].xs wr (hM'.row _ (List.getElem_mem hiR)) (fun x hx => Nat.le_trans (HH.out.2.2.1 _ (List.getElem_mem hiR) x hx) (by omega)) (by omega);have hle := leadOf_eq hiR;rw [<- hle] at hlead;rw [hxl] at c0 hlead;have hIL := isLead_of hiR HH.out.1;obtain ⟨j, hj⟩ : ∃ j, leadOf R i = j := ⟨_, rfl⟩;rw [hj] at hlead hIL;have HLead := Lib.hid hlead; clear hlead;have HIL := Lib.hid hIL;have hjc : j <= c := hIL.le;have g1 := (R14.out.below hBl.out R14.out.lt).cell 1;simp only [List.getElem?_cons_zero, List.getElem?_cons_succ] at g1;clear hIL hle hj hxl;go_wp2_with fail
    refine HLead.out.mono ?_;rintro e w5 ⟨rfl, hb5⟩;have B5 := Lib.hid (hBl.out.trans (hb5.mono hBl.out.size));have g1' := (R14.out.below B5.out R14.out.lt).cell 1;simp only [List.getElem?_cons_zero, List.getElem?_cons_succ] at g1';have Own5 := Lib.hid (ownsRow_below hOwn.out hb5);have hs5 := B5.out.size;clear hb5 g1 c0 hBl hOwn;by_cases hjl : j = c
    · subst hjl;have hs2 := Lib.hid (hPV.out.zero (fun b => by
       by_cases e : b < j
       · exact HIL.out.zero b e
       · exact HH.out.1.wide i (by omega)))
      have hjj : decide ((j : Int) < (j : Int)) = false := by simp
      have hjj2 : decide (j < j) = false := by simp
      go_wp2;go_roundw
      case rel => exact ⟨i + 1, ls, by omega, by go_num, hs2, Own5, B5⟩
      case measure => simp [intOf]; omega
    · have hjn : (j : Int) < (c : Int) := by omega
      have hs2 := Lib.hid (hPV.out.next HH.out.2.2.2 hin HIL.out (by omega));have hll := hPV.out.len;go_wp2_with (at_builtin; refine wpList_append_own _ rfl _ _ 33 rfl w4.heap.size 3 i0 (.int .i64 0) 1 8 Tryz.underlying33 hi0 hz0 hz1 hz2 rfl (by decide) _ _ _ rfl (Own5.out.alloc _) ⟨w5.heap.size, 0, none⟩ 1 1 [.int .i64 (j : Int)] rfl rfl (cell_one_new _ _ _) (by simp [Value.oneCell']) (by unfold maxLen; omega) (by omega) (by simp; omega) ?_; intro v' w11 hown' hgrow' hnil')
      have hb12 := Lib.hid (Below.grown (B5.out.alloc B5.out.size _) hgrow' (B5.out.alloc B5.out.size _).size (fun k hk => own_ge Own5.out k hk));have hown'' := Lib.hid hown';clear hown' hgrow' hnil';go_roundw
      case rel => exact ⟨i + 1, ls ++ [j], by omega, by go_num, hs2, Lib.hid (by have h9 := hown''.out; simpa [litsN] using h9), hb12⟩
      case measure => simp [intOf]; omega
  · obtain rfl : i = r := by omega
    have HP := Lib.hid (show Pvs i c (matE xs i c) ls from by
     obtain ⟨k, hk, hp, hz⟩ := hPV.out;exact ⟨k, hk, ⟨hp.len, hp.herm.congr (fun a ha b => (HH.out.2.1 a b).symm)⟩, fun a h1 h2 b => by rw [<- HH.out.2.1]; exact hz a h1 h2 b⟩)
    go_wp2;go_ret2;exact ⟨⟨_, ls, rfl, HP.out, World.ownsRow.mono hOwn.out (by omega)⟩, B4.out.trans (hBl.out.mono B4.out.size)⟩
set_option maxRecDepth 100000 in
set_option maxHeartbeats 4000000 in
theorem Open_c (r c m : Nat) (ao : Option Addr) (len cap : Nat) (xs : List Int) (av : Option Addr) (kv : Nat) (w : World) (hr : r <= 64) (hc : c <= 64) (h : LsAt w 17592186044415 ao xs) (hm : ∀ x ∈ xs, wlen x.natAbs <= m) (hm1 : m <= 8796093022208) (hl : len = xs.length) (hs : xs.length = r * c) (hF : HF r c (matE xs r c)) :
 Calls Tryz.prog 68 #[.agg #[.int .i64 (r : Int), .int .i64 (c : Int), .slice ao len cap], .slice av c kv] w fun e w' => (∃ v ls, e = .returned (.tuple #[v, .int .i64 0]) /\ Pvs r c (matE xs r c) ls /\ w'.ownsRow w.heap.size 3 1 v ls.length (litsN ls)) /\ Below w.heap.size w w' := by
 subst hl;have hsnd : soundM (r : Int) (c : Int) xs.length = true := by
  unfold soundM sideOk;rw [hs]; simp; omega
 have HCK := Lib.hid (chkM_ok hsnd); clear hsnd;have HP := Lib.hid (fun w2 (h2 : LsAt w2 17592186044415 ao xs) => PivH_c r c m ao xs.length cap xs w2 hr hc h2 hm hm1 rfl hs hF);have hcc : ((c : Int) != (c : Int)) = false := by simp
 clear hm hs hF;have HX_0 : Hid (LsAt w 17592186044415 ao xs) := Lib.hid (h);have b_0 : Hid (Below w.heap.size w w) := Lib.hid (Below.refl _ _);clear h;go_enter Tryz.func68, Tryz.ntmps68;have r_ := RowAt.new w #[.int .i64 (r : Int), .int .i64 (c : Int), .slice ao xs.length cap] 24;have hb_ : Below w.heap.size w (w.alloc (.cells #[.int .i64 (r : Int), .int .i64 (c : Int), .slice ao xs.length cap] 24)) := (Below.refl _ _).alloc (Nat.le_refl _) _;go_wp2_with fail
 generalize w.alloc (.cells #[.int .i64 (r : Int), .int .i64 (c : Int), .slice ao xs.length cap] 24) = w1 at *;have HX_1 := Lib.hid (LsAt.below (w := w) HX_0.out (hb_));have b_1 := Lib.hid (b_0.out.trans (Below.mono hb_ b_0.out.size));have sz_1 := (hb_).size;clear HX_0 b_0;have A_1 : Hid (RowAt w1 (w.heap.size) 24 [.int .i64 (r : Int), .int .i64 (c : Int), .slice ao xs.length cap]) := Lib.hid (r_);clear r_ hb_;refine (Check_c (r : Int) (c : Int) ao xs.length cap _ (by omega) (by omega)).mono ?_;rintro e w2 ⟨rfl, hb_⟩;have HX_2 := Lib.hid (LsAt.below (w := w1) HX_1.out (hb_));have A_2 := Lib.hid (RowAt.below (w := w1) A_1.out (hb_) A_1.out.lt);have b_2 := Lib.hid (b_1.out.trans (Below.mono hb_ b_1.out.size));have sz_2 := (hb_).size;clear HX_1 A_1 b_1;clear hb_;rw [HCK.out];have l2_A : w.heap.size < w2.heap.size := A_2.out.lt;have c2_A0 : w2.cell? ⟨w.heap.size, 0, none⟩ = some (.int .i64 (r : Int)) := A_2.out.cell 0;have c2_A1 : w2.cell? ⟨w.heap.size, 1, none⟩ = some (.int .i64 (c : Int)) := A_2.out.cell 1;have c2_A2 : w2.cell? ⟨w.heap.size, 2, none⟩ = some (.slice ao xs.length cap) := A_2.out.cell 2;go_wp2_with fail
 clear l2_A c2_A0 c2_A1 c2_A2;refine (HP.out w2 HX_2.out).mono ?_;rintro e w3 ⟨⟨v, ls, rfl, hP, hO⟩, hb_⟩;have HX_3 := Lib.hid (LsAt.below (w := w2) HX_2.out (hb_));have A_3 := Lib.hid (RowAt.below (w := w2) A_2.out (hb_) A_2.out.lt);have b_3 := Lib.hid (b_2.out.trans (Below.mono hb_ b_2.out.size));have sz_3 := (hb_).size;clear HX_2 A_2 b_2;clear hb_;have HPO := Lib.hid (And.intro hP hO);clear hP hO HP;go_wp2;go_ret2;exact ⟨⟨v, ls, rfl, HPO.out.1, World.ownsRow.mono HPO.out.2 (by omega)⟩, b_3.out⟩
end Go.Proofs.YtknkkceioockjaaGreat
namespace Go.Proofs.YtknkkceioockjaaGreat
end Go.Proofs.YtknkkceioockjaaGreat
namespace Go.Proofs.YtknkkceioockjaaGreat
open Go.RowKit
theorem Pvs.len {r c : Nat} {E : Nat -> Nat -> Int} {ls : List Nat} (h : Pvs r c E ls) : ls.length <= r := by
 obtain ⟨i, hi, hp, _⟩ := h;rw [hp.len]; exact hi
theorem Pvs.ech {r c : Nat} {E : Nat -> Nat -> Int} {ls : List Nat} (h : Pvs r c E ls) : Herm ls.length c E (fun a => ls.getD a 0) := by
 obtain ⟨i, hi, hp, _⟩ := h;rw [hp.len]; exact hp.herm
theorem getD_set {xs : List Int} {k : Nat} (hk : k < xs.length) (x : Int) (b : Nat) : (xs.set k x).getD b 0 = if b = k then x else xs.getD b 0 := by
 rw [List.getD_eq_getElem?_getD, List.getD_eq_getElem?_getD, List.getElem?_set];by_cases e : b = k
 · subst e; simp [hk]
 · rw [if_neg (fun h => e h.symm), if_neg e]
def vm (us : List Int) (E : Nat -> Nat -> Int) (j : Nat) : Nat -> Int := fun k => sm k (fun a => us.getD a 0 * E a j)
theorem vm_succ (us : List Int) (E : Nat -> Nat -> Int) (j k : Nat) : vm us E j (k + 1) = us.getD k 0 * E k j + vm us E j k := by
 show vm us E j k + us.getD k 0 * E k j = _;omega
theorem vm_bd {us : List Int} {xs : List Int} {r c mu m j : Nat} (hu : ∀ x ∈ us, x.natAbs < W ^ mu) (hm : ∀ x ∈ xs, x.natAbs < W ^ m) (k : Nat) (hk : k <= 64) : (vm us (matE xs r c) j k).natAbs < W ^ (mu + m + 1) := by
 have h1 : (vm us (matE xs r c) j k).natAbs <= k * (W ^ mu * W ^ m) := sm_abs (fun a _ => by
  rw [Int.natAbs_mul];refine Nat.mul_le_mul ?_ (Nat.le_of_lt (matE_bound (Nat.pow_pos (by decide)) hm a j));rw [List.getD_eq_getElem?_getD];by_cases h : a < us.length
  · rw [List.getElem?_eq_getElem h]; exact Nat.le_of_lt (hu _ (List.getElem_mem h))
  · rw [List.getElem?_eq_none (by omega)]; exact Nat.zero_le _)
 have hp : 0 < W ^ mu * W ^ m := Nat.mul_pos (Nat.pow_pos (by decide)) (Nat.pow_pos (by decide));have e : W ^ (mu + m + 1) = W ^ mu * W ^ m * W := by rw [Nat.pow_succ, Nat.pow_add]
 have h2 : k * (W ^ mu * W ^ m) <= 64 * (W ^ mu * W ^ m) := Nat.mul_le_mul_right _ hk;have h3 : (W ^ mu * W ^ m) * 65 <= W ^ mu * W ^ m * W := Nat.mul_le_mul_left _ (by decide);rw [e]; omega
set_option maxRecDepth 100000 in
set_option maxHeartbeats 8000000 in
theorem VecMul_c (r c m mu : Nat) (ax : Option Addr) (kx : Nat) (us : List Int) (ao : Option Addr) (len cap : Nat) (xs : List Int) (w : World) (hr : r <= 64) (hc : c <= 64) (hu : LsAt w 549755813888 ax us) (hul : us.length = r) (hub : ∀ x ∈ us, x.natAbs < W ^ mu)
 (h : LsAt w 549755813888 ao xs) (hm : ∀ x ∈ xs, x.natAbs < W ^ m) (hl : len = xs.length) (hs : xs.length = r * c) (hmm : mu + m + 1 <= 549755813888) :
 Calls Tryz.prog 32 #[.slice ax r kx, .agg #[.int .i64 (r : Int), .int .i64 (c : Int), .slice ao len cap]] w fun e w' => (∃ b ys, e = .returned (.tuple #[.slice (some ⟨b, 0, none⟩) c c, .int .i64 0]) /\ w.heap.size <= b /\ RowN w' b ys /\ ys.length = c /\ ∀ j, j < c -> ys.getD j 0 = vm us (matE xs r c) j r) /\ Below w.heap.size w w' := by
 subst hl;have HC := Lib.hid (fun w2 => M9Check_c r c ao xs.length cap w2 hr hc hs);have HXW := Lib.hid (And.intro hm hub);have HUL := Lib.hid hul;have HMM := Lib.hid hmm;have HS := Lib.hid hs;have hrr : ((r : Int) != (r : Int)) = false := by simp
 clear hm hub hul hmm hs;have HX_0 : Hid (LsAt w 549755813888 ao xs) := Lib.hid (h);have HU_0 : Hid (LsAt w 549755813888 ax us) := Lib.hid (hu);have b_0 : Hid (Below w.heap.size w w) := Lib.hid (Below.refl _ _);clear h hu;go_enter Tryz.func32, Tryz.ntmps32;have r_ := RowAt.new w #[.int .i64 (r : Int), .int .i64 (c : Int), .slice ao xs.length cap] 24;have hb_ : Below w.heap.size w (w.alloc (.cells #[.int .i64 (r : Int), .int .i64 (c : Int), .slice ao xs.length cap] 24)) := (Below.refl _ _).alloc (Nat.le_refl _) _;go_wp2_with fail
 generalize w.alloc (.cells #[.int .i64 (r : Int), .int .i64 (c : Int), .slice ao xs.length cap] 24) = w1 at *;have HX_1 := Lib.hid (LsAt.below (w := w) HX_0.out (hb_));have HU_1 := Lib.hid (LsAt.below (w := w) HU_0.out (hb_));have b_1 := Lib.hid (b_0.out.trans (Below.mono hb_ b_0.out.size));have sz_1 := (hb_).size;clear HX_0 HU_0 b_0;have A_1 : Hid (RowAt w1 (w.heap.size) 24 [.int .i64 (r : Int), .int .i64 (c : Int), .slice ao xs.length cap]) := Lib.hid (r_);clear r_ hb_;refine (HC.out w1).mono ?_;rintro e w3 ⟨rfl, hb_⟩;have HX_2 := Lib.hid (LsAt.below (w := w1) HX_1.out (hb_));have HU_2 := Lib.hid (LsAt.below (w := w1) HU_1.out (hb_));have A_2 := Lib.hid (RowAt.below (w := w1) A_1.out (hb_) A_1.out.lt);have b_2 := Lib.hid (b_1.out.trans (Below.mono hb_ b_1.out.size));have sz_2 := (hb_).size;clear HX_1 HU_1 A_1 b_1;clear hb_;have HA := A_2;have hal : w.heap.size < w3.heap.size := HA.out.lt;have z0 := HA.out.cell 0;have z1 := HA.out.cell 1;simp only [List.getElem?_cons_zero, List.getElem?_cons_succ] at z0 z1;go_wp2_with (at_make; refine mk_nums rfl _ _ rfl c c rfl rfl (by omega) (by omega) (Nat.le_refl _) (by omega) ?_; intro b1 w4 hm4)
 have hb1 : w3.heap.size <= b1 := by have := hm4.at_; omega
 have R4 := Lib.hid (RowN.zeros hm4.row);have B4 := Lib.hid hm4.below;clear hm4 z0 z1 hrr;go_wp2;go_loopw [8] (fun j_ wr => ∃ (j : Nat) (ys : List Int), j <= c /\ j_ = .int .i64 (j : Int) /\ Hid (ys.length = c) /\ Hid (∀ b, b < c -> ys.getD b 0 = if b < j then vm us (matE xs r c) b r else 0) /\ Hid (RowN wr b1 ys) /\ Hid (Below w3.heap.size w3 wr)) (fun j_ _ => c - (intOf j_).toNat)
 case atStart => exact ⟨0, _, Nat.zero_le _, rfl, Lib.hid (by simp), Lib.hid (fun b hb => by rw [if_neg (by omega), List.getD_eq_getElem?_getD, List.getElem?_replicate]; split <;> rfl), R4, B4⟩
 case round =>
  obtain ⟨j, ys, hj, rfl, hyl, hy, hX, hB⟩ := hrel;have A1 := RowAt.below HA.out hB.out HA.out.lt;have ca1 : wr.cell? ⟨w.heap.size, 1, none⟩ = some (.int .i64 (c : Int)) := A1.cell 1;clear A1;by_cases hjc : j < c
  · have hjc1 : (j : Int) < (c : Int) := by omega
    go_wp2;clear ca1;go_loopw [9] (fun k_ wq => ∃ (k : Nat) (zs : List Int), k <= r /\ k_ = .int .i64 (k : Int) /\ Hid (zs.length = c) /\ Hid (∀ b, b < c -> zs.getD b 0 = if b < j then vm us (matE xs r c) b r else if b = j then vm us (matE xs r c) j k else 0) /\ Hid (RowN wq b1 zs) /\ Hid (Below w3.heap.size w3 wq)) (fun k_ _ => r - (intOf k_).toNat)
    case atStart => exact ⟨0, ys, Nat.zero_le _, rfl, hyl, Lib.hid (fun b hb => by
     rw [hy.out b hb];by_cases e : b < j
     · rw [if_pos e, if_pos e]
     · rw [if_neg e, if_neg e];by_cases e2 : b = j
       · rw [if_pos e2]; rfl
       · rw [if_neg e2]), hX, hB⟩
    case round =>
     obtain ⟨k, zs, hk, rfl, hzl, hz, hX, hB⟩ := hrel;have A1 := RowAt.below HA.out hB.out HA.out.lt;have ca0 : wr.cell? ⟨w.heap.size, 0, none⟩ = some (.int .i64 (r : Int)) := A1.cell 0;have ca1 : wr.cell? ⟨w.heap.size, 1, none⟩ = some (.int .i64 (c : Int)) := A1.cell 1;have ca2 : wr.cell? ⟨w.heap.size, 2, none⟩ = some (.slice ao xs.length cap) := A1.cell 2;clear A1;by_cases hkr : k < r
     · have hkr1 : (k : Int) < (r : Int) := by omega
       have hku : k < us.length := by rw [HUL.out]; exact hkr
       have hjz : j < zs.length := by rw [hzl.out]; exact hjc
       have hQ := idx_lt hkr hjc;have hrc : r * c <= 4096 := Nat.mul_le_mul hr hc;obtain ⟨bu, ou, hax, hbu, huc⟩ := HU_2.out (by omega);subst hax;obtain ⟨pu, u0, u1, hnu⟩ := huc k hku;obtain ⟨bx, ox, hao, hbx, hxc⟩ := HX_2.out (by rw [HS.out]; omega);subst hao;obtain ⟨px, x0, x1, hnx⟩ := hxc (k * c + j) (by rw [HS.out]; exact hQ);have hxe : xs[k * c + j]'(by rw [HS.out]; exact hQ) = matE xs r c k j := by rw [matE_eq hkr hjc, List.getD_eq_getElem?_getD, List.getElem?_eq_getElem (by rw [HS.out]; exact hQ)]; rfl
       have hue : us[k] = us.getD k 0 := by rw [List.getD_eq_getElem?_getD, List.getElem?_eq_getElem hku]; rfl
       obtain ⟨P, hPe⟩ : ∃ P, k * c = P := ⟨_, rfl⟩;have hw1 : IntKind.i64.wrap ((k : Int) * (c : Int)) = (P : Int) := by
        rw [<- Int.natCast_mul, hPe]; exact wrap_small (by omega) (by omega)
       rw [hxe] at hnx;rw [hue] at hnu;rw [hPe] at x0 x1 hQ;obtain ⟨Q1, hQ1⟩ : ∃ q, P + j = q := ⟨_, rfl⟩;rw [hQ1] at x0 x1 hQ;have hv1 : IntKind.i64.wrap ((P : Int) + (j : Int)) = (Q1 : Int) := by
        rw [<- Int.natCast_add, hQ1]; exact wrap_small (by omega) (by omega)
       have hxl1 : (Q1 : Int) < (xs.length : Int) := by rw [HS.out]; omega
       obtain ⟨uu, huu⟩ : ∃ u, us.getD k 0 = u := ⟨_, rfl⟩;obtain ⟨xx, hxx⟩ : ∃ x, matE xs r c k j = x := ⟨_, rfl⟩;obtain ⟨yy, hyy⟩ : ∃ y, vm us (matE xs r c) j k = y := ⟨_, rfl⟩;rw [huu] at hnu;rw [hxx] at hnx;obtain ⟨py, y0, y1, hny⟩ := hX.out.get hjz;have hye : zs[j] = yy := by have := hz.out j hjc; rw [if_neg (by omega), if_pos rfl, List.getD_eq_getElem?_getD, List.getElem?_eq_getElem hjz] at this; rw [<- hyy]; exact this
       rw [hye] at hny;have hwy : wlen yy.natAbs <= 549755813888 := by rw [<- hyy]; exact Nat.le_trans (wlen_le_of_lt (vm_bd HXW.out.2 HXW.out.1 k (by omega))) HMM.out
       have HV := Lib.hid (And.intro huu (And.intro hxx hyy));have NU := Lib.hid (hnu.below hB.out);have NX := Lib.hid (hnx.below hB.out);have NY := Lib.hid (hny.int hwy);have cu0 := (hB.out.cell (p := ⟨bu, ou + k * 2, none⟩) hbu).trans u0;have cu1 := (hB.out.cell (p := ⟨bu, ou + k * 2 + 1, none⟩) hbu).trans u1;have cx0 := (hB.out.cell (p := ⟨bx, ox + Q1 * 2, none⟩) hbx).trans x0;have cx1 := (hB.out.cell (p := ⟨bx, ox + Q1 * 2 + 1, none⟩) hbx).trans x1;have hs9 := hB.out.size;have hl1 : b1 < wr.heap.size := hX.out.lt;have hbu9 : bu < wr.heap.size := Nat.lt_of_lt_of_le hbu hs9;have hbx9 : bx < wr.heap.size := Nat.lt_of_lt_of_le hbx hs9;clear hnu hnx hny hxe hue hPe hQ1 huu hxx hyy hye hwy x0 x1 u0 u1 huc hxc;go_wp2;clear ca0;refine wp_region_K ⟨22, fun q_ => [35, 36, 37, 38, 39, 40, 41, 42, 43, 44, 45, 46, 47, 48, 49, 50, 51, 52, 53, 54, 55, 56].getD q_ 0,
        fun q_ => [.val (.slice (some ⟨b1, 0, none⟩) c c), .val (.int .i64 (j : Int)), .val (.slice (some ⟨bu, ou, none⟩) r kx), .val (.int .i64 (k : Int)), .val (.pointer (some ⟨bu, ou + k * 2, none⟩)), .val (.agg #[.bool pu.1, .slice pu.2.1 pu.2.2.1 pu.2.2.2]), .val (.pointer (some ⟨w.heap.size, 2, none⟩)), .val (.slice (some ⟨bx, ox, none⟩) xs.length cap), .val (.int .i64 (k : Int)), .val (.pointer (some ⟨w.heap.size, 1, none⟩)), .val (.int .i64 (c : Int)), .val (.int .i64 (P : Int)), .val (.int .i64 (j : Int)), .val (.int .i64 (Q1 : Int)), .val (.pointer (some ⟨bx, ox + Q1 * 2, none⟩)), .val (.agg #[.bool px.1, .slice px.2.1 px.2.2.1 px.2.2.2]), .val (.slice (some ⟨b1, 0, none⟩) c c), .val (.int .i64 (j : Int)), .val (.pointer (some ⟨b1, j * 2, none⟩)), .val (.agg #[.bool py.1, .slice py.2.1 py.2.2.1 py.2.2.2]), .int 0 (uu * xx + yy), .val (.pointer (some ⟨b1, j * 2, none⟩))].getD q_ .any,
        [],
        [(.agg #[.bool pu.1, .slice pu.2.1 pu.2.2.1 pu.2.2.2], .at_ 549755813888 uu), (.agg #[.bool px.1, .slice px.2.1 px.2.2.1 px.2.2.2], .at_ 549755813888 xx), (.agg #[.bool py.1, .slice py.2.1 py.2.2.1 py.2.2.2], .at_ 549755813888 yy)],
        [],
        [], [(⟨w.heap.size, 1, none⟩, .int .i64 (c : Int)), (⟨w.heap.size, 2, none⟩, .slice (some ⟨bx, ox, none⟩) xs.length cap), (⟨bu, ou + k * 2, none⟩, .bool pu.1), (⟨bu, ou + k * 2 + 1, none⟩, .slice pu.2.1 pu.2.2.1 pu.2.2.2), (⟨bx, ox + Q1 * 2, none⟩, .bool px.1), (⟨bx, ox + Q1 * 2 + 1, none⟩, .slice px.2.1 px.2.2.1 px.2.2.2), (⟨b1, j * 2, none⟩, .bool py.1), (⟨b1, j * 2 + 1, none⟩, .slice py.2.1 py.2.2.1 py.2.2.2)], []⟩ [35, 36, 37, 38, 39, 40, 41, 42, 43, 44, 45, 46, 47, 48, 49, 50, 51, 52, 53, 54, 55, 56] (wr.heap.size) (by kernel_rfl) (by kernel_rfl) (by kernel_rfl) (by kernel_rfl) (by kernel_rfl) ?_ ?_ ?_ ?_ ?_ ?_
       · intro p hp;rcases mc hp with rfl | hp
         · exact NU.out
         rcases mc hp with rfl | hp
         · exact NX.out
         rcases mc hp with rfl | hp
         · exact NY.out
         cases hp
       · intro p hp;cases hp
       · intro p hp;rcases mc hp with rfl | hp
         · refine ⟨ca1, by show w.heap.size < wr.heap.size; omega, ?_⟩;intro t ht;cases ht
         rcases mc hp with rfl | hp
         · refine ⟨ca2, by show w.heap.size < wr.heap.size; omega, ?_⟩;intro t ht;cases ht
         rcases mc hp with rfl | hp
         · refine ⟨cu0, by show bu < wr.heap.size; omega, ?_⟩;intro t ht;cases ht
         rcases mc hp with rfl | hp
         · refine ⟨cu1, by show bu < wr.heap.size; omega, ?_⟩;intro t ht;cases ht
         rcases mc hp with rfl | hp
         · refine ⟨cx0, by show bx < wr.heap.size; omega, ?_⟩;intro t ht;cases ht
         rcases mc hp with rfl | hp
         · refine ⟨cx1, by show bx < wr.heap.size; omega, ?_⟩;intro t ht;cases ht
         rcases mc hp with rfl | hp
         · refine ⟨y0, by show b1 < wr.heap.size; omega, ?_⟩;intro t ht;cases ht
         rcases mc hp with rfl | hp
         · refine ⟨y1, by show b1 < wr.heap.size; omega, ?_⟩;intro t ht;cases ht
         cases hp
       · intro t ht;cases ht
       · refine allc ?_ (allc ?_ (allc ?_ (allc ?_ (allc ?_ (allc ?_ (allc ?_ (allc ?_ (allc ?_ (allc ?_ (allc ?_ (allc ?_ (allc ?_ (allc ?_ (allc ?_ (allc ?_ (allc ?_ (allc ?_ (allc ?_ (allc ?_ (allc ?_ (allc ?_ alln)))))))))))))))))))));any_goals (first | (intro L fx w' hJ hL hp hcl; have _ := hp0 hp (by decide +kernel); refine wps rfl fun K hK => ?_; go_simp; exact hJ.q hK (by kernel_rfl) rfl) | fail)
         · intro L fx w' hJ hL hp hcl;have e2 := hJ.pt 2 37 (.slice (some ⟨bu, ou, none⟩) r kx) rfl rfl rfl (hp 2 (by decide));rw [e2] at hJ ⊢; clear e2;have e3 := hJ.pt 3 38 (.int .i64 (k : Int)) rfl rfl rfl (hp 3 (by decide));rw [e3] at hJ ⊢; clear e3;refine wps rfl fun K hK => ?_;go_simp;exact hJ.q hK (by kernel_rfl) rfl
         · intro L fx w' hJ hL hp hcl;have e4 := hJ.pt 4 39 (.pointer (some ⟨bu, ou + k * 2, none⟩)) rfl rfl rfl (hp 4 (by decide));rw [e4] at hJ ⊢; clear e4;refine wps rfl fun K hK => ?_;have cl0 := (hJ.cells _ mm2).1;have cl1 := (hJ.cells _ mm3).1;try dsimp only at cl0 cl1
           go_simp;exact hJ.q hK (by kernel_rfl) rfl
         · intro L fx w' hJ hL hp hcl;have e6 := hJ.pt 6 41 (.pointer (some ⟨w.heap.size, 2, none⟩)) rfl rfl rfl (hp 6 (by decide));rw [e6] at hJ ⊢; clear e6;refine wps rfl fun K hK => ?_;have cl0 := (hJ.cells _ mm1).1;try dsimp only at cl0
           go_simp;exact hJ.q hK (by kernel_rfl) rfl
         · intro L fx w' hJ hL hp hcl;have e9 := hJ.pt 9 44 (.pointer (some ⟨w.heap.size, 1, none⟩)) rfl rfl rfl (hp 9 (by decide));rw [e9] at hJ ⊢; clear e9;refine wps rfl fun K hK => ?_;have cl0 := (hJ.cells _ mm0).1;try dsimp only at cl0
           go_simp;exact hJ.q hK (by kernel_rfl) rfl
         · intro L fx w' hJ hL hp hcl;have e8 := hJ.pt 8 43 (.int .i64 (k : Int)) rfl rfl rfl (hp 8 (by decide));rw [e8] at hJ ⊢; clear e8;have e10 := hJ.pt 10 45 (.int .i64 (c : Int)) rfl rfl rfl (hp 10 (by decide));rw [e10] at hJ ⊢; clear e10;refine wps rfl fun K hK => ?_;go_simp;exact hJ.q hK (by kernel_rfl) rfl
         · intro L fx w' hJ hL hp hcl;have e11 := hJ.pt 11 46 (.int .i64 (P : Int)) rfl rfl rfl (hp 11 (by decide));rw [e11] at hJ ⊢; clear e11;have e12 := hJ.pt 12 47 (.int .i64 (j : Int)) rfl rfl rfl (hp 12 (by decide));rw [e12] at hJ ⊢; clear e12;refine wps rfl fun K hK => ?_;go_simp;exact hJ.q hK (by kernel_rfl) rfl
         · intro L fx w' hJ hL hp hcl;have e7 := hJ.pt 7 42 (.slice (some ⟨bx, ox, none⟩) xs.length cap) rfl rfl rfl (hp 7 (by decide));rw [e7] at hJ ⊢; clear e7;have e13 := hJ.pt 13 48 (.int .i64 (Q1 : Int)) rfl rfl rfl (hp 13 (by decide));rw [e13] at hJ ⊢; clear e13;refine wps rfl fun K hK => ?_;go_simp;exact hJ.q hK (by kernel_rfl) rfl
         · intro L fx w' hJ hL hp hcl;have e14 := hJ.pt 14 49 (.pointer (some ⟨bx, ox + Q1 * 2, none⟩)) rfl rfl rfl (hp 14 (by decide));rw [e14] at hJ ⊢; clear e14;refine wps rfl fun K hK => ?_;have cl0 := (hJ.cells _ mm4).1;have cl1 := (hJ.cells _ mm5).1;try dsimp only at cl0 cl1
           go_simp;exact hJ.q hK (by kernel_rfl) rfl
         · intro L fx w' hJ hL hp hcl;have e16 := hJ.pt 16 51 (.slice (some ⟨b1, 0, none⟩) c c) rfl rfl rfl (hp 16 (by decide));rw [e16] at hJ ⊢; clear e16;have e17 := hJ.pt 17 52 (.int .i64 (j : Int)) rfl rfl rfl (hp 17 (by decide));rw [e17] at hJ ⊢; clear e17;refine wps rfl fun K hK => ?_;go_simp;exact hJ.q hK (by kernel_rfl) rfl
         · intro L fx w' hJ hL hp hcl;have e18 := hJ.pt 18 53 (.pointer (some ⟨b1, j * 2, none⟩)) rfl rfl rfl (hp 18 (by decide));rw [e18] at hJ ⊢; clear e18;refine wps rfl fun K hK => ?_;have cl0 := (hJ.cells _ mm6).1;have cl1 := (hJ.cells _ mm7).1;try dsimp only at cl0 cl1
           go_simp;exact hJ.q hK (by kernel_rfl) rfl
         · intro L fx w' hJ hL hp hcl;have e5 := hJ.pt 5 40 (.agg #[.bool pu.1, .slice pu.2.1 pu.2.2.1 pu.2.2.2]) rfl rfl rfl (hp 5 (by decide));rw [e5] at hJ ⊢; clear e5;have e15 := hJ.pt 15 50 (.agg #[.bool px.1, .slice px.2.1 px.2.2.1 px.2.2.2]) rfl rfl rfl (hp 15 (by decide));rw [e15] at hJ ⊢; clear e15;have e19 := hJ.pt 19 54 (.agg #[.bool py.1, .slice py.2.1 py.2.2.1 py.2.2.2]) rfl rfl rfl (hp 19 (by decide));rw [e19] at hJ ⊢; clear e19;refine wps rfl fun K hK => ?_;go_simp;go_at_call 40;refine (RMulAdd_c _ _ _ uu xx yy _ _ (show IntAt w' _ _ _ from hJ.base _ mm0) (show IntAt w' _ _ _ from hJ.base _ mm1) (show IntAt w' _ _ _ from hJ.base _ mm2) (Nat.le_refl _)).mono ?_;rintro e w4 ⟨⟨v5, rfl, h5⟩, hb4⟩;try dsimp only
           exact hK _ _ ⟨_, by kernel_rfl, hJ.gC 20 rfl (by kernel_rfl) hb4 (OwnI.mono h5 (Nat.zero_le _)) (by omega)⟩
         · intro L fx w' hJ hL hp hcl;have e0 := hJ.pt 0 35 (.slice (some ⟨b1, 0, none⟩) c c) rfl rfl rfl (hp 0 (by decide));rw [e0] at hJ ⊢; clear e0;have e1 := hJ.pt 1 36 (.int .i64 (j : Int)) rfl rfl rfl (hp 1 (by decide));rw [e1] at hJ ⊢; clear e1;refine wps rfl fun K hK => ?_;go_simp;exact hJ.q hK (by kernel_rfl) rfl
       · intro L x' w7 hL hJ;have hfr : Below wr.drew.heap.size wr.drew w7 := hJ.fr;have e18 : OwnI w7 0 (x' 55) (uu * xx + yy) := hJ.slot 20 (by show 20 < 22; decide) (hL 20 (by show 20 < 22; decide));have e19 : x' 56 = .pointer (some ⟨b1, j * 2, none⟩) := hJ.slot 21 (by show 21 < 22; decide) (hL 21 (by show 21 < 22; decide));obtain ⟨pw, hpw⟩ := NumAt.parts e18.num;rw [hpw] at e18;unfold av at hpw;rw [patchX (x := x') (d := 55) hpw];rw [patchX (x := updX x' 55 (.agg #[.bool pw.1, .slice pw.2.1 pw.2.2.1 pw.2.2.2])) (d := 56) (v := .pointer (some ⟨b1, j * 2, none⟩)) e19];clear hJ hL ca1 ca2 cu0 cu1 cx0 cx1 y0 y1;have X7 := Lib.hid (RowN.below (w := wr.drew) hX.out hfr);have B7 := hB.out.trans (((Below.refl w3.heap.size wr).drew).trans (hfr.mono hB.out.size));have B8 := Lib.hid ((B7.setCell (p := ⟨b1, j * 2, none⟩) hb1 (.bool pw.1)).setCell (p := ⟨b1, j * 2 + 1, none⟩) hb1 (.slice pw.2.1 pw.2.2.1 pw.2.2.2));have X8 := Lib.hid (X7.out.set j e18.num);have HZ8 := Lib.hid (show ∀ b, b < c -> (zs.set j (uu * xx + yy)).getD b 0 = if b < j then vm us (matE xs r c) b r else if b = j then vm us (matE xs r c) j (k + 1) else 0 from fun b hb => by
          rw [getD_set hjz];by_cases e : b = j
          · subst e;rw [if_pos rfl, if_neg (by omega), if_pos rfl, vm_succ, HV.out.1, HV.out.2.1, HV.out.2.2]
          · rw [if_neg e, hz.out b hb, if_neg e, if_neg e])
         clear B7 e18;obtain ⟨pq, q0, q1, _⟩ := X7.out.get (i := j) (by omega);have q2 := X7.out.free (j * 2);have q3 := X7.out.free (j * 2 + 1);refine wpOp_step rfl (fun KK hKK => ?_);go_simp;refine hKK _ _ ⟨⟨updX (updX x' 55 (.agg #[.bool pw.1, .slice pw.2.1 pw.2.2.1 pw.2.2.2])) 56 (.pointer (some ⟨b1, j * 2, none⟩)), by kernel_rfl⟩, ?_⟩;clear hKK q0 q1 q2 q3;go_wp2;go_roundw
         case rel => exact ⟨k + 1, zs.set j (uu * xx + yy), by omega, by go_num, Lib.hid (by simpa using hzl.out), HZ8, X8, B8⟩
         case measure => simp [intOf]; omega
     · obtain rfl : k = r := by omega
       have HZ8 := Lib.hid (show ∀ b, b < c -> zs.getD b 0 = if b < j + 1 then vm us (matE xs k c) b k else 0 from fun b hb => by
        rw [hz.out b hb];by_cases e : b < j
        · rw [if_pos e, if_pos (by omega)]
        · by_cases e2 : b = j
          · subst e2; rw [if_neg e, if_pos rfl, if_pos (by omega)]
          · rw [if_neg e, if_neg e2, if_neg (by omega)])
       clear ca1 ca2;go_wp2;go_roundw
       case rel => exact ⟨j + 1, zs, by omega, by go_num, hzl, HZ8, hX, hB⟩
       case measure => simp [intOf]; omega
  · obtain rfl : j = c := by omega
    have HZ9 := Lib.hid (show ∀ b, b < j -> ys.getD b 0 = vm us (matE xs r j) b r from fun b hb => by rw [hy.out b hb, if_pos hb]);go_wp2;go_ret2;exact ⟨⟨b1, ys, rfl, by omega, hX.out, hyl.out, HZ9.out⟩, b_2.out.trans (hB.out.mono b_2.out.size)⟩
end Go.Proofs.YtknkkceioockjaaGreat
namespace Go.Proofs.YtknkkceioockjaaGreat
theorem Pvs.zero {r c : Nat} {E : Nat -> Nat -> Int} {ls : List Nat} (h : Pvs r c E ls) : ∀ a, ls.length <= a -> a < r -> ∀ b, E a b = 0 := by
 obtain ⟨i, hi, hp, hz⟩ := h;rw [hp.len]; exact hz
theorem Herm.len_eq {r c k n : Nat} {E : Nat -> Nat -> Int} {l l' : Nat -> Nat} (h : Herm k c E l) (h' : Herm n c E l') (hk : k <= r) (hn : n <= r) (z : ∀ a, k <= a -> a < r -> ∀ b, E a b = 0) (z' : ∀ a, n <= a -> a < r -> ∀ b, E a b = 0) : k = n := by
 rcases Nat.lt_trichotomy k n with e | e | e
 · have := h'.pos k e; rw [z k (Nat.le_refl _) (by omega)] at this; omega
 · exact e
 · have := h.pos n e; rw [z' n (Nat.le_refl _) (by omega)] at this; omega
end Go.Proofs.YtknkkceioockjaaGreat
