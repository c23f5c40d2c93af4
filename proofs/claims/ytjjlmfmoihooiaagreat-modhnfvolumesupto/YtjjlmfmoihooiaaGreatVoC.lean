/- Part 3 of 9 of the proof that the law ModhnfVolumes returns true for every input of bulk at most 1048576 and leaves its arguments as they were. -/
import Derived.Test.YtjjlmfmoihooiaaGreatVoB
set_option linter.all false
set_option maxRecDepth 100000
set_option maxHeartbeats 4000000
namespace Go.Proofs.YtjjlmfmoihooiaaGreat
def sm : Nat -> (Nat -> Int) -> Int
 | 0, _ => 0
 | n + 1, f => sm n f + f n
theorem aF {n : Nat} {f g : Nat -> Int} (h : ∀ k, k < n -> f k = g k) : sm n f = sm n g := by
 induction n with
 | zero => rfl
 | succ n ih => unfold sm; rw [ih (fun k hk => h k (by omega)), h n (by omega)]
theorem bL {n : Nat} {f : Nat -> Int} (h : ∀ k, k < n -> f k = 0) : sm n f = 0 := by
 induction n with
 | zero => rfl
 | succ n ih => unfold sm; rw [ih (fun k hk => h k (by omega)), h n (by omega)]; rfl
theorem lE (n : Nat) (f g : Nat -> Int) : sm n (fun k => f k + g k) = sm n f + sm n g := by
 induction n with
 | zero => rfl
 | succ n ih => simp only [sm, ih]; omega
theorem AA (n : Nat) (f g : Nat -> Int) : sm n (fun k => f k - g k) = sm n f - sm n g := by
 induction n with
 | zero => rfl
 | succ n ih => simp only [sm, ih]; omega
theorem ep (n : Nat) (c : Int) (f : Nat -> Int) : sm n (fun k => c * f k) = c * sm n f := by
 induction n with
 | zero => simp [sm]
 | succ n ih => simp only [sm, ih, Int.mul_add]
theorem pK (n : Nat) (c : Int) (f : Nat -> Int) : sm n (fun k => f k * c) = sm n f * c := by
 induction n with
 | zero => simp [sm]
 | succ n ih => simp only [sm, ih, Int.add_mul]
theorem qg (n m : Nat) (f : Nat -> Nat -> Int) : sm n (fun i => sm m (fun j => f i j)) = sm m (fun j => sm n (fun i => f i j)) := by
 induction n with
 | zero => exact (bL (fun _ _ => rfl)).symm
 | succ n ih => simp only [sm, ih, lE]
theorem fN {n : Nat} {f : Nat -> Int} (i : Nat) (hi : i < n) (h : ∀ k, k < n -> k ≠ i -> f k = 0) : sm n f = f i := by
 induction n with
 | zero => omega
 | succ n ih =>
  unfold sm;by_cases e : i = n
  . subst e; rw [bL (fun k hk => h k (by omega) (by omega))]; omega
  . rw [ih (by omega) (fun k hk hne => h k (by omega) hne), h n (by omega) (fun e' => e e'.symm)]; omega
theorem pR {n : Nat} {f : Nat -> Int} {B : Nat} (h : ∀ k, k < n -> (f k).natAbs <= B) : (sm n f).natAbs <= n * B := by
 induction n with
 | zero => simp [sm]
 | succ n ih =>
  unfold sm;have h1 := ih (fun k hk => h k (by omega));have h2 := h n (by omega);have h3 := Int.natAbs_add_le (sm n f) (f n);rw [Nat.succ_mul]; omega
theorem gV (n m : Nat) (f : Nat -> Int) : sm (n + m) f = sm n f + sm m (fun k => f (n + k)) := by
 induction m with
 | zero => simp [sm]
 | succ m ih => rw [<- Nat.add_assoc]; simp only [sm, ih]; omega
theorem oX : ∀ (n : Nat) (f : Nat -> Nat), (∀ i, i <= n -> f i < n) -> ∃ i j, i < j /\ j <= n /\ f i = f j
 | 0, f, h => by have := h 0 (Nat.le_refl _); omega
 | n + 1, f, h => by
  by_cases hc : ∃ i, i <= n /\ f i = f (n + 1)
  . obtain ⟨i, hi, he⟩ := hc;exact ⟨i, n + 1, by omega, Nat.le_refl _, he⟩
  . have hn : ∀ i, i <= n -> f i ≠ f (n + 1) := fun i hi he => hc ⟨i, hi, he⟩;obtain ⟨i, j, hij, hj, he⟩ := oX n (fun i => if f i = n then f (n + 1) else f i) (fun i hi => by
     have h1 := h i (by omega);have h2 := h (n + 1) (Nat.le_refl _);have h3 := hn i hi;split <;> omega)
    refine ⟨i, j, hij, by omega, ?_⟩;have h1 := hn i (by omega);have h2 := hn j hj;split at he <;> split at he <;> omega
def jF (Q : Nat) (v : Nat -> Nat) : Nat -> Nat
 | 0 => 0
 | s + 1 => jF Q v s + v s * Q ^ s
theorem mu {Q : Nat} {v : Nat -> Nat} : ∀ {s : Nat}, (∀ j, j < s -> v j < Q) -> jF Q v s < Q ^ s
 | 0, _ => by simp [jF]
 | s + 1, h => by
  have h1 := mu (s := s) (fun j hj => h j (by omega));have h2 := h s (by omega);have h3 : (v s + 1) * Q ^ s <= Q * Q ^ s := Nat.mul_le_mul_right _ h2;rw [Nat.succ_mul] at h3;rw [Nat.pow_succ, Nat.mul_comm];unfold jF; omega
theorem rm {Q : Nat} {u v : Nat -> Nat} : ∀ {s : Nat}, (∀ j, j < s -> u j < Q) -> (∀ j, j < s -> v j < Q) -> jF Q u s = jF Q v s -> ∀ j, j < s -> u j = v j
 | 0, _, _, _, j, hj => by omega
 | s + 1, hu, hv, he, j, hj => by
  have h1 := mu (s := s) (fun j hj => hu j (by omega));have h2 := mu (s := s) (fun j hj => hv j (by omega));have hp : 0 < Q ^ s := by omega
  unfold jF at he;have d1 : (jF Q u s + u s * Q ^ s) / Q ^ s = u s := by rw [Nat.add_mul_div_right _ _ hp, Nat.div_eq_of_lt h1, Nat.zero_add]
  have d2 : (jF Q v s + v s * Q ^ s) / Q ^ s = v s := by rw [Nat.add_mul_div_right _ _ hp, Nat.div_eq_of_lt h2, Nat.zero_add]
  have hs : u s = v s := by rw [<- d1, <- d2, he]
  by_cases e : j = s
  . subst e; exact hs
  . rw [hs] at he;exact rm (s := s) (fun j hj => hu j (by omega)) (fun j hj => hv j (by omega)) (by omega) j (by omega)
theorem jo (Q n : Nat) : ∀ s, jF Q (fun k => n / Q ^ k % Q) s = n % Q ^ s
 | 0 => by simp [jF, Nat.mod_one]
 | s + 1 => by
  unfold jF;rw [jo Q n s, Nat.mod_pow_succ, Nat.mul_comm]
theorem AD (r s M : Nat) (A : Nat -> Nat -> Int) (hs : s < r) (hA : ∀ k j, k < r -> j < s -> (A k j).natAbs <= M) :
 ∃ x : Nat -> Int, (∃ k, k < r /\ x k ≠ 0) /\ (∀ k, k < r -> (x k).natAbs <= (2 * r * M + 1) ^ s) /\ ∀ j, j < s -> sm r (fun k => x k * A k j) = 0 := by
 obtain ⟨T, hT⟩ : ∃ T, (2 * r * M + 1) ^ s = T := ⟨_, rfl⟩;obtain ⟨V, hV⟩ : ∃ V, r * (T * M) = V := ⟨_, rfl⟩;have hTp : 0 < T := by rw [<- hT]; exact Nat.pow_pos (by omega)
 have hy : ∀ n j, j < s -> (sm r (fun k => ((n / (T + 1) ^ k % (T + 1) : Nat) : Int) * A k j)).natAbs <= V := by
  intro n j hj;rw [<- hV];refine pR (fun k hk => ?_);rw [Int.natAbs_mul, Int.natAbs_natCast];have h1 : n / (T + 1) ^ k % (T + 1) < T + 1 := Nat.mod_lt _ (by omega);exact Nat.mul_le_mul (by omega) (hA k j hk hj)
 have hQ : (2 * V + 1) ^ s < (T + 1) ^ r := by
  have h1 : 2 * V + 1 <= (2 * r * M + 1) * (T + 1) := by
   have e1 : (2 * r * M + 1) * (T + 1) = 2 * r * M * T + 2 * r * M + T + 1 := by
    rw [Nat.mul_add, Nat.add_mul]; omega
   have e2 : 2 * r * M * T = 2 * V := by
    rw [<- hV]; simp only [Nat.mul_assoc, Nat.mul_comm, Nat.mul_left_comm]
   omega
  have h2 : (2 * V + 1) ^ s <= T * (T + 1) ^ s := by
   rw [<- hT, <- Nat.mul_pow, hT]; exact Nat.pow_le_pow_left h1 s
  have h3 : T * (T + 1) ^ s < (T + 1) ^ (s + 1) := by
   rw [Nat.pow_succ, Nat.mul_comm];exact Nat.mul_lt_mul_of_pos_left (by omega) (Nat.pow_pos (by omega))
  have h4 : (T + 1) ^ (s + 1) <= (T + 1) ^ r := Nat.pow_le_pow_right (by omega) hs;omega
 obtain ⟨i, j, hij, hj, he⟩ := oX ((2 * V + 1) ^ s) (fun n => jF (2 * V + 1) (fun q => (sm r (fun k => ((n / (T + 1) ^ k % (T + 1) : Nat) : Int) * A k q) + V).toNat % (2 * V + 1)) s) (fun i _ => mu (fun q _ => Nat.mod_lt _ (by omega)));have hq := rm (fun q _ => Nat.mod_lt _ (by omega)) (fun q _ => Nat.mod_lt _ (by omega)) he;refine ⟨fun k => ((j / (T + 1) ^ k % (T + 1) : Nat) : Int) - ((i / (T + 1) ^ k % (T + 1) : Nat) : Int), ?_, ?_, ?_⟩
 . by_cases hc : ∃ k, k < r /\ j / (T + 1) ^ k % (T + 1) ≠ i / (T + 1) ^ k % (T + 1)
   . obtain ⟨k, hk, hne⟩ := hc;refine ⟨k, hk, ?_⟩
     revert hne
     dsimp only;generalize j / (T + 1) ^ k % (T + 1) = a;generalize i / (T + 1) ^ k % (T + 1) = b;omega
   . exfalso;have hall : ∀ k, k < r -> j / (T + 1) ^ k % (T + 1) = i / (T + 1) ^ k % (T + 1) := fun k hk => Classical.byContradiction fun h => hc ⟨k, hk, h⟩;have e1 := jo (T + 1) i r;have e2 := jo (T + 1) j r;have e3 : ∀ s', s' <= r -> jF (T + 1) (fun k => j / (T + 1) ^ k % (T + 1)) s' = jF (T + 1) (fun k => i / (T + 1) ^ k % (T + 1)) s' := by
      intro s' hs';induction s' with
      | zero => rfl
      | succ q ih => simp only [jF]; rw [ih (by omega), hall q (by omega)]
     have e4 := e3 r (Nat.le_refl _);rw [e1, e2, Nat.mod_eq_of_lt (by omega), Nat.mod_eq_of_lt (by omega)] at e4;omega
 . intro k hk;have h1 : j / (T + 1) ^ k % (T + 1) < T + 1 := Nat.mod_lt _ (by omega);have h2 : i / (T + 1) ^ k % (T + 1) < T + 1 := Nat.mod_lt _ (by omega);rw [hT]
   revert h1 h2
   dsimp only;generalize j / (T + 1) ^ k % (T + 1) = a;generalize i / (T + 1) ^ k % (T + 1) = b;omega
 . intro q hq';have h1 := hq q hq';have h2 := hy i q hq';have h3 := hy j q hq';have h4 : sm r (fun k => (((j / (T + 1) ^ k % (T + 1) : Nat) : Int) - ((i / (T + 1) ^ k % (T + 1) : Nat) : Int)) * A k q) = sm r (fun k => ((j / (T + 1) ^ k % (T + 1) : Nat) : Int) * A k q) - sm r (fun k => ((i / (T + 1) ^ k % (T + 1) : Nat) : Int) * A k q) := by
    rw [<- AA]; exact aF (fun k _ => Int.sub_mul ..)
   dsimp only at h1 |-;rw [h4];generalize sm r (fun k => ((j / (T + 1) ^ k % (T + 1) : Nat) : Int) * A k q) = a at *;generalize sm r (fun k => ((i / (T + 1) ^ k % (T + 1) : Nat) : Int) * A k q) = b at *;rw [Nat.mod_eq_of_lt (by omega), Nat.mod_eq_of_lt (by omega)] at h1;omega
def Sp (n : Nat) (E : Nat -> Nat -> Int) (v : Nat -> Int) : Prop := ∃ x : Nat -> Int, ∀ j, v j = sm n (fun k => x k * E k j)
theorem Sp.zero (n : Nat) (E : Nat -> Nat -> Int) : Sp n E (fun _ => 0) := ⟨fun _ => 0, fun j => (bL (fun k _ => Int.zero_mul _)).symm⟩
theorem Sp.congr {n : Nat} {E : Nat -> Nat -> Int} {v w : Nat -> Int} (h : Sp n E v) (e : ∀ j, w j = v j) : Sp n E w := by
 obtain ⟨x, hx⟩ := h;exact ⟨x, fun j => (e j).trans (hx j)⟩
theorem Sp.add {n : Nat} {E : Nat -> Nat -> Int} {v w : Nat -> Int} (h : Sp n E v) (k : Sp n E w) : Sp n E (fun j => v j + w j) := by
 obtain ⟨x, hx⟩ := h; obtain ⟨y, hy⟩ := k;refine ⟨fun k => x k + y k, fun j => ?_⟩;show v j + w j = _;rw [hx, hy, <- lE]; exact aF (fun k _ => (Int.add_mul ..).symm)
theorem Sp.smul {n : Nat} {E : Nat -> Nat -> Int} {v : Nat -> Int} (c : Int) (h : Sp n E v) : Sp n E (fun j => c * v j) := by
 obtain ⟨x, hx⟩ := h;refine ⟨fun k => c * x k, fun j => ?_⟩;show c * v j = _;rw [hx, <- ep]; exact aF (fun k _ => (Int.mul_assoc ..).symm)
theorem Sp.sub {n : Nat} {E : Nat -> Nat -> Int} {v w : Nat -> Int} (h : Sp n E v) (k : Sp n E w) : Sp n E (fun j => v j - w j) :=
 (h.add (k.smul (-1))).congr (fun j => by omega)
theorem Sp.row {n : Nat} (E : Nat -> Nat -> Int) {k : Nat} (hk : k < n) : Sp n E (E k) := by
 refine ⟨fun i => if i = k then 1 else 0, fun j => ?_⟩;rw [fN k hk (fun i _ hne => by simp [hne])]; simp
theorem Sp.sm {n m : Nat} {E : Nat -> Nat -> Int} {F : Nat -> Nat -> Int} {x : Nat -> Int} (h : ∀ k, k < m -> Sp n E (F k)) : Sp n E (fun j => sm m (fun k => x k * F k j)) := by
 induction m with
 | zero => exact Sp.zero n E
 | succ m ih => exact (ih (fun k hk => h k (by omega))).add ((h m (by omega)).smul (x m))
theorem Sp.trans {n m : Nat} {E F : Nat -> Nat -> Int} {v : Nat -> Int} (hv : Sp m F v) (h : ∀ k, k < m -> Sp n E (F k)) : Sp n E v := by
 obtain ⟨x, hx⟩ := hv;exact (Sp.sm (x := x) h).congr hx
def bD (n : Nat) (E : Nat -> Nat -> Int) (m : Nat) (F : Nat -> Nat -> Int) : Prop := (∀ k, k < n -> Sp m F (E k)) /\ ∀ k, k < m -> Sp n E (F k)
theorem bD.refl (n : Nat) (E : Nat -> Nat -> Int) : bD n E n E := ⟨fun k hk => Sp.row E hk, fun k hk => Sp.row E hk⟩
theorem bD.symm {n m : Nat} {E F : Nat -> Nat -> Int} (h : bD n E m F) : bD m F n E := ⟨h.2, h.1⟩
theorem bD.trans {n m l : Nat} {E F G : Nat -> Nat -> Int} (h : bD n E m F) (k : bD m F l G) : bD n E l G :=
 ⟨fun i hi => (h.1 i hi).trans k.1, fun i hi => (k.2 i hi).trans h.2⟩
theorem bD.of_eq {n : Nat} {E F : Nat -> Nat -> Int} (h : ∀ k, k < n -> ∀ j, E k j = F k j) : bD n E n F :=
 ⟨fun k hk => (Sp.row F hk).congr (h k hk), fun k hk => (Sp.row E hk).congr (fun j => (h k hk j).symm)⟩
structure Ech (n c : Nat) (E : Nat -> Nat -> Int) (l : Nat -> Nat) : Prop where
 inc : ∀ i k, i < k -> k < n -> l i < l k
 lt : ∀ i, i < n -> l i < c
 zero : ∀ i, i < n -> ∀ j, j < l i -> E i j = 0
 pos : ∀ i, i < n -> 0 < E i (l i)
structure dC (n c : Nat) (E : Nat -> Nat -> Int) (l : Nat -> Nat) : Prop extends Ech n c E l where
 red : ∀ i k, i < k -> k < n -> 0 <= E i (l k) /\ E i (l k) < E k (l k)
theorem Ech.at {n c : Nat} {E : Nat -> Nat -> Int} {l : Nat -> Nat} (h : Ech n c E l) (x : Nat -> Int) {k : Nat} (hk : k < n) (h0 : ∀ i, i < k -> x i = 0) : sm n (fun i => x i * E i (l k)) = x k * E k (l k) := by
 refine fN k hk (fun i hi hne => ?_);rcases Nat.lt_or_gt_of_ne hne with hlt | hgt
 . rw [h0 i hlt, Int.zero_mul]
 . rw [h.zero i hi _ (h.inc k i hgt hi), Int.mul_zero]
theorem Ech.small {n c : Nat} {E : Nat -> Nat -> Int} {l : Nat -> Nat} (h : Ech n c E l) (x : Nat -> Int) : ∀ m, m <= n -> (∀ k, k < m -> (sm n (fun i => x i * E i (l k))).natAbs < (E k (l k)).natAbs) -> ∀ k, k < m -> x k = 0
 | 0, _, _, k, hk => by omega
 | m + 1, hm, hs, k, hk => by
  have ih := Ech.small h x m (by omega) (fun k hk => hs k (by omega));by_cases e : k = m
  . subst e;have h1 := hs k (by omega);rw [h.at x (by omega) ih, Int.natAbs_mul] at h1;have h2 : ¬ 0 < (x k).natAbs := fun h3 => by
     have := Nat.mul_le_mul_right (E k (l k)).natAbs h3;omega
    omega
  . exact ih k (by omega)
theorem Ech.none {n c : Nat} {E : Nat -> Nat -> Int} {l : Nat -> Nat} (h : Ech n c E l) {v : Nat -> Int} (hv : Sp n E v) (hs : ∀ k, k < n -> (v (l k)).natAbs < (E k (l k)).natAbs) (j : Nat) : v j = 0 := by
 obtain ⟨x, hx⟩ := hv;have h0 := h.small x n (Nat.le_refl _) (fun k hk => by rw [<- hx]; exact hs k hk);rw [hx, bL (fun k hk => by rw [h0 k hk, Int.zero_mul])]
theorem Ech.Ad {n c : Nat} {E : Nat -> Nat -> Int} {l : Nat -> Nat} (h : Ech n c E l) {v : Nat -> Int} (hv : Sp n E v) (hs : ∀ k, k < n -> v (l k) = 0) (j : Nat) : v j = 0 :=
 h.none hv (fun k hk => by have := h.pos k hk; rw [hs k hk]; omega) j
theorem Ech.lead {n c : Nat} {E : Nat -> Nat -> Int} {l : Nat -> Nat} (h : Ech n c E l) {v : Nat -> Int} (hv : Sp n E v) {q : Nat} (hq : v q ≠ 0) (h0 : ∀ j, j < q -> v j = 0) : ∃ k, k < n /\ l k = q /\ E k q ∣ v q := by
 obtain ⟨x, hx⟩ := hv;have key : ∀ m, m <= n -> (∃ k, k < m /\ l k = q /\ E k q ∣ v q) \/ (∀ k, k < m -> x k = 0 \/ q < l k) := by
  intro m;induction m with
  | zero => exact fun _ => .inr (fun k hk => by omega)
  | succ m ih =>
   intro hm;rcases ih (by omega) with h1 | h1
   . obtain ⟨k, hk, h2⟩ := h1; exact .inl ⟨k, by omega, h2⟩
   . by_cases hlt : q < l m
     . exact .inr (fun k hk => by
        by_cases e : k = m
        . subst e; exact .inr hlt
        . exact h1 k (by omega))
     . have hz : ∀ i, i < m -> x i = 0 := fun i hi => (h1 i hi).elim id (fun h2 => by have := h.inc i m hi (by omega); omega);have h3 := h.at x (by omega : m < n) hz;rw [<- hx] at h3;by_cases e : l m = q
       . refine .inl ⟨m, by omega, e, ?_⟩;rw [e] at h3; rw [h3]; exact Int.dvd_mul_left ..
       . have h4 : v (l m) = 0 := h0 _ (by omega);rw [h4] at h3;have h5 := h.pos m (by omega);have h6 : x m = 0 := by
          rcases Int.mul_eq_zero.1 h3.symm with h7 | h7
          . exact h7
          . omega
         exact .inr (fun k hk => by
          by_cases e : k = m
          . subst e; exact .inl h6
          . exact .inl (hz k (by omega)))
 rcases key n (Nat.le_refl _) with h1 | h1
 . exact h1
 . exfalso;apply hq;rw [hx];refine bL (fun k hk => ?_);rcases h1 k hk with h2 | h2
   . rw [h2, Int.zero_mul]
   . rw [h.zero k hk _ h2, Int.mul_zero]
theorem Ech.same {n m c c' : Nat} {E F : Nat -> Nat -> Int} {l l' : Nat -> Nat} (h : Ech n c E l) (h' : Ech m c' F l') (hs : bD n E m F) : n = m /\ ∀ k, k < n -> l k = l' k /\ E k (l k) = F k (l k) := by
 have one : ∀ {n m c c' : Nat} {E F : Nat -> Nat -> Int} {l l' : Nat -> Nat}, Ech n c E l -> Ech m c' F l' -> bD n E m F -> ∀ k, (∀ i, i < k -> i < n -> i < m -> l i = l' i) -> k < n -> (∀ i, i < k -> i < m) -> k < m /\ l' k <= l k /\ ∀ t, t < m -> l' t = l k -> F t (l k) ∣ E k (l k) := by
  intro n m c c' E F l l' h h' hs k ih hk hkm;obtain ⟨t, ht, e, hd⟩ := h'.lead (hs.1 k hk) (q := l k) (by have := h.pos k hk; omega) (h.zero k hk);have h1 : k <= t := by
   by_cases h2 : k <= t
   . exact h2
   . exfalso;have h3 := ih t (by omega) (by omega) ht;have h4 := h.inc t k (by omega) hk;omega
  have h2 : k < m := by omega
  refine ⟨h2, ?_, ?_⟩
  . rcases Nat.lt_or_eq_of_le h1 with h3 | h3
    . have := h'.inc k t h3 ht; omega
    . subst h3; omega
  . intro t' ht' e';have : t' = t := by
     rcases Nat.lt_trichotomy t' t with h3 | h3 | h3
     . have := h'.inc t' t h3 ht; omega
     . exact h3
     . have := h'.inc t t' h3 ht'; omega
    subst this; exact hd
 have all : ∀ k, (k < n ↔ k < m) /\ (k < n -> l k = l' k /\ E k (l k) = F k (l k)) := by
  intro k;induction k using Nat.strongRecOn with
  | _ k ih =>
   have h1 : k < n -> k < m := fun hk => (one h h' hs k (fun i hi hn _ => ((ih i hi).2 hn).1) hk (fun i hi => (ih i hi).1.1 (by omega))).1;have h2 : k < m -> k < n := fun hk => (one h' h hs.symm k (fun i hi hm _ => ((ih i hi).2 ((ih i hi).1.2 hm)).1.symm) hk (fun i hi => (ih i hi).1.2 (by omega))).1;refine ⟨⟨h1, h2⟩, fun hk => ?_⟩;have h3 := one h h' hs k (fun i hi hn _ => ((ih i hi).2 hn).1) hk (fun i hi => (ih i hi).1.1 (by omega));have h4 := one h' h hs.symm k (fun i hi hm _ => ((ih i hi).2 ((ih i hi).1.2 hm)).1.symm) (h1 hk) (fun i hi => (ih i hi).1.2 (by omega));have e : l k = l' k := by omega
   refine ⟨e, ?_⟩;have d1 := h3.2.2 k (h1 hk) e.symm;have d2 := h4.2.2 k hk e;rw [<- e] at d2;have p1 := h.pos k hk;have p2 := h'.pos k (h1 hk);rw [<- e] at p2;exact Int.dvd_antisymm (Int.le_of_lt p1) (Int.le_of_lt p2) d2 d1
 refine ⟨?_, fun k hk => (all k).2 hk⟩;have h1 := (all n).1;have h2 := (all m).1;omega
theorem dC.unique {n m c c' : Nat} {E F : Nat -> Nat -> Int} {l l' : Nat -> Nat} (h : dC n c E l) (h' : dC m c' F l') (hs : bD n E m F) : n = m /\ (∀ k, k < n -> l k = l' k) /\ ∀ k, k < n -> ∀ j, E k j = F k j := by
 obtain ⟨hnm, hl⟩ := h.toEch.same h'.toEch hs;refine ⟨hnm, fun k hk => (hl k hk).1, fun i hi j => ?_⟩;have hw : Sp n E (fun j => E i j - F i j) := (Sp.row E hi).sub (hs.2 i (by omega));have := h.toEch.none hw (fun k hk => ?_) j
 . omega
 . have hlk := hl k hk;have hp := h.pos k hk;rcases Nat.lt_trichotomy k i with h1 | h1 | h1
   . have e1 : E i (l k) = 0 := h.zero i hi _ (h.inc k i h1 hi);have e2 : F i (l k) = 0 := h'.zero i (by omega) _ (by rw [hlk.1]; exact h'.inc k i h1 (by omega));rw [e1, e2]; omega
   . subst h1;have := hlk.2; omega
   . have r1 := h.red i k h1 hk;have r2 := h'.red i k h1 (by omega);rw [<- hlk.1, <- hlk.2] at r2;omega
def qZ (n : Nat) (a : Nat -> Nat -> Int) : Prop := ∀ x : Nat -> Int, (∀ j, sm n (fun k => x k * a k j) = 0) -> ∀ k, k < n -> x k = 0
theorem common : ∀ (n : Nat) (Y : Nat -> Int), (∀ k, k < n -> Y k ≠ 0) -> ∃ d : Int, d ≠ 0 /\ ∀ k, k < n -> Y k ∣ d
 | 0, _, _ => ⟨1, by omega, fun k hk => by omega⟩
 | n + 1, Y, h => by
  obtain ⟨d, hd, hk⟩ := common n Y (fun k hk => h k (by omega));refine ⟨d * Y n, fun e => ?_, fun k hk' => ?_⟩
  . rcases Int.mul_eq_zero.1 e with e | e
    . exact hd e
    . exact h n (by omega) e
  . by_cases e : k = n
    . subst e; exact Int.dvd_mul_left ..
    . exact Int.dvd_mul_of_dvd_left (hk k (by omega))
def tT (n M : Nat) : Nat := n * (n * ((2 * n * M + 1) ^ (n - 1) * M)) * (n * ((2 * n * M + 1) ^ (n - 1) * M))
theorem dC.bound {n c M : Nat} {E : Nat -> Nat -> Int} {l : Nat -> Nat} (h : dC n c E l) {a : Nat -> Nat -> Int} (ha : ∀ k, k < n -> Sp n E (a k)) (hi : qZ n a) (hM : ∀ k j, k < n -> (a k j).natAbs <= M) : ∀ i j, i < n -> (E i j).natAbs <= tT n M := by
 obtain ⟨D, hD⟩ : ∃ D, n * ((2 * n * M + 1) ^ (n - 1) * M) = D := ⟨_, rfl⟩;have hy : ∀ i, i < n -> ∃ y : Nat -> Int, Sp n E y /\ (∀ j, (y j).natAbs <= D) /\ (∀ k, k < n -> k ≠ i -> y (l k) = 0) /\ y (l i) ≠ 0 := by
  intro i hin;obtain ⟨x, ⟨k0, hk0, hx0⟩, hxb, hxz⟩ := AD n (n - 1) M (fun k q => a k (l (if q < i then q else q + 1))) (by omega) (fun k j hk _ => hM k _ hk);have hz : ∀ k, k < n -> k ≠ i -> sm n (fun t => x t * a t (l k)) = 0 := by
   intro k hk hne;rcases Nat.lt_or_gt_of_ne hne with h1 | h1
   . have := hxz k (by omega);simpa [h1] using this
   . have := hxz (k - 1) (by omega);have e : ¬ k - 1 < i := by omega
     have e2 : k - 1 + 1 = k := by omega
     simpa [e, e2] using this
  have hsp : Sp n E (fun j => sm n (fun k => x k * a k j)) := Sp.sm ha;refine ⟨fun j => sm n (fun k => x k * a k j), hsp, fun j => ?_, hz, fun e => ?_⟩
  . rw [<- hD];refine pR (fun k hk => ?_);rw [Int.natAbs_mul];exact Nat.mul_le_mul (hxb k hk) (hM k j hk)
  . have h0 := h.toEch.Ad hsp (fun k hk => by
     by_cases e' : k = i
     . subst e'; exact e
     . exact hz k hk e')
    exact hx0 (hi x h0 k0 hk0)
 have hpiv : ∀ i, i < n -> (E i (l i)).natAbs <= D := by
  intro i hin;obtain ⟨y, hs, hb, hz, hn⟩ := hy i hin;obtain ⟨x, hx⟩ := hs;have h0 : ∀ k, k < i -> x k = 0 := h.toEch.small x i (by omega) (fun k hk => by
   rw [<- hx, hz k (by omega) (by omega)]; have := h.pos k (by omega); omega)
  have h1 := h.toEch.at x hin h0;rw [<- hx] at h1;have h2 := hb (l i);rw [h1, Int.natAbs_mul] at h2;have h3 : 1 <= (x i).natAbs := by
   have : x i ≠ 0 := fun e => hn (by rw [h1, e, Int.zero_mul]);omega
  have h4 := Nat.mul_le_mul_right (E i (l i)).natAbs h3;omega
 have hent : ∀ i k, i < n -> k < n -> (E i (l k)).natAbs <= D := by
  intro i k hin hk;rcases Nat.lt_trichotomy i k with h1 | h1 | h1
  . have := h.red i k h1 hk; have := hpiv k hk; omega
  . subst h1; exact hpiv i hin
  . rw [h.zero i hin _ (h.inc k i h1 hin)]; simp
 intro i j hin;obtain ⟨y, hY⟩ : ∃ y : Nat -> Nat -> Int, ∀ i, i < n -> Sp n E (y i) /\ (∀ j, (y i j).natAbs <= D) /\ (∀ k, k < n -> k ≠ i -> y i (l k) = 0) /\ y i (l i) ≠ 0 := by
  refine ⟨fun i => if hin : i < n then Classical.choose (hy i hin) else fun _ => 0, fun i hin => ?_⟩;simp only [hin, dif_pos];exact Classical.choose_spec (hy i hin)
 obtain ⟨d, hd, hdv⟩ := common n (fun k => y k (l k)) (fun k hk => (hY k hk).2.2.2);obtain ⟨q, hq⟩ : ∃ q : Nat -> Int, ∀ k, k < n -> d = q k * y k (l k) := by
  refine ⟨fun k => d / y k (l k), fun k hk => ?_⟩;exact (Int.ediv_mul_cancel (hdv k hk)).symm
 have hsp : Sp n E (fun j => d * E i j - sm n (fun k => (E i (l k) * q k) * y k j)) := ((Sp.row E hin).smul d).sub (Sp.sm (fun k hk => (hY k hk).1));have h0 := h.toEch.Ad hsp (fun m hm => by
  rw [fN m hm (fun k hk hne => by rw [(hY k hk).2.2.1 m hm (fun e => hne e.symm), Int.mul_zero])];rw [Int.mul_assoc, <- hq m hm, Int.mul_comm]; omega) j
 have hb : (sm n (fun k => (E i (l k) * q k) * y k j)).natAbs <= n * (D * d.natAbs * D) := by
  refine pR (fun k hk => ?_);rw [Int.natAbs_mul, Int.natAbs_mul];have h1 : (q k).natAbs <= d.natAbs := by
   have e := congrArg Int.natAbs (hq k hk);rw [Int.natAbs_mul] at e;have h2 : 1 <= (y k (l k)).natAbs := by have := (hY k hk).2.2.2; omega
   have h3 := Nat.mul_le_mul_left (q k).natAbs h2;omega
  exact Nat.mul_le_mul (Nat.mul_le_mul (hent i k hin hk) h1) ((hY k hk).2.1 j)
 have h1 : (d * E i j).natAbs <= n * (D * d.natAbs * D) := by
  have : d * E i j = sm n (fun k => (E i (l k) * q k) * y k j) := by omega
  rw [this]; exact hb
 rw [Int.natAbs_mul] at h1;have h2 : n * (D * d.natAbs * D) = d.natAbs * (n * D * D) := by
  simp only [Nat.mul_comm, Nat.mul_left_comm, Nat.mul_assoc]
 rw [h2] at h1;have h3 := Nat.le_of_mul_le_mul_left h1 (by omega : 0 < d.natAbs);unfold tT;rw [hD]; exact h3
theorem jd (xs : List Int) {i : Nat} (d : Int) (h : i < xs.length) : xs.getD i d = xs[i] := by simp [h]
theorem fq (xs : List Int) {i : Nat} (d : Int) (h : xs.length <= i) : xs.getD i d = d := by simp [h]
theorem smTwo (n k l : Nat) (f : Nat -> Int) (hk : k < n) (hl : l < n) (hkl : k ≠ l) (h : ∀ i < n, i ≠ k -> i ≠ l -> f i = 0) : sm n f = f k + f l := by
 have e : sm n f = sm n (fun i => (if i = k then f i else 0) + (if i = k then 0 else f i)) := aF (fun i _ => by split <;> omega);rw [e, lE, fN k hk (fun i _ hik => if_neg hik), fN l hl (fun i hi hil => by
  by_cases hik : i = k
  . exact if_pos hik
  . rw [if_neg hik]; exact h i hi hik hil), if_pos rfl, if_neg (fun e => hkl e.symm)]
abbrev Mx := Nat -> Nat -> Int
def bT (i a : Nat) : Nat := if a < i then a else a + 1
def minor (M : Mx) (i : Nat) : Mx := fun a b => M (bT i a) (b + 1)
def eC (i : Nat) : Int := if i % 2 = 0 then 1 else -1
theorem kS (i : Nat) : eC (i + 1) = - eC i := by
 unfold eC
 (repeat' split) <;> first | rfl | omega
def aQ : Nat -> Mx -> Int
 | 0, _ => 1
 | n + 1, M => sm (n + 1) fun i => eC i * M i 0 * aQ n (minor M i)
theorem aV : ∀ (n : Nat) {M N : Mx}, (∀ i < n, ∀ j < n, M i j = N i j) -> aQ n M = aQ n N
 | 0, _, _, _ => rfl
 | n + 1, M, N, h => by
  unfold aQ;refine aF fun i hi => ?_;rw [h i hi 0 (by omega), aV n (M := minor M i) (N := minor N i) fun a ha b hb => h _ (by unfold bT; split <;> omega) _ (by omega)]
def bU (M : Mx) (k : Nat) (R : Nat -> Int) : Mx := fun a b => if a = k then R b else M a b
theorem gd (M : Mx) (k : Nat) (R : Nat -> Int) : minor (bU M k R) k = minor M k := by
 funext a b;unfold minor bU bT;split <;> rw [if_neg (by omega)]
theorem fw (M : Mx) (k i : Nat) (R : Nat -> Int) (h : i ≠ k) : minor (bU M k R) i = bU (minor M i) (if k < i then k else k - 1) (fun b => R (b + 1)) := by
 funext a b;unfold minor bU bT;by_cases ha : a < i <;> by_cases hk : k < i <;> simp only [ha, hk, if_true, if_false] <;> split <;> split <;> first | rfl | (exfalso; omega)
theorem jC : ∀ (n : Nat) (M : Mx) (k : Nat) (c : Int) (U V : Nat -> Int), k < n -> aQ n (bU M k fun j => c * U j + V j) = c * aQ n (bU M k U) + aQ n (bU M k V)
 | n + 1, M, k, c, U, V, hk => by
  unfold aQ;rw [<- ep, <- lE];refine aF fun i hi => ?_;by_cases h : i = k
  . subst h;rw [gd, gd, gd];simp only [bU, if_pos];generalize aQ n (minor M i) = d;rw [Int.mul_add, Int.add_mul, <- Int.mul_assoc, <- Int.mul_assoc, Int.mul_comm (eC i) c];simp only [Int.mul_assoc]
  . rw [fw M k i _ h, fw M k i _ h, fw M k i _ h, jC n (minor M i) _ c (fun b => U (b + 1)) (fun b => V (b + 1)) (by split <;> omega)];simp only [bU, if_neg h];rw [Int.mul_add, <- Int.mul_assoc, <- Int.mul_assoc, Int.mul_comm _ c, Int.mul_assoc c]
theorem mD : ∀ (n : Nat) (M : Mx) (k : Nat), k + 1 < n -> (∀ j < n, M k j = M (k + 1) j) -> aQ n M = 0
 | n + 1, M, k, hk, h => by
  unfold aQ;rw [smTwo (n + 1) k (k + 1) _ (by omega) (by omega) (by omega) fun i hi h1 h2 => ?_]
  . have e : minor M k = minor M (k + 1) \/ True := .inr trivial;have e2 : aQ n (minor M k) = aQ n (minor M (k + 1)) := aV n fun a ha b hb => by
     unfold minor bT;by_cases h1 : a < k
     . rw [if_pos h1, if_pos (by omega)]
     . rw [if_neg h1];by_cases h3 : a = k
       . subst h3; rw [if_pos (by omega)]; exact (h (b + 1) (by omega)).symm
       . rw [if_neg (by omega)]
    rw [e2, h 0 (by omega), kS, Int.neg_mul, Int.neg_mul];omega
  . have : aQ n (minor M i) = 0 := by
     by_cases hik : i < k
     . refine mD n _ (k - 1) (by omega) fun j hj => ?_;unfold minor bT;rw [if_neg (by omega), if_neg (by omega), show k - 1 + 1 = k by omega];exact h (j + 1) (by omega)
     . refine mD n _ k (by omega) fun j hj => ?_;unfold minor bT;rw [if_pos (by omega), if_pos (by omega)];exact h (j + 1) (by omega)
    rw [this, Int.mul_zero]
theorem gP (M : Mx) (k : Nat) : bU M k (M k) = M := by
 funext a b; unfold bU; split
 . rename_i h; rw [h]
 . rfl
theorem dm (M : Mx) {k l : Nat} (h : k ≠ l) (R R' : Nat -> Int) : bU (bU M k R) l R' = bU (bU M l R') k R := by
 funext a b; unfold bU; (repeat' split) <;> first | rfl | omega
theorem bM (M : Mx) (k : Nat) (R : Nat -> Int) : bU M k R k = R := by funext b; simp [bU]
theorem aS (M : Mx) {k l : Nat} (h : l ≠ k) (R : Nat -> Int) : bU M k R l = M l := by funext b; simp [bU, h]
theorem jx (n : Nat) (M : Mx) (k : Nat) (U V : Nat -> Int) (hk : k < n) : aQ n (bU M k fun j => U j + V j) = aQ n (bU M k U) + aQ n (bU M k V) := by
 have := jC n M k 1 U V hk;simpa using this
theorem jl (n : Nat) (M : Mx) (k : Nat) (c : Int) (U : Nat -> Int) (hk : k < n) : aQ n (bU M k fun j => c * U j) = c * aQ n (bU M k U) := by
 have h := jC n M k c U (fun _ => 0) hk;have h0 := jC n M k (-1) (fun _ => 0) (fun _ => 0) hk;simp at h h0;rw [h]; omega
theorem uY (n : Nat) (M : Mx) (k : Nat) (hk : k + 1 < n) (A B : Nat -> Int) : aQ n (bU (bU M k A) (k + 1) B) = - aQ n (bU (bU M k B) (k + 1) A) := by
 have z : ∀ C : Nat -> Int, aQ n (bU (bU M k C) (k + 1) C) = 0 := fun C => mD n _ k hk fun j _ => by
  rw [aS _ (by omega), bM, bM]
 have s := z fun j => A j + B j;rw [jx n _ _ _ _ hk, dm M (by omega : k ≠ k + 1), dm M (by omega : k ≠ k + 1), jx n _ _ _ _ (by omega), jx n _ _ _ _ (by omega),
  <- dm M (by omega : k ≠ k + 1), <- dm M (by omega : k ≠ k + 1), <- dm M (by omega : k ≠ k + 1), <- dm M (by omega : k ≠ k + 1), z A, z B] at s
 omega
theorem pF : ∀ (d n : Nat) (M : Mx) (k : Nat), k + d + 1 < n -> (∀ j, M k j = M (k + d + 1) j) -> aQ n M = 0
 | 0, n, M, k, hk, h => mD n M k hk fun j _ => h j
 | d + 1, n, M, k, hk, h => by
  have e := uY n M (k + d + 1) (by omega) (M (k + d + 1)) (M (k + d + 2));rw [gP M (k + d + 1), gP M (k + d + 2)] at e;rw [e, pF d n _ k (by omega) fun j => ?_]
  . rfl
  . rw [aS _ (by omega), aS _ (by omega), aS _ (by omega), bM];exact h j
theorem ij (n : Nat) (M : Mx) {k l : Nat} (hk : k < n) (hl : l < n) (hkl : k ≠ l) (h : ∀ j, M k j = M l j) : aQ n M = 0 := by
 rcases Nat.lt_or_gt_of_ne hkl with h1 | h1
 . exact pF (l - k - 1) n M k (by omega) fun j => by rw [show k + (l - k - 1) + 1 = l by omega]; exact h j
 . exact pF (k - l - 1) n M l (by omega) fun j => by rw [show l + (k - l - 1) + 1 = k by omega]; exact (h j).symm
theorem kh (n : Nat) (M : Mx) (k : Nat) (hk : k < n) (c : Nat -> Int) (hc : c k = 0) : ∀ (m : Nat), m <= n -> ∀ U : Nat -> Int, aQ n (bU M k fun j => U j + sm m fun l => c l * M l j) = aQ n (bU M k U)
 | 0, _, U => by simp [sm]
 | m + 1, hm, U => by
  have e : (fun j => U j + sm (m + 1) fun l => c l * M l j) = fun j => c m * M m j + (U j + sm m fun l => c l * M l j) := by
   funext j;show U j + (sm m (fun l => c l * M l j) + c m * M m j) = c m * M m j + (U j + sm m (fun l => c l * M l j));generalize c m * M m j = z;omega
  rw [e, jC n M k _ _ _ hk, kh n M k hk c hc m (by omega) U];by_cases hmk : m = k
  . rw [hmk, hc, Int.zero_mul, Int.zero_add]
  . rw [ij n (bU M k (M m)) hk (by omega) (fun e => hmk e.symm) fun j => by rw [bM, aS _ hmk]];rw [Int.mul_zero, Int.zero_add]
theorem qK (n : Nat) (M : Mx) {k l : Nat} (hk : k < n) (hl : l < n) (hkl : k ≠ l) (A B : Nat -> Int) : aQ n (bU (bU M k A) l B) = - aQ n (bU (bU M k B) l A) := by
 have z : ∀ C : Nat -> Int, aQ n (bU (bU M k C) l C) = 0 := fun C => ij n _ hk hl hkl fun j => by
  rw [aS _ hkl, bM, bM]
 have s := z fun j => A j + B j;rw [jx n _ _ _ _ hl, dm M hkl, dm M hkl, jx n _ _ _ _ hk, jx n _ _ _ _ hk, <- dm M hkl, <- dm M hkl, <- dm M hkl, <- dm M hkl, z A, z B] at s;omega
theorem pV (n : Nat) (M : Mx) (k : Nat) (hk : k < n) (c : Nat -> Int) (R : Nat -> Nat -> Int) : ∀ m, aQ n (bU M k fun j => sm m fun l => c l * R l j) = sm m fun l => c l * aQ n (bU M k (R l))
 | 0 => by
  have := jl n M k 0 (fun _ => 0) hk;simpa [sm] using this
 | m + 1 => by
  have e : (fun j => sm (m + 1) fun l => c l * R l j) = fun j => c m * R m j + sm m fun l => c l * R l j := by
   funext j; simp only [sm]; omega
  rw [e, jC n M k _ _ _ hk, pV n M k hk c R m];simp only [sm]; omega
theorem xR (n : Nat) (f : Nat -> Nat) (hf : ∀ i < n, f i < n) (hi : ∀ i < n, ∀ j < n, f i = f j -> i = j) (k : Nat) (hk : k < n) : ∃ i < n, f i = k := by
 refine Classical.byContradiction fun hc => ?_;have hne : ∀ i < n, f i ≠ k := fun i h e => hc ⟨i, h, e⟩;obtain ⟨m, rfl⟩ : ∃ m, n = m + 1 := ⟨n - 1, by omega⟩;obtain ⟨i, j, h1, h2, h3⟩ := oX m (fun i => if f i < k then f i else f i - 1) (fun i h => by
  have := hf i (by omega); have := hne i (by omega);show (if f i < k then f i else f i - 1) < m;split <;> omega)
 have h4 : f i = f j := by
  have a := hne i (by omega); have b := hne j (by omega);have h3 : (if f i < k then f i else f i - 1) = (if f j < k then f j else f j - 1) := h3;split at h3 <;> split at h3 <;> omega
 have := hi i (by omega) j (by omega) h4;omega
theorem kG (n : Nat) (A : Mx) : ∀ (d : Nat) (σ : Nat -> Nat), (∀ i < n, σ i < n) -> (∀ i, i + d < n -> σ i = i) -> d <= n -> aQ n (fun i => A (σ i)) = 0 \/ (aQ n (fun i => A (σ i))).natAbs = (aQ n A).natAbs
 | 0, σ, _, h, _ => .inr (by rw [aV n (M := fun i => A (σ i)) (N := A) fun i hi j _ => by rw [h i (by omega)]])
 | d + 1, σ, h1, h2, hd => by
  by_cases hinj : ∀ i < n, ∀ j < n, σ i = σ j -> i = j
  . obtain ⟨i, hi, he⟩ := xR n σ h1 hinj (n - (d + 1)) (by omega);have hge : n - (d + 1) <= i := by
     refine Nat.le_of_not_lt fun hlt => ?_;have := h2 i (by omega); omega
    by_cases hik : i = n - (d + 1)
    . refine kG n A d σ h1 (fun a ha => ?_) (by omega);by_cases e : a = n - (d + 1)
      . have h5 : a = i := e.trans hik.symm;rw [h5, he]; exact hik.symm
      . exact h2 a (by omega)
    . have e : (fun a => A (σ a)) = bU (bU (fun a => A (if a = n - (d + 1) then n - (d + 1) else if a = i then σ (n - (d + 1)) else σ a)) (n - (d + 1)) (A (σ (n - (d + 1))))) i (A (σ i)) := by
       funext a b;unfold bU;by_cases h3 : a = i
       . rw [if_pos h3, h3]
       . rw [if_neg h3];by_cases h4 : a = n - (d + 1)
         . rw [if_pos h4, h4]
         . rw [if_neg h4];show A (σ a) b = A (if a = n - (d + 1) then n - (d + 1) else if a = i then σ (n - (d + 1)) else σ a) b;rw [if_neg h4, if_neg h3]
      have e2 : bU (bU (fun a => A (if a = n - (d + 1) then n - (d + 1) else if a = i then σ (n - (d + 1)) else σ a)) (n - (d + 1)) (A (σ i))) i (A (σ (n - (d + 1)))) = fun a => A (if a = n - (d + 1) then n - (d + 1) else if a = i then σ (n - (d + 1)) else σ a) := by
       funext a b;unfold bU;by_cases h3 : a = i
       . rw [if_pos h3, if_neg (by omega), if_pos h3]
       . rw [if_neg h3];by_cases h4 : a = n - (d + 1)
         . rw [if_pos h4, if_pos h4, he]
         . rw [if_neg h4]
      rw [e, qK n _ (by omega) hi (fun h => hik h.symm), e2];have := kG n A d (fun a => if a = n - (d + 1) then n - (d + 1) else if a = i then σ (n - (d + 1)) else σ a) (fun a ha => by
       split
       . omega
       . split
         . exact h1 _ (by omega)
         . exact h1 a ha) (fun a ha => by
       split
       . omega
       . rw [if_neg (by omega)]; exact h2 a (by omega)) (by omega)
      rcases this with h | h
      . exact .inl (by rw [h]; rfl)
      . exact .inr (by rw [Int.natAbs_neg]; exact h)
  . refine .inl ?_;simp only [Classical.not_forall] at hinj;obtain ⟨i, hi, j, hj, he, hne⟩ := hinj;exact ij n _ hi hj hne fun b => by rw [he]
theorem mz (n : Nat) (A : Mx) : ∀ (k : Nat), k <= n -> ∀ B : Mx, (∀ i < k, Sp n A (B i)) -> (∀ i, k <= i -> i < n -> ∃ l < n, B i = A l) -> aQ n A ∣ aQ n B
 | 0, _, B, _, h => by
  have hs : ∀ i, ∃ l, i < n -> l < n /\ B i = A l := fun i => by
   by_cases hi : i < n
   . obtain ⟨l, hl, e⟩ := h i (Nat.zero_le _) hi; exact ⟨l, fun _ => ⟨hl, e⟩⟩
   . exact ⟨0, fun h => absurd h hi⟩
  obtain ⟨σ, hσ⟩ := Classical.axiomOfChoice hs;have e : aQ n B = aQ n (fun i => A (σ i)) := aV n fun i hi j _ => by rw [(hσ i hi).2]
  rw [e];rcases kG n A n σ (fun i hi => (hσ i hi).1) (fun i hi => by omega) (Nat.le_refl _) with h | h
  . rw [h]; exact Int.dvd_zero _
  . exact Int.natAbs_dvd_natAbs.1 (by rw [h]; exact Nat.dvd_refl _)
 | k + 1, hk, B, h1, h2 => by
  obtain ⟨c, hc⟩ := h1 k (by omega);have e : B = bU B k (fun j => sm n fun l => c l * A l j) := by
   funext a b;unfold bU;split
   . rename_i h; rw [h]; exact hc b
   . rfl
  rw [e, pV n B k (by omega)];have hd : ∀ l < n, aQ n A ∣ aQ n (bU B k (A l)) := fun l hl => mz n A k (by omega) _ (fun i hi => by rw [aS _ (by omega)]; exact h1 i (by omega)) (fun i hi hin => by
   by_cases hik : i = k
   . rw [hik, bM]; exact ⟨l, hl, rfl⟩
   . rw [aS _ hik]; exact h2 i (by omega) hin)
  have key : ∀ m, m <= n -> aQ n A ∣ sm m fun l => c l * aQ n (bU B k (A l)) := by
   intro m;induction m with
   | zero => intro _; exact Int.dvd_zero _
   | succ m ih => intro hm; exact Int.dvd_add (ih (by omega)) (Int.dvd_mul_of_dvd_right (hd m (by omega)))
  exact key n (Nat.le_refl _)
theorem qt (n : Nat) {A B : Mx} (h : bD n A n B) : (aQ n A).natAbs = (aQ n B).natAbs :=
 Nat.dvd_antisymm (Int.natAbs_dvd_natAbs.2 (mz n A n (Nat.le_refl _) B h.2 (fun i h1 h2 => by omega))) (Int.natAbs_dvd_natAbs.2 (mz n B n (Nat.le_refl _) A h.1 (fun i h1 h2 => by omega)))
def fk : Nat -> (Nat -> Nat) -> Nat
 | 0, _ => 1
 | n + 1, f => fk n f * f n
theorem gx : ∀ (n : Nat) {f g : Nat -> Nat}, (∀ i < n, f i = g i) -> fk n f = fk n g
 | 0, _, _, _ => rfl
 | n + 1, f, g, h => by unfold fk; rw [gx n (fun i hi => h i (by omega)), h n (by omega)]
theorem nK : ∀ (n : Nat) (f : Nat -> Nat) (m : Nat), m <= n -> fk (n + 1) f = f m * fk n fun a => f (bT m a)
 | 0, f, m, hm => by
  obtain rfl : m = 0 := by omega
  simp [fk]
 | n + 1, f, m, hm => by
  by_cases e : m = n + 1
  . subst e;have : fk (n + 1) (fun a => f (bT (n + 1) a)) = fk (n + 1) f := gx _ fun i hi => by unfold bT; rw [if_pos hi]
    rw [this, Nat.mul_comm]; rfl
  . have ih := nK n f m (by omega);show fk (n + 1) f * f (n + 1) = f m * (fk n (fun a => f (bT m a)) * f (bT m n));rw [ih, show bT m n = n + 1 by unfold bT; rw [if_neg (by omega)], Nat.mul_assoc]
theorem ll : ∀ (n : Nat) (M : Mx) (p : Nat -> Nat), (∀ i < n, p i < n) -> (∀ i < n, ∀ j < n, p i = p j -> i = j) -> (∀ i < n, ∀ j, j < p i -> M i j = 0) -> (aQ n M).natAbs = fk n fun i => (M i (p i)).natAbs
 | 0, _, _, _, _, _ => rfl
 | n + 1, M, p, h1, h2, h3 => by
  obtain ⟨m, hm, he⟩ := xR (n + 1) p h1 h2 0 (by omega);have hpos : ∀ i < n + 1, i ≠ m -> 0 < p i := fun i hi hne => Nat.pos_of_ne_zero fun e => hne (h2 i hi m hm (e.trans he.symm));have hsk : ∀ a < n, bT m a < n + 1 /\ bT m a ≠ m := fun a ha => by unfold bT; split <;> constructor <;> omega
  unfold aQ;rw [fN m hm fun i hi hne => by rw [h3 i hi 0 (hpos i hi hne)]; simp];have ih := ll n (minor M m) (fun a => p (bT m a) - 1) (fun a ha => by have := h1 _ (hsk a ha).1; have := hpos _ (hsk a ha).1 (hsk a ha).2; omega) (fun a ha b hb e => by
   have h4 := hpos _ (hsk a ha).1 (hsk a ha).2; have h5 := hpos _ (hsk b hb).1 (hsk b hb).2;have h6 := h2 _ (hsk a ha).1 _ (hsk b hb).1 (by omega);unfold bT at h6; split at h6 <;> split at h6 <;> omega) (fun a ha j hj => h3 _ (hsk a ha).1 (j + 1) (by omega))
  rw [Int.natAbs_mul, Int.natAbs_mul, ih, nK n _ m (by omega), he];have hs : (eC m).natAbs = 1 := by unfold eC; split <;> rfl
  rw [hs, Nat.one_mul];congr 1;exact gx n fun a ha => by
   have h4 := hpos _ (hsk a ha).1 (hsk a ha).2;unfold minor;rw [show p (bT m a) - 1 + 1 = p (bT m a) by omega]
structure o4 (k : Nat) (R : Mx) (p : Nat -> Nat) : Prop where
 at_ : ∀ i < k, R i (p i) ≠ 0
 zero : ∀ i < k, ∀ j < p i, R i j = 0
 clr : ∀ a < k, ∀ i < a, R a (p i) = 0
theorem o4.inj {k : Nat} {R : Mx} {p : Nat -> Nat} (h : o4 k R p) : ∀ i < k, ∀ j < k, p i = p j -> i = j := by
 have key : ∀ i j, i < j -> j < k -> p i ≠ p j := fun i j hij hj e => h.at_ j hj (e ▸ h.clr j hj i hij);intro i hi j hj e;rcases Nat.lt_trichotomy i j with h1 | h1 | h1
 . exact absurd e (key i j h1 hj)
 . exact h1
 . exact absurd e.symm (key j i h1 hi)
theorem o4.lead {k : Nat} {R : Mx} {p : Nat -> Nat} (h : o4 k R p) {v : Nat -> Int} (hv : Sp k R v) {q : Nat} (hq : v q ≠ 0) (h0 : ∀ j < q, v j = 0) : ∃ i < k, p i = q := by
 obtain ⟨x, hx⟩ := hv;have key : ∀ m a, p a = m -> m < q -> a < k -> x a = 0 := by
  intro m;induction m using Nat.strongRecOn with
  | _ m ih =>
   intro a hm hq ha;refine Classical.byContradiction fun hne => ?_;have h1 := h0 m hq;rw [hx, fN a ha fun b hb hba => ?_] at h1
   . rcases Int.mul_eq_zero.1 h1 with h2 | h2
     . exact hne h2
     . exact h.at_ a ha (hm ▸ h2)
   . rcases Nat.lt_trichotomy (p b) m with h2 | h2 | h2
     . rw [ih (p b) h2 b rfl (by omega) hb, Int.zero_mul]
     . exact absurd (h.inj b hb a ha (h2.trans hm.symm)) hba
     . rw [h.zero b hb m h2, Int.mul_zero]
 refine Classical.byContradiction fun hc => hq ?_;rw [hx];refine bL fun b hb => ?_;rcases Nat.lt_trichotomy (p b) q with h2 | h2 | h2
 . rw [key _ b rfl h2 hb, Int.zero_mul]
 . exact absurd ⟨b, hb, h2⟩ hc
 . rw [h.zero b hb q h2, Int.mul_zero]
theorem rT {k r n c : Nat} {R A E : Mx} {p l : Nat -> Nat} (h : o4 k R p) (hE : Ech r c E l) (hs : bD r E n A) (h1 : ∀ i < n, ∃ N : Int, N ≠ 0 /\ Sp k R fun j => N * A i j) (h2 : ∀ i < k, ∃ N : Int, N ≠ 0 /\ Sp n A fun j => N * R i j) : k = r := by
 have one : ∀ i < k, ∃ a, a < r /\ l a = p i := fun i hi => by
  obtain ⟨N, hN, hsp⟩ := h2 i hi;obtain ⟨a, ha, he, _⟩ := hE.lead (hsp.trans hs.2) (q := p i) (Int.mul_ne_zero hN (h.at_ i hi)) fun j hj => by rw [h.zero i hi j hj, Int.mul_zero]
  exact ⟨a, ha, he⟩
 have all : ∀ v, Sp n A v -> ∃ N : Int, N ≠ 0 /\ Sp k R fun j => N * v j := by
  intro v ⟨x, hx⟩;have key : ∀ m, m <= n -> ∃ N : Int, N ≠ 0 /\ Sp k R fun j => N * sm m fun i => x i * A i j := by
   intro m;induction m with
   | zero => intro _; exact ⟨1, by decide, (Sp.zero k R).congr fun j => by simp [sm]⟩
   | succ m ih =>
    intro hm;obtain ⟨N, hN, hsp⟩ := ih (by omega);obtain ⟨M, hM, hsq⟩ := h1 m (by omega);refine ⟨N * M, Int.mul_ne_zero hN hM, (((hsp.smul M).add (hsq.smul (N * x m))).congr fun j => ?_)⟩;simp only [sm];rw [Int.mul_add, Int.mul_comm N M, Int.mul_assoc];congr 1;rw [Int.mul_assoc, Int.mul_assoc, Int.mul_left_comm M N, Int.mul_left_comm M (x m)]
  obtain ⟨N, hN, hsp⟩ := key n (Nat.le_refl _);exact ⟨N, hN, hsp.congr fun j => by rw [hx]⟩
 have two : ∀ a < r, ∃ i, i < k /\ p i = l a := fun a ha => by
  obtain ⟨N, hN, hsp⟩ := all (E a) (hs.1 a ha);obtain ⟨i, hi, he⟩ := h.lead hsp (q := l a) (Int.mul_ne_zero hN (by have := hE.pos a ha; omega)) fun j hj => by rw [hE.zero a ha j hj, Int.mul_zero]
  exact ⟨i, hi, he⟩
 have le : ∀ (a b : Nat) (f g : Nat -> Nat), (∀ i < a, ∃ j, j < b /\ g j = f i) -> (∀ i < a, ∀ j < a, f i = f j -> i = j) -> a <= b := by
  intro a b f g hfg hinj;refine Nat.le_of_not_lt fun hlt => ?_;have hs : ∀ i, ∃ j, i < a -> j < b /\ g j = f i := fun i => by
   by_cases hi : i < a
   . obtain ⟨j, h1, h2⟩ := hfg i hi; exact ⟨j, fun _ => ⟨h1, h2⟩⟩
   . exact ⟨0, fun h => absurd h hi⟩
  obtain ⟨σ, hσ⟩ := Classical.axiomOfChoice hs;obtain ⟨i, j, h3, h4, h5⟩ := oX b σ fun i hi => (hσ i (by omega)).1;have := hinj i (by omega) j (by omega) (by rw [<- (hσ i (by omega)).2, <- (hσ j (by omega)).2, h5]);omega
 exact Nat.le_antisymm (le k r p l one h.inj) (le r k l p two fun i hi j hj e => by
  rcases Nat.lt_trichotomy i j with h1 | h1 | h1
  . have := hE.inc i j h1 hj; omega
  . exact h1
  . have := hE.inc j i h1 hi; omega)
theorem rk {k n : Nat} {R A : Mx} (h1 : ∀ i < n, ∃ N : Int, N ≠ 0 /\ Sp k R fun j => N * A i j) {v : Nat -> Int} (hv : Sp n A v) : ∃ N : Int, N ≠ 0 /\ Sp k R fun j => N * v j := by
 obtain ⟨x, hx⟩ := hv;have key : ∀ m, m <= n -> ∃ N : Int, N ≠ 0 /\ Sp k R fun j => N * sm m fun i => x i * A i j := by
  intro m;induction m with
  | zero => intro _; exact ⟨1, by decide, (Sp.zero k R).congr fun j => by simp [sm]⟩
  | succ m ih =>
   intro hm;obtain ⟨N, hN, hsp⟩ := ih (by omega);obtain ⟨M, hM, hsq⟩ := h1 m (by omega);refine ⟨N * M, Int.mul_ne_zero hN hM, (((hsp.smul M).add (hsq.smul (N * x m))).congr fun j => ?_)⟩;simp only [sm];rw [Int.mul_add, Int.mul_comm N M, Int.mul_assoc];congr 1;rw [Int.mul_assoc, Int.mul_assoc, Int.mul_left_comm M N, Int.mul_left_comm M (x m)]
 obtain ⟨N, hN, hsp⟩ := key n (Nat.le_refl _);exact ⟨N, hN, hsp.congr fun j => by rw [hx]⟩
def lY : Nat -> (Nat -> Int) -> Int
 | 0, _ => 1
 | n + 1, f => lY n f * f n
theorem qO : ∀ (n : Nat) {f : Nat -> Int}, (∀ i < n, f i ≠ 0) -> lY n f ≠ 0
 | 0, _, _ => Int.one_ne_zero
 | n + 1, f, h => Int.mul_ne_zero (qO n fun i hi => h i (by omega)) (h n (by omega))
theorem ya (n : Nat) (A R : Mx) (up dn : Nat -> Int) (c : Nat -> Nat -> Int) (h : ∀ i < n, ∀ j, dn i * R i j = up i * A i j + sm i fun t => c i t * R t j) : lY n dn * aQ n R = lY n up * aQ n A := by
 obtain ⟨X, hX⟩ : ∃ X : Nat -> Mx, ∀ k i, X k i = if i < k then R i else A i := ⟨fun k i => if i < k then R i else A i, fun _ _ => rfl⟩;have key : ∀ k, k <= n -> lY k dn * aQ n (X k) = lY k up * aQ n A := by
  intro k;induction k with
  | zero =>
   intro _;have : X 0 = A := by funext i; rw [hX, if_neg (Nat.not_lt_zero i)]
   rw [this]; rfl
  | succ k ih =>
   intro hk;have h1 : X (k + 1) = bU (X k) k (R k) := by
    funext i j;unfold bU;rw [hX, hX];by_cases e : i = k
    . subst e; rw [if_pos (by omega), if_pos rfl]
    . rw [if_neg e];by_cases e2 : i < k
      . rw [if_pos (by omega), if_pos e2]
      . rw [if_neg (by omega), if_neg e2]
   have h2 : dn k * aQ n (X (k + 1)) = up k * aQ n (X k) := by
    rw [h1, <- jl n (X k) k (dn k) (R k) hk];have e : (fun j => dn k * R k j) = fun j => (up k * A k j) + sm k fun t => (if t < k then c k t else 0) * X k t j := by
     funext j;rw [h k hk];congr 1;exact aF fun t ht => by rw [if_pos ht, hX, if_pos ht]
    rw [e, kh n (X k) k hk (fun t => if t < k then c k t else 0) (by rw [if_neg (Nat.lt_irrefl k)]) k (by omega) (fun j => up k * A k j), jl n (X k) k (up k) (A k) hk];congr 1;have : bU (X k) k (A k) = X k := by
     have := gP (X k) k;rw [hX k k, if_neg (Nat.lt_irrefl k)] at this; exact this
    rw [this]
   rw [lY, lY, Int.mul_assoc, h2, Int.mul_left_comm, ih (by omega), <- Int.mul_assoc, Int.mul_comm (up k)]
 have := key n (Nat.le_refl n);have e : aQ n (X n) = aQ n R := aV n fun i hi j _ => by rw [hX, if_pos hi]
 rw [e] at this; exact this
def tp (A : Mx) : Mx := fun i j => A j i
def Mn (k : Nat) (x : Int) (r c : Nat) (A : Mx) : Prop := ∀ σ τ : Nat -> Nat, (∀ a < k, σ a < r) -> (∀ b < k, τ b < c) -> x ∣ aQ k fun a b => A (σ a) (τ b)
theorem y8 {x : Int} {f : Nat -> Int} : ∀ m, (∀ l < m, x ∣ f l) -> x ∣ sm m f
 | 0, _ => Int.dvd_zero _
 | m + 1, h => Int.dvd_add (y8 m fun l hl => h l (by omega)) (h m (by omega))
theorem rJ {k r : Nat} {x : Int} {A B : Mx} (h : ∀ σ : Nat -> Nat, (∀ a < k, σ a < r) -> x ∣ aQ k fun a b => A (σ a) b) (hB : ∀ i < k, Sp r A (B i)) : x ∣ aQ k B := by
 have key : ∀ m, m <= k -> ∀ N : Mx, (∀ a < m, ∃ i < k, N a = B i) -> (∀ a, m <= a -> a < k -> ∃ i < r, N a = A i) -> x ∣ aQ k N := by
  intro m;induction m with
  | zero =>
   intro _ N _ h2;have hs : ∀ a, ∃ i, a < k -> i < r /\ N a = A i := fun a => by
    by_cases ha : a < k
    . obtain ⟨i, hi, e⟩ := h2 a (Nat.zero_le _) ha; exact ⟨i, fun _ => ⟨hi, e⟩⟩
    . exact ⟨0, fun q => absurd q ha⟩
   obtain ⟨ρ, hρ⟩ := Classical.axiomOfChoice hs;rw [aV k (N := fun a b => A (ρ a) b) fun a ha b _ => by rw [(hρ a ha).2]];exact h ρ fun a ha => (hρ a ha).1
  | succ m ih =>
   intro hm N h1 h2;obtain ⟨i, hi, e⟩ := h1 m (by omega);obtain ⟨y, hy⟩ := hB i hi;have eN : N = bU N m fun b => sm r fun l => y l * A l b := by
    funext a b;unfold bU;split
    . rename_i q; rw [q, e, hy]
    . rfl
   rw [eN, pV k N m (by omega) y A];refine y8 r fun l hl => Int.dvd_mul_of_dvd_right (ih (by omega) _ (fun a ha => ?_) fun a ha hk => ?_)
   . obtain ⟨i', hi', e'⟩ := h1 a (by omega);exact ⟨i', hi', by rw [aS N (by omega)]; exact e'⟩
   . by_cases q : a = m
     . exact ⟨l, hl, by rw [q, bM]⟩
     . obtain ⟨i', hi', e'⟩ := h2 a (by omega) hk;exact ⟨i', hi', by rw [aS N q]; exact e'⟩
 exact key k (Nat.le_refl _) _ (fun a ha => ⟨a, ha, rfl⟩) fun a h1 h2 => by omega
section
variable {k k' s w : Nat} {T H : Mx} {l : Nat -> Nat}
end
theorem pb {B : Nat} : ∀ (n : Nat) (M : Mx), (∀ i j, (M i j).natAbs <= B) -> (aQ n M).natAbs <= (n * B) ^ n
 | 0, _, _ => Nat.le_refl _
 | n + 1, M, h => by
  unfold aQ;have h1 : (sm (n + 1) fun i => eC i * M i 0 * aQ n (minor M i)).natAbs <= (n + 1) * (B * (n * B) ^ n) := pR fun i _ => by
   rw [Int.natAbs_mul, Int.natAbs_mul, show (eC i).natAbs = 1 by unfold eC; split <;> rfl, Nat.one_mul];exact Nat.mul_le_mul (h i 0) (pb n (minor M i) fun a b => h _ _)
  refine Nat.le_trans h1 ?_;rw [Nat.pow_succ, Nat.mul_comm ((( n + 1) * B) ^ n), Nat.mul_assoc (n + 1) B];exact Nat.mul_le_mul_left _ (Nat.mul_le_mul_left _ (Nat.pow_le_pow_left (Nat.mul_le_mul_right _ (by omega)) n))
theorem mv {a b : Nat} (h : a % 2 = b % 2) : eC a = eC b := by unfold eC; rw [h]
theorem pX (a b : Nat) : eC a * eC b = eC (a + b) := by
 unfold eC;rcases Nat.mod_two_eq_zero_or_one a with h | h <;> rcases Nat.mod_two_eq_zero_or_one b with h' | h' <;> rw [h, h'] <;> simp <;> omega
theorem sS {n p : Nat} (hp : p < n + 1) (g : Nat -> Int) : sm n (fun a => g (bT p a)) = sm (n + 1) fun q => if q = p then 0 else g q := by
 obtain ⟨m, rfl⟩ : ∃ m, n = p + m := ⟨n - p, by omega⟩;rw [gV p m, Nat.add_assoc, gV p (m + 1), Nat.add_comm m 1, gV 1 m];have e1 : sm p (fun a => g (bT p a)) = sm p fun q => if q = p then 0 else g q := aF fun a ha => by
  rw [if_neg (by omega)]; unfold bT; rw [if_pos ha]
 have e2 : sm m (fun k => g (bT p (p + k))) = sm m fun k => if p + (1 + k) = p then 0 else g (p + (1 + k)) := aF fun a ha => by
  rw [if_neg (by omega)]; unfold bT; rw [if_neg (by omega)]; congr 1; omega
 have e3 : (sm 1 fun k => if p + k = p then 0 else g (p + k)) = 0 := by simp [sm]
 rw [e1, e2, e3, Int.zero_add]
def sR (p q b : Nat) : Nat := if b < min p q then b else if b + 1 < max p q then b + 1 else b + 2
theorem qz (p q b : Nat) : sR p q b = sR q p b := by unfold sR; rw [Nat.min_comm, Nat.max_comm]
theorem pD (p a b : Nat) : bT p (bT a b) = sR p (bT p a) b := by
 unfold sR bT;by_cases h1 : a < p
 . simp only [h1, if_true];by_cases h2 : b < a
   . rw [if_pos h2, if_pos (by omega), if_pos (by omega)]
   . rw [if_neg h2];by_cases h3 : b + 1 < p
     . rw [if_pos h3, if_neg (by omega), if_pos (by omega)]
     . rw [if_neg h3, if_neg (by omega), if_neg (by omega)]
 . simp only [h1, if_false];by_cases h2 : b < a
   . rw [if_pos h2];by_cases h3 : b < p
     . rw [if_pos h3, if_pos (by omega)]
     . rw [if_neg h3, if_neg (by omega), if_pos (by omega)]
   . rw [if_neg h2, if_neg (by omega), if_neg (by omega), if_neg (by omega)]
def pP (n : Nat) (M : Mx) (p q : Nat) : Int := eC (p + q + n + if q < p then 0 else 1) * M p 0 * M q (n + 1) * aQ n fun a b => M (sR p q a) (b + 1)
theorem mH : ∀ (n : Nat) (M : Mx), aQ (n + 1) M = sm (n + 1) fun i => eC (i + n) * M i n * aQ n fun a b => M (bT i a) b
 | 0, M => rfl
 | n + 1, M => by
  have h1 : aQ (n + 2) M = sm (n + 2) fun p => sm (n + 2) fun q => if q = p then 0 else pP n M p q := by
   rw [aQ];refine aF fun p hp => ?_;rw [mH n (minor M p), <- ep, <- sS hp];refine aF fun a ha => ?_;have e : (fun a' b => minor M p (bT a a') b) = fun a' b => M (sR p (bT p a) a') (b + 1) := by
    funext a' b;show M (bT p (bT a a')) (b + 1) = _;rw [pD]
   rw [e];unfold pP;generalize aQ n (fun a' b => M (sR p (bT p a) a') (b + 1)) = D;have e2 : eC (p + bT p a + n + if bT p a < p then 0 else 1) = eC p * eC (a + n) := by
    rw [pX]; refine mv ?_; unfold bT; (repeat' split) <;> omega
   rw [e2];show eC p * M p 0 * (eC (a + n) * M (bT p a) (n + 1) * D) = _
   ac_rfl
  have h2 : (sm (n + 2) fun i => eC (i + (n + 1)) * M i (n + 1) * aQ (n + 1) fun a b => M (bT i a) b) = sm (n + 2) fun q => sm (n + 2) fun p => if p = q then 0 else pP n M p q := by
   refine aF fun q hq => ?_;rw [aQ, <- ep, <- sS hq];refine aF fun a ha => ?_;have e : minor (fun a b => M (bT q a) b) a = fun a' b => M (sR (bT q a) q a') (b + 1) := by
    funext a' b;show M (bT q (bT a a')) (b + 1) = _;rw [pD, qz]
   rw [e];unfold pP;generalize aQ n (fun a' b => M (sR (bT q a) q a') (b + 1)) = D;have e2 : eC (bT q a + q + n + if q < bT q a then 0 else 1) = eC (q + (n + 1)) * eC a := by
    rw [pX]; refine mv ?_; unfold bT; (repeat' split) <;> omega
   rw [e2]
   ac_rfl
  rw [h1, h2, qg];refine aF fun q _ => aF fun p _ => ?_;by_cases h : q = p
  . rw [if_pos h, if_pos h.symm]
  . rw [if_neg h, if_neg (fun e => h e.symm)]
theorem qL : ∀ (n t : Nat) (M : Mx), t < n -> (∀ a, a < n + 1 -> M a t = M a n) -> aQ (n + 1) M = 0
 | n + 1, 0, M, _, h => by
  have h1 : aQ (n + 2) M = sm (n + 2) fun p => sm (n + 2) fun q => if q = p then 0 else pP n M p q := by
   rw [aQ];refine aF fun p hp => ?_;rw [mH n (minor M p), <- ep, <- sS hp];refine aF fun a ha => ?_;have e : (fun a' b => minor M p (bT a a') b) = fun a' b => M (sR p (bT p a) a') (b + 1) := by
    funext a' b;show M (bT p (bT a a')) (b + 1) = _;rw [pD]
   rw [e];unfold pP;generalize aQ n (fun a' b => M (sR p (bT p a) a') (b + 1)) = D;have e2 : eC (p + bT p a + n + if bT p a < p then 0 else 1) = eC p * eC (a + n) := by
    rw [pX]; refine mv ?_; unfold bT; (repeat' split) <;> omega
   rw [e2];show eC p * M p 0 * (eC (a + n) * M (bT p a) (n + 1) * D) = _
   ac_rfl
  have h2 : (sm (n + 2) fun p => sm (n + 2) fun q => if q = p then 0 else pP n M p q) = - sm (n + 2) fun p => sm (n + 2) fun q => if q = p then 0 else pP n M p q := by
   conv => lhs; rw [qg]
   have e : ∀ f : Nat -> Int, - sm (n + 2) f = sm (n + 2) fun i => (-1) * f i := fun f => by rw [ep]; omega
   rw [e];refine aF fun p hp => ?_;rw [<- ep];refine aF fun q hq => ?_;by_cases hpq : p = q
   . rw [if_pos hpq, if_pos hpq.symm]; rfl
   . rw [if_neg hpq, if_neg (fun e => hpq e.symm)];unfold pP;have eD : (fun a b => M (sR q p a) (b + 1)) = fun a b => M (sR p q a) (b + 1) := by funext a b; rw [qz]
     rw [eD];generalize aQ n (fun a b => M (sR p q a) (b + 1)) = D;have es : eC (q + p + n + if p < q then 0 else 1) = - eC (p + q + n + if q < p then 0 else 1) := by
      rw [<- kS]; refine mv ?_; (repeat' split) <;> omega
     rw [es, <- h p (by omega), h q (by omega)];rw [Int.neg_mul, Int.neg_mul, Int.neg_mul, Int.neg_one_mul, Int.mul_assoc (eC _) (M q _), Int.mul_comm (M q _), <- Int.mul_assoc (eC _)]
  rw [h1]; omega
 | n + 1, t + 1, M, ht, h => by
  rw [aQ];refine bL fun p hp => ?_;rw [qL n t (minor M p) (by omega) fun a ha => h _ (by unfold bT; split <;> omega), Int.mul_zero]
theorem lf : ∀ (k m : Nat) (M : Mx), (∀ a, k <= a -> a < k + m -> ∀ b < k, M a b = 0) -> aQ (k + m) M = aQ k M * aQ m fun a b => M (k + a) (k + b)
 | 0, m, M, _ => by
  rw [Nat.zero_add];show aQ m M = 1 * _;rw [Int.one_mul];exact aV m fun a _ b _ => by rw [Nat.zero_add, Nat.zero_add]
 | k + 1, m, M, h => by
  rw [show k + 1 + m = k + m + 1 by omega, aQ, show k + m + 1 = k + 1 + m by omega, gV (k + 1) m];have e0 : (sm m fun i => eC (k + 1 + i) * M (k + 1 + i) 0 * aQ (k + m) (minor M (k + 1 + i))) = 0 := bL fun i hi => by
   rw [h (k + 1 + i) (by omega) (by omega) 0 (by omega), Int.mul_zero, Int.zero_mul]
  rw [e0, Int.add_zero, aQ, <- pK];refine aF fun i hi => ?_;have e : (aQ m fun a b => minor M i (k + a) (k + b)) = aQ m fun a b => M (k + 1 + a) (k + 1 + b) := aV m fun a _ b _ => by
   show M (bT i (k + a)) (k + b + 1) = _;unfold bT;rw [if_neg (by omega), show k + a + 1 = k + 1 + a by omega, show k + b + 1 = k + 1 + b by omega]
  rw [lf k m (minor M i) fun a h1 h2 b hb => h _ (by unfold bT; split <;> omega) (by unfold bT; split <;> omega) _ (by omega), e]
  ac_rfl
theorem det2 (M : Mx) : aQ 2 M = M 0 0 * M 1 1 - M 1 0 * M 0 1 := by
 simp [aQ, sm, eC, minor, bT, Int.neg_mul];omega
def mn (k : Nat) (A : Mx) (nu cs : Nat -> Nat) (i j : Nat) : Int := aQ (k + 1) fun a b => A (if a < k then nu a else i) (if b < k then cs b else j)
def dn (k : Nat) (A : Mx) (nu cs : Nat -> Nat) : Int := aQ k fun a b => A (nu a) (cs b)
section
variable {A : Mx} {nu cs : Nat -> Nat} {k : Nat}
theorem iG (k : Nat) (A : Mx) (nu cs : Nat -> Nat) (i : Nat) : ∃ y : Nat -> Int, ∀ j, mn k A nu cs i j = dn k A nu cs * A i j + sm k fun t => y t * A (nu t) j := by
 refine ⟨fun t => eC (t + k) * aQ k fun a b => A (if bT t a < k then nu (bT t a) else i) (cs b), fun j => ?_⟩;unfold mn;rw [mH, sm, Int.add_comm];congr 1
 . have e : (aQ k fun a b => A (if bT k a < k then nu (bT k a) else i) (if b < k then cs b else j)) = dn k A nu cs := aV k fun a ha b hb => by
    have : bT k a = a := by unfold bT; rw [if_pos ha]
    rw [this, if_pos ha, if_pos hb]
   rw [e, if_neg (Nat.lt_irrefl k), if_neg (Nat.lt_irrefl k), show eC (k + k) = 1 by unfold eC; rw [if_pos (by omega)], Int.one_mul, Int.mul_comm]
 . refine aF fun t ht => ?_;rw [if_pos ht, if_neg (Nat.lt_irrefl k)];have e : (aQ k fun a b => A (if bT t a < k then nu (bT t a) else i) (if b < k then cs b else j)) = aQ k fun a b => A (if bT t a < k then nu (bT t a) else i) (cs b) := aV k fun a _ b hb => by rw [if_pos hb]
   rw [e, Int.mul_right_comm]
theorem mx {t : Nat} (ht : t < k) (i : Nat) : mn k A nu cs i (cs t) = 0 := by
 unfold mn;exact qL k t _ ht fun a _ => by rw [if_pos ht, if_neg (Nat.lt_irrefl k)]
theorem uI : dn (k + 1) A nu cs = mn k A nu cs (nu k) (cs k) := aV (k + 1) fun a ha b hb => by
 have e1 : (if a < k then nu a else nu k) = nu a := by split; rfl; rw [show a = k by omega]
 have e2 : (if b < k then cs b else cs k) = cs b := by split; rfl; rw [show b = k by omega]
 rw [e1, e2]
theorem fP {nu' cs' : Nat -> Nat} (h1 : ∀ t < k, nu' t = nu t) (h2 : ∀ t < k, cs' t = cs t) (i j : Nat) : mn k A nu' cs' i j = mn k A nu cs i j := aV (k + 1) fun a _ b _ => by
 have e1 : (if a < k then nu' a else i) = if a < k then nu a else i := by split; exact h1 a ‹_›; rfl
 have e2 : (if b < k then cs' b else j) = if b < k then cs b else j := by split; exact h2 b ‹_›; rfl
 rw [e1, e2]
theorem qA {nu' cs' : Nat -> Nat} (h1 : ∀ t < k, nu' t = nu t) (h2 : ∀ t < k, cs' t = cs t) : dn k A nu' cs' = dn k A nu cs := aV k fun a ha b hb => by rw [h1 a ha, h2 b hb]
theorem nH (n : Nat) (M : Mx) {r : Nat} (hr : r < n) (d : Int) (y : Nat -> Int) {m : Nat} (hm : m <= r) : aQ n (bU M r fun b => d * M r b + sm m fun t => y t * M t b) = d * aQ n M := by
 have e : (fun b => d * M r b + sm m fun t => y t * M t b) = fun b => d * M r b + sm m fun t => (if t < m then y t else 0) * M t b := by
  funext b; congr 1; exact aF fun t ht => by rw [if_pos ht]
 rw [e, kh n M r hr (fun t => if t < m then y t else 0) (if_neg (by omega)) m (by omega), jl n M r d _ hr, gP]
theorem AQ (h0 : dn k A nu cs ≠ 0) (i j : Nat) : dn k A nu cs * mn (k + 1) A nu cs i j = mn k A nu cs (nu k) (cs k) * mn k A nu cs i j - mn k A nu cs i (cs k) * mn k A nu cs (nu k) j := by
 obtain ⟨col, hcol⟩ : ∃ col : Nat -> Nat, ∀ b, col b = if b < k + 1 then cs b else j := ⟨fun b => if b < k + 1 then cs b else j, fun _ => rfl⟩;obtain ⟨M, hM⟩ : ∃ M : Mx, ∀ a b, M a b = A (if a < k + 1 then nu a else i) (col b) := ⟨fun a b => A (if a < k + 1 then nu a else i) (col b), fun _ _ => rfl⟩;have hN : mn (k + 1) A nu cs i j = aQ (k + 2) M := aV (k + 2) fun a _ b _ => by rw [hM, hcol]
 obtain ⟨y, hy⟩ := iG k A nu cs i;obtain ⟨z, hz⟩ := iG k A nu cs (nu k);have hMt : ∀ t < k, ∀ b, M t b = A (nu t) (col b) := fun t ht b => by rw [hM, if_pos (by omega)]
 have e1 : (fun b => mn k A nu cs i (col b)) = fun b => dn k A nu cs * M (k + 1) b + sm k fun t => y t * M t b := by
  funext b;rw [hy, hM (k + 1), if_neg (by omega)];congr 1;exact aF fun t ht => by rw [hMt t ht]
 have d1 : aQ (k + 2) (bU M (k + 1) fun b => mn k A nu cs i (col b)) = dn k A nu cs * aQ (k + 2) M := by
  rw [e1]; exact nH (k + 2) M (by omega) _ y (by omega)
 obtain ⟨M1, hM1⟩ : ∃ M1, bU M (k + 1) (fun b => mn k A nu cs i (col b)) = M1 := ⟨_, rfl⟩;rw [hM1] at d1;have hM1t : ∀ t < k + 1, ∀ b, M1 t b = M t b := fun t ht b => by rw [<- hM1, aS _ (by omega)]
 have e2 : (fun b => mn k A nu cs (nu k) (col b)) = fun b => dn k A nu cs * M1 k b + sm k fun t => z t * M1 t b := by
  funext b;rw [hz, hM1t k (by omega), hM k, if_pos (by omega)];congr 1;exact aF fun t ht => by rw [hM1t t (by omega), hMt t ht]
 have d2 : aQ (k + 2) (bU M1 k fun b => mn k A nu cs (nu k) (col b)) = dn k A nu cs * aQ (k + 2) M1 := by
  rw [e2]; exact nH (k + 2) M1 (by omega) _ z (Nat.le_refl k)
 obtain ⟨M2, hM2⟩ : ∃ M2, bU M1 k (fun b => mn k A nu cs (nu k) (col b)) = M2 := ⟨_, rfl⟩;rw [hM2, d1] at d2;have r0 : ∀ b, M2 k b = mn k A nu cs (nu k) (col b) := fun b => by rw [<- hM2, bM]
 have r1 : ∀ b, M2 (k + 1) b = mn k A nu cs i (col b) := fun b => by rw [<- hM2, aS _ (by omega), <- hM1, bM]
 have hb := lf k 2 M2 fun a h1 h2 b hb => by
  have hc : col b = cs b := by rw [hcol, if_pos (by omega)]
  rcases (by omega : a = k \/ a = k + 1) with rfl | rfl
  . rw [r0, hc]; exact mx hb _
  . rw [r1, hc]; exact mx hb _
 have hd : aQ k M2 = dn k A nu cs := aV k fun a ha b hb => by
  rw [<- hM2, aS _ (by omega), hM1t a (by omega), hM, if_pos (by omega), hcol, if_pos (by omega)]
 have c0 : col k = cs k := by rw [hcol, if_pos (by omega)]
 have c1 : col (k + 1) = j := by rw [hcol, if_neg (by omega)]
 rw [hb, hd, det2] at d2;simp only [Nat.add_zero] at d2;rw [r0, r0, r1, r1, c0, c1] at d2;rw [hN];exact (Int.eq_of_mul_eq_mul_left h0 d2).symm
structure iu (n m : Nat) (A : Mx) (c k : Nat) (nu cs : Nat -> Nat) (R : Mx) (d : Int) : Prop where
 kn : k <= n
 cm : c <= m
 lt : ∀ i < n, nu i < n
 inj : ∀ i < n, ∀ j < n, nu i = nu j -> i = j
 inc : ∀ a b, a < b -> b < k -> cs a < cs b
 csl : ∀ t < k, cs t < c
 dE : d = dn k A nu cs
 d0 : d ≠ 0
 row : ∀ i, k <= i -> i < n -> ∀ j < m, R i j = mn k A nu cs (nu i) j
 z : ∀ i, k <= i -> i < n -> ∀ j < c, R i j = 0
 lz : ∀ t < k, ∀ j < cs t, mn t A nu cs (nu t) j = 0
 l0 : ∀ t < k, mn t A nu cs (nu t) (cs t) ≠ 0
end
section
variable {n m : Nat} {A : Mx} {c k : Nat} {nu cs : Nat -> Nat} {R : Mx} {d : Int}
theorem iu.start {n m : Nat} {A R : Mx} (cs : Nat -> Nat) (hR : ∀ i < n, ∀ j < m, R i j = A i j) : iu n m A 0 0 (fun i => i) cs R 1 :=
 ⟨Nat.zero_le _, Nat.zero_le _, fun _ h => h, fun _ _ _ _ e => e, fun _ _ _ h => by omega, fun _ h => by omega, rfl, by decide, fun i _ hi j hj => by rw [hR i hi j hj]; simp [mn, aQ, sm, eC], fun _ _ _ _ h => by omega, fun _ h => by omega, fun _ h => by omega⟩
theorem iu.skip (h : iu n m A c k nu cs R d) (hc : c < m) (h0 : ∀ i, k <= i -> i < n -> R i c = 0) : iu n m A (c + 1) k nu cs R d :=
 ⟨h.kn, hc, h.lt, h.inj, h.inc, fun t ht => by have := h.csl t ht; omega, h.dE, h.d0, h.row, fun i h1 h2 j hj => by
  rcases (by omega : j < c \/ j = c) with q | rfl
  . exact h.z i h1 h2 j q
  . exact h0 i h1 h2, h.lz, h.l0⟩
def lu (k p i : Nat) : Nat := if i = k then p else if i = p then k else i
theorem gE {n k p i : Nat} (hk : k < n) (hp : p < n) (hi : i < n) : lu k p i < n := by unfold lu; (repeat' split) <;> omega
theorem wD {k p i : Nat} (hp : k <= p) (hi : k <= i) : k <= lu k p i := by unfold lu; (repeat' split) <;> omega
theorem zY {k p i : Nat} (hp : k <= p) (hi : i < k) : lu k p i = i := by unfold lu; rw [if_neg (by omega), if_neg (by omega)]
theorem u4 {k p i j : Nat} (h : lu k p i = lu k p j) : i = j := by unfold lu at h; (repeat' split at h) <;> omega
theorem iu.swap {p : Nat} {R' : Mx} (h : iu n m A c k nu cs R d) (hp : k <= p) (hpn : p < n) (hR : ∀ i, k <= i -> i < n -> ∀ j < m, R' i j = R (lu k p i) j) : iu n m A c k (fun i => nu (lu k p i)) cs R' d := by
 have hk : k < n := by omega
 have hl : ∀ t < k, nu (lu k p t) = nu t := fun t ht => by rw [zY hp ht]
 refine ⟨h.kn, h.cm, fun i hi => h.lt _ (gE hk hpn hi), fun i hi j hj e => u4 (h.inj _ (gE hk hpn hi) _ (gE hk hpn hj) e), h.inc, h.csl, ?_, h.d0, fun i h1 h2 j hj => ?_, fun i h1 h2 j hj => ?_, fun t ht j hj => ?_, fun t ht => ?_⟩
 . rw [qA (cs' := cs) hl (fun _ _ => rfl)]; exact h.dE
 . rw [hR i h1 h2 j hj, h.row _ (wD hp h1) (gE hk hpn h2) j hj, fP (nu := nu) (cs := cs) hl (fun _ _ => rfl)]
 . have := h.cm;rw [hR i h1 h2 j (by omega)]; exact h.z _ (wD hp h1) (gE hk hpn h2) j hj
 . rw [fP (nu := nu) (cs := cs) (fun s hs => hl s (by omega)) (fun _ _ => rfl), hl t ht]; exact h.lz t ht j hj
 . rw [fP (nu := nu) (cs := cs) (fun s hs => hl s (by omega)) (fun _ _ => rfl), hl t ht]; exact h.l0 t ht
def ma (cs : Nat -> Nat) (k c : Nat) : Nat -> Nat := fun t => if t = k then c else cs t
theorem eh {t : Nat} (ht : t < k) : ma cs k c t = cs t := by unfold ma; rw [if_neg (by omega)]
theorem kd : ma cs k c k = c := by unfold ma; rw [if_pos rfl]
theorem iu.exact (h : iu n m A c k nu cs R d) (hc : c < m) {i j : Nat} (hi : k < i) (hin : i < n) (hj : j < m) : R k c * R i j - R i c * R k j = d * mn (k + 1) A nu (ma cs k c) (nu i) j := by
 have hcg : ∀ i j, mn k A nu (ma cs k c) i j = mn k A nu cs i j := fun i j => fP (fun _ _ => rfl) (fun t ht => eh ht) i j;have hdg : dn k A nu (ma cs k c) = d := by rw [h.dE]; exact qA (fun _ _ => rfl) (fun t ht => eh ht)
 have := AQ (A := A) (nu := nu) (cs := ma cs k c) (k := k) (by rw [hdg]; exact h.d0) (nu i) j;rw [hdg, kd, hcg, hcg, hcg, hcg] at this;rw [this, h.row k (Nat.le_refl _) (by omega) c hc, h.row i (by omega) hin j hj, h.row i (by omega) hin c hc, h.row k (Nat.le_refl _) (by omega) j hj]
theorem iu.take {R' : Mx} (h : iu n m A c k nu cs R d) (hc : c < m) (hk : k < n) (hp : R k c ≠ 0) (hR : ∀ i, k < i -> i < n -> ∀ j < m, R' i j = if c < j then mn (k + 1) A nu (ma cs k c) (nu i) j else 0) : iu n m A (c + 1) (k + 1) nu (ma cs k c) R' (R k c) := by
 have hcg : ∀ i j, mn k A nu (ma cs k c) i j = mn k A nu cs i j := fun i j => fP (fun _ _ => rfl) (fun t ht => eh ht) i j;have hz : ∀ i, k < i -> i < n -> ∀ j, j <= c -> mn (k + 1) A nu (ma cs k c) (nu i) j = 0 := fun i h1 h2 j hj => by
  have e := h.exact hc h1 h2 (j := j) (by omega);rcases (by omega : j < c \/ j = c) with q | rfl
  . rw [h.z i (by omega) h2 j q, h.z k (Nat.le_refl _) hk j q, Int.mul_zero, Int.mul_zero, Int.sub_zero] at e;exact (Int.mul_eq_zero.1 e.symm).resolve_left h.d0
  . rw [Int.mul_comm, Int.sub_self] at e;exact (Int.mul_eq_zero.1 e.symm).resolve_left h.d0
 refine ⟨hk, hc, h.lt, h.inj, fun a b hab hb => ?_, fun t ht => ?_, ?_, hp, fun i h1 h2 j hj => ?_, fun i h1 h2 j hj => ?_, fun t ht j hj => ?_, fun t ht => ?_⟩
 . rcases (by omega : b < k \/ b = k) with q | rfl
   . rw [eh (by omega), eh q]; exact h.inc a b hab q
   . rw [eh hab, kd]; exact h.csl a hab
 . rcases (by omega : t < k \/ t = k) with q | rfl
   . rw [eh q]; have := h.csl t q; omega
   . rw [kd]; omega
 . rw [uI, kd, hcg]; exact h.row k (Nat.le_refl _) hk c hc
 . rw [hR i (by omega) h2 j hj];split
   . rfl
   . exact (hz i (by omega) h2 j (by omega)).symm
 . rw [hR i (by omega) h2 j (by omega), if_neg (by omega)]
 . rcases (by omega : t < k \/ t = k) with q | rfl
   . rw [eh q] at hj;rw [fP (nu := nu) (cs := cs) (fun _ _ => rfl) (fun s hs => eh (by omega))]; exact h.lz t q j hj
   . rw [kd] at hj;rw [hcg, <- h.row t (Nat.le_refl _) hk j (by omega)]; exact h.z t (Nat.le_refl _) hk j hj
 . rcases (by omega : t < k \/ t = k) with q | rfl
   . rw [eh q, fP (nu := nu) (cs := cs) (fun _ _ => rfl) (fun s hs => eh (by omega))]; exact h.l0 t q
   . rw [kd, hcg, <- h.row t (Nat.le_refl _) hk c hc]; exact hp
theorem mn_bd {B : Nat} (hA : ∀ i j, (A i j).natAbs <= B) (k i j : Nat) : (mn k A nu cs i j).natAbs <= ((k + 1) * B) ^ (k + 1) := pb (k + 1) _ fun _ _ => hA _ _
theorem iu.aQ {s : Int} (h : iu n n A n n nu cs R d) : d = Go.Proofs.YtjjlmfmoihooiaaGreat.aQ n fun a b => A (nu a) b := by
 have hc : ∀ t < n, cs t = t := by
  intro t ht;have h1 : ∀ s, s < n -> s <= cs s := by
   intro s;induction s with
   | zero => intro _; exact Nat.zero_le _
   | succ s ih => intro hs; have := ih (by omega); have := h.inc s (s + 1) (by omega) hs; omega
  have h2 : ∀ e s, s + e + 1 = n -> cs s <= s := by
   intro e;induction e with
   | zero => intro s hs; have := h.csl s (by omega); omega
   | succ e ih => intro s hs; have := ih (s + 1) (by omega); have := h.inc s (s + 1) (by omega) (by omega); omega
  have := h1 t ht;have := h2 (n - t - 1) t (by omega);omega
 rw [h.dE];exact aV n fun a _ b hb => by rw [hc b hb]
theorem iu.det0 (h : iu n n A k k nu cs R d) (hk : k < n) (h0 : ∀ i, k <= i -> i < n -> R i k = 0) : (Go.Proofs.YtjjlmfmoihooiaaGreat.aQ n fun a b => A (nu a) b) = 0 := by
 have hc : ∀ t < k, cs t = t := by
  intro t ht;have h1 : ∀ s, s < k -> s <= cs s := by
   intro s;induction s with
   | zero => intro _; exact Nat.zero_le _
   | succ s ih => intro hs; have := ih (by omega); have := h.inc s (s + 1) (by omega) hs; omega
  have h2 : ∀ e s, s + e + 1 = k -> cs s <= s := by
   intro e;induction e with
   | zero => intro s hs; have := h.csl s (by omega); omega
   | succ e ih => intro s hs; have := ih (s + 1) (by omega); have := h.inc s (s + 1) (by omega) (by omega); omega
  have := h1 t ht;have := h2 (k - t - 1) t (by omega);omega
 have hch : ∀ i, ∃ y : Nat -> Int, ∀ j, mn k A nu cs (nu i) j = dn k A nu cs * A (nu i) j + sm k fun t => y t * A (nu t) j := fun i => iG k A nu cs (nu i);obtain ⟨y, hy⟩ := Classical.axiomOfChoice hch;obtain ⟨B, hB⟩ : ∃ B : Mx, ∀ i j, B i j = if i < k then A (nu i) j else mn k A nu cs (nu i) j := ⟨fun i j => if i < k then A (nu i) j else mn k A nu cs (nu i) j, fun _ _ => rfl⟩;have hr := ya n (fun a b => A (nu a) b) B (fun i => if i < k then 1 else d) (fun _ => 1) (fun i t => if i < k then 0 else if t < k then y i t else 0) fun i hi j => by
  by_cases q : i < k
  . simp only [q, if_true];rw [hB, if_pos q, bL fun t _ => Int.zero_mul _, Int.add_zero]
  . simp only [q, if_false];rw [hB, if_neg q, hy, Int.one_mul, <- h.dE];congr 1;obtain ⟨e, rfl⟩ : ∃ e, i = k + e := ⟨i - k, by omega⟩;rw [gV k e, bL (n := e) fun t _ => by rw [if_neg (by omega), Int.zero_mul], Int.add_zero];exact aF fun t ht => by rw [if_pos ht, hB, if_pos ht]
 obtain ⟨e, rfl⟩ : ∃ e, n = k + (e + 1) := ⟨n - k - 1, by omega⟩;have hb := lf k (e + 1) B fun a h1 h2 b hb => by rw [hB, if_neg (by omega), <- h.row a h1 h2 b (by omega)]; exact h.z a h1 h2 b hb
 have hz : (Go.Proofs.YtjjlmfmoihooiaaGreat.aQ (e + 1) fun a b => B (k + a) (k + b)) = 0 := by
  rw [Go.Proofs.YtjjlmfmoihooiaaGreat.aQ];exact bL fun a ha => by
   show eC a * B (k + a) (k + 0) * _ = 0;rw [Nat.add_zero, hB, if_neg (by omega), <- h.row (k + a) (by omega) (by omega) k (by omega), h0 (k + a) (by omega) (by omega), Int.mul_zero, Int.zero_mul]
 rw [hb, hz, Int.mul_zero, Int.mul_zero] at hr;refine (Int.mul_eq_zero.1 hr.symm).resolve_left (qO _ fun i hi => ?_);split
 . decide
 . exact h.d0
theorem zM {k p : Nat} (hk : k < n) (hp : p < n) (hkp : k ≠ p) (B : Mx) : (Go.Proofs.YtjjlmfmoihooiaaGreat.aQ n fun a b => B (lu k p a) b) = - Go.Proofs.YtjjlmfmoihooiaaGreat.aQ n B := by
 have e1 : (fun a b => B (lu k p a) b) = bU (bU B k (B p)) p (B k) := by
  funext a b;unfold lu bU;by_cases h1 : a = k
  . subst h1; rw [if_pos rfl, if_neg hkp, if_pos rfl]
  . rw [if_neg h1];by_cases h2 : a = p
    . rw [if_pos h2, if_pos h2]
    . rw [if_neg h2, if_neg h2, if_neg h1]
 have e2 : bU (bU B k (B k)) p (B p) = B := by rw [gP, gP]
 rw [e1, qK n B hk hp hkp, e2]
theorem iu.leads {r c' : Nat} {E : Mx} {l : Nat -> Nat} (h : iu n m A m k nu cs R d) (hA : ∀ i j, m <= j -> A i j = 0) (hE : Ech r c' E l) (hs : bD r E n A) : k = r /\ ∀ t < k, cs t = l t := by
 obtain ⟨T, hT⟩ : ∃ T : Mx, ∀ t j, T t j = mn t A nu cs (nu t) j := ⟨fun t j => mn t A nu cs (nu t) j, fun _ _ => rfl⟩;have hst : o4 k T cs := ⟨fun i hi => by rw [hT]; exact h.l0 i hi, fun i hi j hj => by rw [hT]; exact h.lz i hi j hj, fun a ha i hi => by rw [hT]; exact mx hi _⟩;have hkn := h.kn;have hTA : ∀ t < k, Sp n A (T t) := fun t ht => by
  obtain ⟨y, hy⟩ := iG t A nu cs (nu t);have h1 : Sp n A fun j => dn t A nu cs * A (nu t) j := (Sp.row A (h.lt t (by omega))).smul _;have h2 : Sp n A fun j => sm t fun s => y s * A (nu s) j := Sp.sm (F := fun s => A (nu s)) (x := y) fun s hs => Sp.row A (h.lt s (by omega));exact (h1.add h2).congr fun j => by rw [hT, hy]
 have hdt : ∀ t < k + 1, dn t A nu cs ≠ 0 := fun t ht => by
  rcases (by omega : t < k \/ t = k) with q | rfl
  . cases t with
    | zero => simp [dn, Go.Proofs.YtjjlmfmoihooiaaGreat.aQ]
    | succ t => rw [uI]; exact h.l0 t (by omega)
  . rw [<- h.dE]; exact h.d0
 have hlow : ∀ s, s < k -> ∃ N : Int, N ≠ 0 /\ Sp k T fun j => N * A (nu s) j := by
  intro s;induction s using Nat.strongRecOn with
  | _ s ih =>
   intro hs';obtain ⟨y, hy⟩ := iG s A nu cs (nu s);obtain ⟨N, hN, hsp⟩ := rk (R := T) (A := fun t => A (nu t)) (n := s) (k := k) (fun i hi => ih i hi (by omega)) (v := fun j => sm s fun t => y t * A (nu t) j) ⟨y, fun _ => rfl⟩;refine ⟨N * dn s A nu cs, Int.mul_ne_zero hN (hdt s (by omega)), ((((Sp.row T hs').smul N).sub hsp)).congr fun j => ?_⟩;rw [hT, hy, Int.mul_add, Int.mul_assoc]; omega
 have hall : ∀ i < n, ∃ N : Int, N ≠ 0 /\ Sp k T fun j => N * A i j := fun i hi => by
  obtain ⟨s, hsn, rfl⟩ := xR n nu h.lt h.inj i hi;by_cases q : s < k
  . exact hlow s q
  . obtain ⟨y, hy⟩ := iG k A nu cs (nu s);obtain ⟨N, hN, hsp⟩ := rk (R := T) (A := fun t => A (nu t)) (n := k) (k := k) hlow (v := fun j => sm k fun t => y t * A (nu t) j) ⟨y, fun _ => rfl⟩;refine ⟨N * dn k A nu cs, Int.mul_ne_zero hN (hdt k (by omega)), (hsp.smul (-1)).congr fun j => ?_⟩;have h0 : mn k A nu cs (nu s) j = 0 := by
     by_cases hj : j < m
     . rw [<- h.row s (by omega) hsn j hj]; exact h.z s (by omega) hsn j hj
     . rw [hy, hA _ _ (by omega), Int.mul_zero, Int.zero_add]; exact bL fun t _ => by rw [hA _ _ (by omega), Int.mul_zero]
    have h1 := hy j;rw [h0] at h1;rw [Int.mul_assoc];generalize dn k A nu cs * A (nu s) j = u at *;generalize sm k (fun t => y t * A (nu t) j) = v at *;obtain rfl : u = -v := by omega
    rw [Int.mul_neg]; omega
 have hkr := rT hst hE hs hall fun i hi => ⟨1, by decide, (hTA i hi).congr fun j => Int.one_mul _⟩;refine ⟨hkr, ?_⟩;have hq : ∀ t, ∃ q, t < k -> q < r /\ l q = cs t := fun t => by
  by_cases ht : t < k
  . obtain ⟨q, h1, h2, _⟩ := hE.lead ((hTA t ht).trans hs.2) (q := cs t) (hst.at_ t ht) (hst.zero t ht);exact ⟨q, fun _ => ⟨h1, h2⟩⟩
  . exact ⟨0, fun h => absurd h ht⟩
 obtain ⟨q, hq⟩ := Classical.axiomOfChoice hq;have hmono : ∀ s t, s < t -> t < k -> q s < q t := fun s t hst' ht => by
  refine Nat.lt_of_not_le fun hle => ?_;have h1 := h.inc s t hst' ht;rw [<- (hq s (by omega)).2, <- (hq t ht).2] at h1;rcases Nat.lt_or_eq_of_le hle with h2 | h2
  . have := hE.inc (q t) (q s) h2 (hq s (by omega)).1; omega
  . rw [h2] at h1; omega
 have up : ∀ s, s < k -> s <= q s := by
  intro s;induction s with
  | zero => intro _; exact Nat.zero_le _
  | succ s ih => intro hs'; have := ih (by omega); have := hmono s (s + 1) (by omega) hs'; omega
 have dw : ∀ e s, s + e + 1 = k -> q s <= s := by
  intro e;induction e with
  | zero => intro s hs'; have := (hq s (by omega)).1; omega
  | succ e ih => intro s hs'; have := ih (s + 1) (by omega); have := hmono s (s + 1) (by omega) (by omega); omega
 intro t ht;have h1 := up t ht;have h2 := dw (k - t - 1) t (by omega);have h3 : q t = t := by omega
 rw [<- (hq t ht).2, h3]
end
theorem n8 {mw k : Nat} (hk : k <= 64) : (k * W ^ mw) ^ k < W ^ (64 * (mw + 1)) := by
 have h1 : k * W ^ mw < W ^ (mw + 1) := by
  rw [Nat.pow_succ, Nat.mul_comm (W ^ mw)];exact Nat.mul_lt_mul_of_pos_right (Nat.lt_of_le_of_lt hk (by unfold W; omega)) (Nat.pow_pos (by unfold W; omega))
 rcases Nat.eq_zero_or_pos k with rfl | h0
 . exact Nat.one_lt_pow (by omega) (by unfold W; omega)
 . refine Nat.lt_of_lt_of_le (Nat.pow_lt_pow_left h1 (by omega)) ?_;rw [<- Nat.pow_mul];exact Nat.pow_le_pow_right (by unfold W; omega) (by rw [Nat.mul_comm]; exact Nat.mul_le_mul_right _ hk)
theorem tY (n : Nat) (f : Nat -> Int) : sm (n + 1) f = f 0 + sm n fun k => f (k + 1) := by
 rw [Nat.add_comm n 1, gV];show 0 + f 0 + _ = _;rw [Int.zero_add];exact congrArg _ (aF fun k _ => by rw [Nat.add_comm])
theorem uJ : ∀ (n : Nat) (M : Mx), aQ (n + 1) M = sm (n + 1) fun j => eC j * M 0 j * aQ n fun a b => M (a + 1) (bT j b)
 | 0, M => by
  show 0 + eC 0 * M 0 0 * 1 = 0 + eC 0 * M 0 0 * 1;rfl
 | n + 1, M => by
  have h1 : aQ (n + 2) M = eC 0 * M 0 0 * aQ (n + 1) (minor M 0) + sm (n + 1) fun i => eC (i + 1) * M (i + 1) 0 * aQ (n + 1) (minor M (i + 1)) := tY (n + 1) _;rw [h1, tY (n + 1)];have e0 : aQ (n + 1) (minor M 0) = aQ (n + 1) fun a b => M (a + 1) (bT 0 b) := aV _ fun a _ b _ => by simp [minor, bT]
  rw [e0];refine congrArg _ ?_;have e1 : (sm (n + 1) fun i => eC (i + 1) * M (i + 1) 0 * aQ (n + 1) (minor M (i + 1))) = sm (n + 1) fun i => sm (n + 1) fun j => eC (i + 1) * eC j * M (i + 1) 0 * M 0 (j + 1) * aQ n fun a b => M (bT i a + 1) (bT j b + 1) := aF fun i _ => by
   rw [uJ n (minor M (i + 1)), <- ep];refine aF fun j _ => ?_;have e2 : (aQ n fun a b => minor M (i + 1) (a + 1) (bT j b)) = aQ n fun a b => M (bT i a + 1) (bT j b + 1) := aV _ fun a _ b _ => by
    show M (bT (i + 1) (a + 1)) (bT j b + 1) = _;have : bT (i + 1) (a + 1) = bT i a + 1 := by unfold bT; (repeat' split) <;> omega
    rw [this]
   rw [e2];have e3 : minor M (i + 1) 0 j = M 0 (j + 1) := by
    show M (bT (i + 1) 0) (j + 1) = _;have : bT (i + 1) 0 = 0 := by unfold bT; rw [if_pos (by omega)]
    rw [this]
   rw [e3]
   ac_rfl
  have f1 : (sm (n + 1) fun j => eC (j + 1) * M 0 (j + 1) * aQ (n + 1) fun a b => M (a + 1) (bT (j + 1) b)) = sm (n + 1) fun j => sm (n + 1) fun i => eC (i + 1) * eC j * M (i + 1) 0 * M 0 (j + 1) * aQ n fun a b => M (bT i a + 1) (bT j b + 1) := aF fun j _ => by
   have f2 : (aQ (n + 1) fun a b => M (a + 1) (bT (j + 1) b)) = sm (n + 1) fun i => eC i * M (i + 1) 0 * aQ n fun a b => M (bT i a + 1) (bT j b + 1) := by
    show (sm (n + 1) fun i => eC i * M (i + 1) (bT (j + 1) 0) * aQ n (minor (fun a b => M (a + 1) (bT (j + 1) b)) i)) = _;refine aF fun i _ => ?_;have g1 : bT (j + 1) 0 = 0 := by unfold bT; rw [if_pos (by omega)]
    rw [g1];congr 1;refine aV _ fun a _ b _ => ?_;show M (bT i a + 1) (bT (j + 1) (b + 1)) = _;have : bT (j + 1) (b + 1) = bT j b + 1 := by unfold bT; (repeat' split) <;> omega
    rw [this]
   rw [f2, <- ep];refine aF fun i _ => ?_;rw [kS j, kS i];simp only [Int.neg_mul, Int.mul_neg];refine congrArg _ ?_
   ac_rfl
  rw [e1, f1, qg]
theorem pY : ∀ (n : Nat) (M : Mx), aQ n (tp M) = aQ n M
 | 0, _ => rfl
 | n + 1, M => by
  rw [uJ n M];show (sm (n + 1) fun i => eC i * tp M i 0 * aQ n (minor (tp M) i)) = _;refine aF fun i _ => ?_;rw [<- pY n fun a b => M (a + 1) (bT i b)];rfl
theorem Mn.tp {k : Nat} {x : Int} {r c : Nat} {A : Mx} (h : Mn k x r c A) : Mn k x c r (tp A) := fun σ τ hσ hτ => by
 rw [<- pY];exact h τ σ hτ hσ
theorem pig (k q : Nat) (hk : k < q) (σ : Nat -> Nat) (h : ∀ a < q, σ a < k) : ∃ a b, a < b /\ b < q /\ σ a = σ b := Classical.byContradiction fun hn => by
 obtain ⟨i, hi, e⟩ := xR k σ (fun i hi => h i (by omega)) (fun i hi j hj e => Classical.byContradiction fun hij => by
  rcases Nat.lt_or_gt_of_ne hij with q' | q'
  . exact hn ⟨i, j, q', by omega, e⟩
  . exact hn ⟨j, i, q', by omega, e.symm⟩) (σ k) (h k hk)
 exact hn ⟨i, k, hi, hk, e⟩
theorem o3 (n : Nat) (D : Int) (B : Mx) : ∀ s, s <= n -> aQ n (fun a b => if a < s then D * B a b else B a b) = D ^ s * aQ n B
 | 0, _ => by simp
 | s + 1, hs => by
  have e : (fun a b => if a < s + 1 then D * B a b else B a b) = bU (fun a b => if a < s then D * B a b else B a b) s (fun b => D * B s b) := by
   funext a b;unfold bU;by_cases h : a = s
   . subst h; simp
   . rw [if_neg h];show _ = if a < s then D * B a b else B a b;by_cases h2 : a < s
     . rw [if_pos h2, if_pos (by omega)]
     . rw [if_neg h2, if_neg (by omega)]
  have e2 : bU (fun a b => if a < s then D * B a b else B a b) s (B s) = fun a b => if a < s then D * B a b else B a b := by
   funext a b;unfold bU;by_cases h : a = s
   . subst h; simp
   . rw [if_neg h]
  rw [e, jl n _ s D (B s) (by omega), e2, o3 n D B s (by omega), Int.pow_succ]
  ac_rfl
theorem mV (n : Nat) (D : Int) (B : Mx) : aQ n (fun a b => D * B a b) = D ^ n * aQ n B := by
 rw [<- o3 n D B n (Nat.le_refl _)];exact aV n fun a ha b _ => by rw [if_pos ha]
theorem yn {k q : Nat} {D : Int} (hD : D ≠ 0) (hk : k < q) {A B : Mx} (h : ∀ a < q, Sp k A fun j => D * B a j) : aQ q B = 0 := by
 have h1 : (0 : Int) ∣ aQ q fun a b => D * B a b := rJ (A := A) (r := k) (fun σ hσ => by
  obtain ⟨a, b, hab, hb, e⟩ := pig k q hk σ hσ;exact Int.zero_dvd.2 (ij q _ (k := a) (l := b) (by omega) hb (by omega) fun j => by rw [e])) h
 have h2 := Int.zero_dvd.1 h1;rw [mV] at h2;rcases Int.mul_eq_zero.1 h2 with e | e
 . exact absurd e (Int.pow_ne_zero hD)
 . exact e
theorem xV {k : Nat} {D : Int} (hD : D ≠ 0) {A B : Mx} (h : ∀ a < k, Sp k A fun j => D * B a j) (hA : aQ k A = 0) : aQ k B = 0 := by
 have h1 : (0 : Int) ∣ aQ k fun a b => D * B a b := rJ (A := A) (r := k) (fun σ hσ => by
  by_cases hi : ∀ i < k, ∀ j < k, σ i = σ j -> i = j
  . rcases kG k A k σ hσ (fun i h0 => by omega) (Nat.le_refl _) with e | e
    . exact Int.zero_dvd.2 e
    . rw [hA] at e;exact Int.zero_dvd.2 (Int.natAbs_eq_zero.1 e)
  . exact Int.zero_dvd.2 (Classical.byContradiction fun hn => hi fun i h1 j h2 e => Classical.byContradiction fun hij => hn (ij k _ h1 h2 hij fun b => by rw [e]))) h
 have h2 := Int.zero_dvd.1 h1;rw [mV] at h2;rcases Int.mul_eq_zero.1 h2 with e | e
 . exact absurd e (Int.pow_ne_zero hD)
 . exact e
section
variable {n m : Nat} {A : Mx} {k : Nat} {nu cs : Nat -> Nat} {R : Mx} {d : Int}
theorem iu.span (h : iu n m A m k nu cs R d) (hA : ∀ i j, m <= j -> A i j = 0) {i : Nat} (hi : i < n) : Sp k (fun t => A (nu t)) fun j => d * A i j := by
 obtain ⟨s, hs, e⟩ := xR n nu h.lt h.inj i hi;by_cases hk : s < k
 . refine ⟨fun t => if t = s then d else 0, fun j => ?_⟩;rw [fN s hk fun t _ hn => by show (if t = s then d else 0) * _ = 0; rw [if_neg hn, Int.zero_mul]];show d * A i j = (if s = s then d else 0) * A (nu s) j;rw [if_pos rfl, e]
 . obtain ⟨y, hy⟩ := iG k A nu cs i;refine ⟨fun t => - y t, fun j => ?_⟩;have h1 : mn k A nu cs i j = 0 := by
    by_cases hj : j < m
    . have h2 := h.row s (by omega) hs j hj;rw [h.z s (by omega) hs j hj, e] at h2;exact h2.symm
    . have h3 := hy j;rw [hA i j (by omega), Int.mul_zero, Int.zero_add] at h3;rw [h3];exact bL fun t _ => by rw [hA _ j (by omega), Int.mul_zero]
   have h4 := hy j;rw [h1, <- h.dE] at h4;have h5 : (sm k fun t => - y t * A (nu t) j) = - sm k fun t => y t * A (nu t) j := by
    have := ep k (-1) fun t => y t * A (nu t) j;rw [show (-1 : Int) * (sm k fun t => y t * A (nu t) j) = - sm k fun t => y t * A (nu t) j by omega] at this;rw [<- this];exact aF fun t _ => by rw [Int.neg_mul]; omega
   show d * A i j = _;rw [h5]; omega
theorem iu.some (h : iu n m A m k nu cs R d) : ¬ Mn k 0 n m A := fun q =>
 h.d0 (h.dE.trans (Int.zero_dvd.1 (q nu cs (fun a ha => h.lt a (by have := h.kn; omega)) fun b hb => h.csl b hb)))
theorem iu.none (h : iu n m A m k nu cs R d) (hA : ∀ i j, m <= j -> A i j = 0) {q : Nat} (hq : k < q) : Mn q 0 n m A := fun σ τ hσ hτ =>
 Int.zero_dvd.2 (yn h.d0 hq (A := fun t b => A (nu t) (τ b)) fun a ha => by
  obtain ⟨y, hy⟩ := h.span hA (hσ a ha);exact ⟨y, fun b => hy (τ b)⟩)
theorem iu.turn {k' : Nat} {nu' cs' : Nat -> Nat} {R' : Mx} {d' : Int} (h : iu n m A m k nu cs R d) (h' : iu m n (tp A) n k' nu' cs' R' d') (hA : ∀ i j, m <= j -> A i j = 0) (hA' : ∀ i j, n <= i -> A i j = 0) : k = k' := by
 rcases Nat.lt_trichotomy k k' with q | q | q
 . exact absurd (h.none hA q).tp h'.some
 . exact q
 . exact absurd (h'.none (fun i j hj => hA' j i hj) q).tp h.some
theorem iu.spanC (h : iu n m A m k nu cs R d) (hA : ∀ i j, m <= j -> A i j = 0) (hA' : ∀ i j, n <= i -> A i j = 0) {j : Nat} (hj : j < m) : Sp k (fun t => tp A (cs t)) fun i => d * tp A j i := by
 obtain ⟨y, hy⟩ := iG k (tp A) cs nu j;have e0 : dn k (tp A) cs nu = d := by rw [h.dE]; exact pY k fun a b => A (nu a) (cs b)
 have e1 : ∀ i, mn k (tp A) cs nu j i = 0 := fun i => by
  by_cases hi : i < n
  . have h1 : mn k (tp A) cs nu j i = mn k A nu cs i j := pY (k + 1) fun a b => A (if a < k then nu a else i) (if b < k then cs b else j);rw [h1];exact Int.zero_dvd.1 (h.none hA (Nat.lt_succ_self k) (fun a => if a < k then nu a else i) (fun b => if b < k then cs b else j) (fun a ha => by
     have := h.kn;show (if a < k then nu a else i) < n;split
     . exact h.lt a (by omega)
     . exact hi) fun b hb => by
     show (if b < k then cs b else j) < m;split
     . exact h.csl b (by assumption)
     . exact hj)
  . have h3 := hy i;rw [show tp A j i = 0 from hA' i j (by omega), Int.mul_zero, Int.zero_add] at h3;rw [h3];exact bL fun t _ => by rw [show tp A (cs t) i = 0 from hA' i _ (by omega), Int.mul_zero]
 refine ⟨fun t => - y t, fun i => ?_⟩;have h4 := hy i;rw [e1, e0] at h4;have h5 : (sm k fun t => - y t * tp A (cs t) i) = - sm k fun t => y t * tp A (cs t) i := by
  have := ep k (-1) fun t => y t * tp A (cs t) i;rw [show (-1 : Int) * (sm k fun t => y t * tp A (cs t) i) = - sm k fun t => y t * tp A (cs t) i by omega] at this;rw [<- this];exact aF fun t _ => by rw [Int.neg_mul]; omega
 show d * tp A j i = _;rw [h5]; omega
theorem iu.core {nu' cs' : Nat -> Nat} {R' : Mx} {d' : Int} (h : iu n m A m k nu cs R d) (h' : iu m n (tp A) n k nu' cs' R' d') (hA : ∀ i j, m <= j -> A i j = 0) (hA' : ∀ i j, n <= i -> A i j = 0) : (Go.Proofs.YtjjlmfmoihooiaaGreat.aQ k fun a b => A (cs' a) (cs b)) ≠ 0 := fun h0 => by
 refine h.d0 (h.dE.trans (xV (D := d') h'.d0 (A := fun t b => A (cs' t) (cs b)) (B := fun a b => A (nu a) (cs b)) (fun a ha => ?_) h0));obtain ⟨y, hy⟩ := h'.spanC (fun i j hj => hA' j i hj) (fun i j hi => hA j i hi) (j := nu a) (h.lt a (by have := h.kn; omega));exact ⟨y, fun b => hy (cs b)⟩
end
end Go.Proofs.YtjjlmfmoihooiaaGreat
namespace Go.Proofs.YtjjlmfmoihooiaaGreat
open Go.RowKit
theorem zJ (aoA aoB : Option Addr) (lA cA lB cB : Nat) (xs ys : List Nat) (w : World) (hA : cI w aoA xs) (hB : cI w aoB ys) (hlA : lA = xs.length) (hlB : lB = ys.length) (hmA : lA <= 17592186044415) (hmB : lB <= 17592186044415) :
 Calls Tryz.prog 70 #[.slice aoA lA cA, .slice aoB lB cB] w fun e w' => e = .returned (.bool (decide (xs = ys))) /\ Below w.heap.size w w' := by
 subst hlA hlB;have HA := H5 hA; clear hA;have HB := H5 hB; clear hB;go_enter Tryz.func70, Tryz.ntmps70;by_cases hs : xs.length = ys.length
 . have hb : (((xs.length : Nat) : Int) != ((ys.length : Nat) : Int)) = false := by rw [hs]; simp
   have Hs := H5 hs; clear hs;go_wp2;go_loopw [5] (fun i wr => ∃ k : Nat, k <= xs.length /\ i = .int .i64 (k : Int) /\ Hid (∀ j, j < k -> gw xs j = gw ys j) /\ Below w.heap.size w wr) (fun i _ => xs.length - (intOf i).toNat)
   case atStart => exact ⟨0, Nat.zero_le _, rfl, H5 (fun j hj => by omega), Below.refl _ _⟩
   case round =>
    obtain ⟨k, hk, rfl, hag, hbl⟩ := hrel;by_cases h0 : k < xs.length
    . have h01 : (k : Int) < (xs.length : Int) := by omega
      have h02 : (k : Int) < (ys.length : Int) := by have := Hs.out; omega
      obtain ⟨b1, o1, rfl, hb1, hc1⟩ := (HA.out.below hbl).pos (by omega);obtain ⟨b2, o2, rfl, hb2, hc2⟩ := (HB.out.below hbl).pos (by omega);have e1 := hc1 k h0;have e2 := hc2 k (by omega);clear hc1 hc2;by_cases hne : gw xs k = gw ys k
      . have t1 : (((gw xs k : Nat) : Int) != ((gw ys k : Nat) : Int)) = false := by rw [hne]; simp
        have HN := H5 hne; clear hne;go_wp2
        go_quiet (fail)
        go_wp2;go_roundw
        case rel => exact ⟨k + 1, by omega, by go_num, H5 (fun j hj => by
         by_cases e : j = k
         . subst e; exact HN.out
         . exact hag.out j (by omega)), below_drewN hbl _⟩
        case measure => simp [intOf]; omega
      . have t1 : (((gw xs k : Nat) : Int) != ((gw ys k : Nat) : Int)) = true := by rw [bne_iff_ne]; omega
        have hd : decide (xs = ys) = false := by
         rw [decide_eq_false_iff_not]; intro e; exact hne (by rw [e])
        have HD := H5 hd; clear hd hne;go_wp2
        go_quiet (fail)
        go_wp2;go_ret;exact ⟨by rw [HD.out]; rfl, below_drewN hbl _⟩
    . obtain rfl : k = xs.length := by omega
      have hd : decide (xs = ys) = true := by
       rw [decide_eq_true_iff];refine List.ext_getElem Hs.out fun j h1 h2 => ?_;have := hag.out j h1;unfold gw at this;simpa [h1, h2] using this
      have HD := H5 hd; clear hd;go_wp2;go_ret;exact ⟨by rw [HD.out]; rfl, hbl⟩
 . have hb : (((xs.length : Nat) : Int) != ((ys.length : Nat) : Int)) = true := by rw [bne_iff_ne]; omega
   have hd : decide (xs = ys) = false := by
    rw [decide_eq_false_iff_not]; intro e; exact hs (by rw [e])
   have HD := H5 hd; clear hd hs;go_wp2;go_ret;exact ⟨by rw [HD.out]; rfl, Below.refl _ _⟩
theorem sJ (x y : Int) : (decide (fz x.natAbs = fz y.natAbs) && (decide (x < 0) == decide (y < 0))) = decide (x = y) := by
 have h1 : fz x.natAbs = fz y.natAbs ↔ x.natAbs = y.natAbs := ⟨fun h => by rw [<- cQ x.natAbs, h, cQ], fun h => by rw [h]⟩;rw [Bool.eq_iff_iff];simp only [Bool.and_eq_true, decide_eq_true_eq, beq_iff_eq, h1, decide_eq_decide];omega
theorem iT {fn : Func} {p q : Tmp} (h : fn.results = #[.cell p 24, .tmp q]) (tmps : Array Value) (w : World) (g : Nat) (a b c : Value) (hp : tmps.getD p undef = .pointer (some ⟨g, 0, none⟩)) (hr : aa w g 24 [a, b, c]) :
 (results fn tmps).run Tryz.prog w = .ok (.tuple #[.agg #[a, b, c], tmps.getD q undef]) w := by
 have hp' : tmps[p]?.getD undef = .pointer (some ⟨g, 0, none⟩) := by simpa using hp
 simp [results, h, hp', asAddr, run_loadVar_row w g 24 24 #[a, b, c] (0, 0) _ hr Tryz.underlying24 rfl (by kernel_rfl)]
theorem aa.AX {w : World} {b : Nat} {t : TypeId} {x y z : Value} (h : aa w b t [x, y, z]) (u v s : Value) : aa (((w.setCell ⟨b, 0, none⟩ u).setCell ⟨b, 1, none⟩ v).setCell ⟨b, 2, none⟩ s) b t [u, v, s] := by
 have := ((h.set 0 u).set 1 v).set 2 s;exact this
theorem aK.dM (a b : Int) (ao : Option Addr) (l k : Nat) : aK [.int .i64 a, .int .i64 b, .slice ao l k] := aK.i64 (aK.i64 (aK.slice aK.nil))
theorem aL.th {w : World} {b : Nat} {xs : List Int} (h : aL w b xs) {g : Nat} {x y : Int} {ao : Option Addr} {l k : Nat} (hr : aa w g 24 [.int .i64 x, .int .i64 y, .slice ao l k]) (u v : Int) (ao' : Option Addr) (l' k' : Nat) : aL (((w.setCell ⟨g, 0, none⟩ (.int .i64 u)).setCell ⟨g, 1, none⟩ (.int .i64 v)).setCell ⟨g, 2, none⟩ (.slice ao' l' k')) b xs := by
 have h1 := h.kb hr (by decide) (aK.dM x y ao l k) 0 (.int .i64 u);have r1 : aa _ g 24 [.int .i64 u, .int .i64 y, .slice ao l k] := hr.set 0 (.int .i64 u);have h2 := h1.kb r1 (by decide) (aK.dM u y ao l k) 1 (.int .i64 v);have r2 : aa _ g 24 [.int .i64 u, .int .i64 v, .slice ao l k] := r1.set 1 (.int .i64 v);exact h2.kb r2 (by decide) (aK.dM u v ao l k) 2 (.slice ao' l' k')
theorem wP (r c : Int) (ao : Option Addr) (len cap : Nat) (xs : List Int) (w : World) (hr : -9223372036854775808 <= r /\ r <= 9223372036854775807) (hc : -9223372036854775808 <= c /\ c <= 9223372036854775807) (h : aT w 17592186044415 ao xs) (hl : len = xs.length) (hs : aX r c len = true) (hlen : xs.length <= 8796093022208) :
 Calls Tryz.prog 88 #[.agg #[.int .i64 r, .int .i64 c, .slice ao len cap]] w fun e w' => (∃ b, e = .returned (.tuple #[.agg #[.int .i64 r, .int .i64 c, .slice (some ⟨b, 0, none⟩) xs.length xs.length], .int .i64 0]) /\ w.heap.size <= b /\ aL w' b xs) /\ Below w.heap.size w w' := by
 subst hl;have HL := H5 h; clear h;have HS := H5 (eH hs); clear hs;go_enter Tryz.func88, Tryz.ntmps88;go_wp2_with fail
 obtain ⟨r1, r2, hb⟩ := fD w #[.int .i64 r, .int .i64 c, .slice ao xs.length cap] #[.int .i64 0, .int .i64 0, .slice none 0 0] 24 24;generalize (w.alloc (.cells #[.int .i64 r, .int .i64 c, .slice ao xs.length cap] 24)).alloc (.cells #[.int .i64 0, .int .i64 0, .slice none 0 0] 24) = w2 at *;refine (dX r c ao xs.length cap _ hr hc).mono ?_;rintro e w3 ⟨rfl, hb3⟩;rw [HS.out];have R1 := r1.below hb3 r1.lt;have R2 := H5 (r2.below hb3 r2.lt);have L3 := H5 ((HL.out.below hb).below hb3);have B3 := H5 (hb.trans (hb3.mono hb.size));have hs2 : w.heap.size + 1 < w3.heap.size := R2.out.lt;have e0 : w3.cell? ⟨w.heap.size, 0, none⟩ = some (.int .i64 r) := R1.cell 0;have e1 : w3.cell? ⟨w.heap.size, 1, none⟩ = some (.int .i64 c) := R1.cell 1;have e2 : w3.cell? ⟨w.heap.size, 2, none⟩ = some (.slice ao xs.length cap) := R1.cell 2;have hne : ¬ w.heap.size + 1 = w.heap.size := by omega
 have hlt : w.heap.size < w3.heap.size := by omega
 clear r1 r2 hb hb3 R1;go_wp2
 go_region_held3 (fun w' => w'.cell? ⟨w.heap.size, 0, none⟩ = some (.int .i64 r) /\ w'.cell? ⟨w.heap.size, 1, none⟩ = some (.int .i64 c) /\ w'.cell? ⟨w.heap.size, 2, none⟩ = some (.slice ao xs.length cap))
  (first
   | exact ⟨e0, e1, e2⟩
   | exact ⟨k0, k1, k2⟩
   | exact ⟨m0, m1, m2⟩)
  (first
   | (go_at_call 67; (refine (j7 ao cap xs _ (aT.below (w := w3) L3.out (Below.refl _ _).drew) hlen).mono ?_); rintro e w4 ⟨⟨b, rfl, hbl, hRb⟩, hb4⟩; have k0 := (hb4.cell (p := ⟨w.heap.size, 0, none⟩) hlt).trans e0; have k1 := (hb4.cell (p := ⟨w.heap.size, 1, none⟩) hlt).trans e1; have k2 := (hb4.cell (p := ⟨w.heap.size, 2, none⟩) hlt).trans e2; have hR4 := aa.below (w := w3.drew) R2.out hb4 R2.out.lt; have z0 := hR4.cell 0; have z1 := hR4.cell 1; have z2 := hR4.cell 2; have y0 := hR4.free 0; have y1 := hR4.free 1; have y2 := hR4.free 2; have m0 := ((World.cell?_setCell_far _ ⟨w.heap.size + 1, 2, none⟩ ⟨w.heap.size, 0, none⟩ (.slice (some ⟨b, 0, none⟩) xs.length xs.length) hne).trans ((World.cell?_setCell_far _ ⟨w.heap.size + 1, 1, none⟩ ⟨w.heap.size, 0, none⟩ (.int .i64 c) hne).trans ((World.cell?_setCell_far w4 ⟨w.heap.size + 1, 0, none⟩ ⟨w.heap.size, 0, none⟩ (.int .i64 r) hne).trans k0))); have m1 := ((World.cell?_setCell_far _ ⟨w.heap.size + 1, 2, none⟩ ⟨w.heap.size, 1, none⟩ (.slice (some ⟨b, 0, none⟩) xs.length xs.length) hne).trans ((World.cell?_setCell_far _ ⟨w.heap.size + 1, 1, none⟩ ⟨w.heap.size, 1, none⟩ (.int .i64 c) hne).trans ((World.cell?_setCell_far w4 ⟨w.heap.size + 1, 0, none⟩ ⟨w.heap.size, 1, none⟩ (.int .i64 r) hne).trans k1))); have m2 := ((World.cell?_setCell_far _ ⟨w.heap.size + 1, 2, none⟩ ⟨w.heap.size, 2, none⟩ (.slice (some ⟨b, 0, none⟩) xs.length xs.length) hne).trans ((World.cell?_setCell_far _ ⟨w.heap.size + 1, 1, none⟩ ⟨w.heap.size, 2, none⟩ (.int .i64 c) hne).trans ((World.cell?_setCell_far w4 ⟨w.heap.size + 1, 0, none⟩ ⟨w.heap.size, 2, none⟩ (.int .i64 r) hne).trans k2)))))
 go_wp2;have hs4 := hb4.size;have hbl : w3.heap.size <= b := hbl;have hbw : Below w.heap.size w w4 := B3.out.drew.trans (hb4.mono B3.out.size);refine bodyPost_ret (iT (p := 2) (q := 3) (by kernel_rfl) _ _ (w.heap.size + 1) _ _ _ rfl (hR4.AX (.int .i64 r) (.int .i64 c) (.slice (some ⟨b, 0, none⟩) xs.length xs.length))) rfl ?_;exact ⟨⟨b, rfl, by omega, hRb.th hR4 r c _ _ _⟩, ((hbw.setCell (p := ⟨w.heap.size + 1, 0, none⟩) (Nat.le_succ _) _).setCell (p := ⟨w.heap.size + 1, 1, none⟩) (Nat.le_succ _) _).setCell (p := ⟨w.heap.size + 1, 2, none⟩) (Nat.le_succ _) _⟩
theorem qx (r c : Int) (ao : Option Addr) (len cap : Nat) (xs : List Int) (w : World) (hr : -9223372036854775808 <= r /\ r <= 9223372036854775807) (hc : -9223372036854775808 <= c /\ c <= 9223372036854775807) (h : aT w 17592186044415 ao xs) (hl : len = xs.length) (hs : aX r c len = true) (hlen : xs.length <= 8796093022208) :
 Calls Tryz.prog 63 #[.agg #[.int .i64 r, .int .i64 c, .slice ao len cap]] w fun e w' => (∃ g b, e = .returned (.func (.func 89) #[] #[.pointer (some ⟨g, 0, none⟩)]) /\ w.heap.size <= g /\ w.heap.size <= b /\ aa w' g 24 [.int .i64 r, .int .i64 c, .slice (some ⟨b, 0, none⟩) xs.length xs.length] /\ aL w' b xs) /\ Below w.heap.size w w' := by
 subst hl;have HL := H5 h; clear h;have hb0 : Below w.heap.size w (w.alloc (.cells #[.int .i64 r, .int .i64 c, .slice ao xs.length cap] 24)) := (Below.refl _ _).alloc (Nat.le_refl _) _;have HB0 := H5 hb0; clear hb0;go_enter Tryz.func63, Tryz.ntmps63;go_wp2_with fail
 generalize w.alloc (.cells #[.int .i64 r, .int .i64 c, .slice ao xs.length cap] 24) = w1 at *;refine (wP r c ao xs.length cap xs _ hr hc (HL.out.below HB0.out) rfl hs hlen).mono ?_;rintro e w2 ⟨⟨b, rfl, hb, hR⟩, hb2⟩;have hbw : Below w.heap.size w w2 := HB0.out.trans (hb2.mono HB0.out.size);have hs1 := HB0.out.size;have HBW := H5 hbw; clear hbw;have HR := H5 hR; clear hR;have hs2 := hb2.size;clear hb2;go_wp2;go_ret;have hb3 : Below w2.heap.size w2 (w2.alloc (.cells #[.int .i64 r, .int .i64 c, .slice (some ⟨b, 0, none⟩) xs.length xs.length] 24)) := (Below.refl _ _).alloc (Nat.le_refl _) _;have hr3 := aa.new w2 #[.int .i64 r, .int .i64 c, .slice (some ⟨b, 0, none⟩) xs.length xs.length] 24;have hsz := HBW.out.size;exact ⟨⟨w2.heap.size, b, rfl, by omega, by omega, hr3, HR.out.below hb3⟩, HBW.out.trans (hb3.mono (by omega))⟩
def lead : List Int -> Nat
 | [] => 0
 | x :: xs => if x = 0 then lead xs + 1 else 0
theorem ph : ∀ xs : List Int, lead xs <= xs.length
 | [] => Nat.le_refl _
 | x :: xs => by
  unfold lead; split
  . have := ph xs; simp; omega
  . simp
theorem uE : ∀ (xs : List Int) (k : Nat) (h : k < xs.length), (∀ i (h' : i < k), xs[i]'(by omega) = 0) -> xs[k] ≠ 0 -> lead xs = k
 | x :: xs, 0, _, _, hn => by unfold lead; rw [if_neg]; simpa using hn
 | x :: xs, k + 1, h, hz, hn => by
  have h0 : x = 0 := hz 0 (by omega);unfold lead; rw [if_pos h0, uE xs k (by simpa using h) (fun i hi => by have := hz (i + 1) (by omega); simpa using this) (by simpa using hn)]
theorem qY : ∀ (xs : List Int), (∀ i (h : i < xs.length), xs[i] = 0) -> lead xs = xs.length
 | [], _ => rfl
 | x :: xs, hz => by
  have h0 : x = 0 := hz 0 (by simp);unfold lead; rw [if_pos h0, qY xs (fun i hi => by have := hz (i + 1) (by simpa using hi); simpa using this)]; rfl
theorem jm (b cap : Nat) (xs : List Int) (w : World) (hR : aL w b xs) (hL : ∀ x ∈ xs, ag x.natAbs <= 17592186044415) (hlen : xs.length <= 9223372036854775807) :
 Calls Tryz.prog 44 #[.slice (some ⟨b, 0, none⟩) xs.length cap] w fun e w' => e = .returned (.int .i64 (lead xs : Nat)) /\ Below w.heap.size w w' := by
 have HL := H5 hL; clear hL;have HR := H5 hR; clear hR;go_enter Tryz.func44, Tryz.ntmps44;go_wp2;go_loopw [7] (fun i wr => ∃ k : Nat, k <= xs.length /\ i = .int .i64 (k : Int) /\ Hid (∀ j (h : j < k) (h' : j < xs.length), xs[j] = 0) /\ Below w.heap.size w wr) (fun i _ => xs.length - (intOf i).toNat)
 case atStart => exact ⟨0, Nat.zero_le _, rfl, fun j h => by omega, Below.refl _ _⟩
 case round =>
  obtain ⟨k, hk, rfl, hz, hb⟩ := hrel;by_cases hkl : k < xs.length
  . have hR2 := HR.out.below hb;obtain ⟨p, hc0, hc1, hn⟩ := hR2.get hkl;have hkl' : (k : Int) < (xs.length : Int) := by omega
    have HN := H5 hn;clear hn;go_wp2_with fail
    have hb1 : Below wr.heap.size wr (wr.alloc (.cells #[.bool p.fst, .slice p.snd.fst p.snd.snd.fst p.snd.snd.snd] 37)) := (Below.refl _ _).alloc (Nat.le_refl _) _;refine (bP (av p) xs[k] _ ((HN.out.int (HL.out _ (List.getElem_mem hkl))).below hb1)).mono ?_;rintro e w2 ⟨rfl, hb2⟩;have hb3 : Below w.heap.size w w2 := hb.trans ((hb1.trans (hb2.mono hb1.size)).mono hb.size);have HB3 := H5 hb3;clear hb1 hb2 hb3 hc0 hc1;by_cases h0 : xs[k] = 0
    . have hz0 : aN xs[k] = 0 := cS.2 h0;rw [hz0];have H0 := H5 h0;clear h0 hz0;go_wp2;go_roundw
      case rel => exact ⟨k + 1, by omega, by go_num, H5 (fun j hj hj' => (Nat.lt_succ_iff_lt_or_eq.1 hj).elim (fun h => hz.out j h hj') (fun h => by subst h; exact H0.out)), HB3.out⟩
      case measure => simp [intOf]; omega
    . have hn0 : ¬ aN xs[k] = 0 := fun h => h0 (cS.1 h);have hle := uE xs k hkl (fun i h' => hz.out i h' (by omega)) h0;have HLE := H5 hle;obtain ⟨s, hs⟩ : ∃ s, aN xs[k] = s := ⟨_, rfl⟩;rw [hs] at hn0 |-;have hb0 : (s != 0) = true := by simpa using hn0
      clear h0 hle hs;go_wp2;go_ret;rw [HLE.out];exact ⟨rfl, HB3.out⟩
  . obtain rfl : k = xs.length := by omega
    have hle := qY xs (fun i h => hz.out i h h);have HLE := H5 hle;clear hle;go_wp2;go_ret;rw [HLE.out];exact ⟨rfl, hb⟩
def fy (k : Int) (xs ys : List Int) : List Int := List.zipWith (fun x y => k * y + x) xs ys
def iS (k : Int) (xs ys cu : List Int) (m : Nat) : Prop := cu.length = xs.length /\ (∀ j (h : j < cu.length) (h1 : j < xs.length) (h2 : j < ys.length), j < m -> cu[j] = k * ys[j] + xs[j]) /\ (∀ j (h : j < cu.length) (h1 : j < xs.length), m <= j -> cu[j] = xs[j])
theorem iS.start (k : Int) (xs ys : List Int) : iS k xs ys xs 0 := ⟨rfl, fun _ _ _ _ h => by omega, fun _ _ _ _ => rfl⟩
theorem iS.next {k : Int} {xs ys cu : List Int} {m : Nat} (h : iS k xs ys cu m) (hm : m < xs.length) (hl : xs.length = ys.length) : iS k xs ys (cu.set m (k * ys[m] + xs[m])) (m + 1) := by
 obtain ⟨h1, h2, h3⟩ := h;refine ⟨by simpa using h1, fun j hj hx hy hjm => ?_, fun j hj hx hjm => ?_⟩
 . rw [List.getElem_set];split
   . rename_i e; subst e; rfl
   . exact h2 j (by simpa using hj) hx hy (by omega)
 . rw [List.getElem_set, if_neg (by omega)];exact h3 j (by simpa using hj) hx (by omega)
theorem iS.skip {k : Int} {xs ys cu : List Int} {m : Nat} (h : iS k xs ys cu m) (hm : m < xs.length) (hl : xs.length = ys.length) (h0 : ys[m] = 0) : iS k xs ys cu (m + 1) := by
 obtain ⟨h1, h2, h3⟩ := h;refine ⟨h1, fun j hj hx hy hjm => ?_, fun j hj hx hjm => h3 j hj hx (by omega)⟩;by_cases e : j = m
 . subst e; rw [h3 j hj hx (Nat.le_refl _), h0]; simp
 . exact h2 j hj hx hy (by omega)
theorem iS.all {k : Int} {xs ys cu : List Int} (h : iS k xs ys cu xs.length) (hl : xs.length = ys.length) : cu = fy k xs ys := by
 obtain ⟨h1, h2, h3⟩ := h;refine List.ext_getElem (by simp [fy, h1, <- hl]) fun j hj hj' => ?_;rw [h2 j hj (by omega) (by omega) (by omega)];simp [fy]
theorem Bq (bx by_ cx cy LA LB : Nat) (xs ys : List Int) (kv : Value) (k : Int) (w : World) (hX : aL w bx xs) (hY : aL w by_ ys) (hK : aj w LA kv k) (hne : bx ≠ by_) (hl : xs.length = ys.length)
 (hxL : ∀ x ∈ xs, ag x.natAbs <= 17592186044415) (hyL : ∀ y ∈ ys, ag y.natAbs <= LB) (hLab : LA + LB <= 17592186044415) (hlen : xs.length <= 4611686018427387903) :
 Calls Tryz.prog 114 #[.slice (some ⟨bx, 0, none⟩) xs.length cx, .slice (some ⟨by_, 0, none⟩) ys.length cy, kv] w fun e w' => e = .returned (.tuple #[]) /\ aL w' bx (fy k xs ys) /\ aO (· = bx) w w' := by
 obtain ⟨kp, rfl⟩ := hK.parts;have HX := H5 hX; clear hX;have HY := H5 hY; clear hY;have HK := H5 hK; clear hK;have HXL := H5 hxL; clear hxL;have HYL := H5 hyL; clear hyL;have Hl := H5 hl; clear hl;go_enter Tryz.func114, Tryz.ntmps114;unfold av at *;go_wp2;have hb1 : Below w.heap.size w (w.alloc (.cells #[.bool kp.1, .slice kp.2.1 kp.2.2.1 kp.2.2.2] 37)) := (Below.refl _ _).alloc (Nat.le_refl _) _;have hr1 := aa.new w #[.bool kp.1, .slice kp.2.1 kp.2.2.1 kp.2.2.2] 37;generalize w.alloc (.cells #[.bool kp.1, .slice kp.2.1 kp.2.2.1 kp.2.2.2] 37) = w1 at *;have HB1 := H5 (aO.bb (S := (· = bx)) hb1);have HX1 := H5 (HX.out.below hb1);have HY1 := H5 (HY.out.below hb1);have HK1 := H5 (HK.out.below hb1);have HR1 := H5 hr1;have hs1 : w.heap.size < w1.heap.size := hr1.lt;have hbx := HX.out.lt;have hby := HY.out.lt;clear hr1 hb1;go_loopw [9] (fun i wr => ∃ (m : Nat) (cu : List Int), m <= xs.length /\ i = .int .i64 (m : Int) /\ Hid (iS k xs ys cu m) /\ Hid (aL wr bx cu) /\ Hid (aL wr by_ ys) /\ Hid (aa wr w.heap.size 37 [.bool kp.1, .slice kp.2.1 kp.2.2.1 kp.2.2.2]) /\ Hid (aj wr LA (av kp) k) /\ Hid (aO (· = bx) w wr)) (fun i _ => xs.length - (intOf i).toNat)
 case atStart => exact ⟨0, xs, Nat.zero_le _, rfl, iS.start .., HX1, HY1, HR1, HK1, HB1⟩
 case round =>
  obtain ⟨m, cu, hm, rfl, HA, hX, hY, hR, hK, hC⟩ := hrel;by_cases hml : m < xs.length
  . have hmy : m < ys.length := by have := Hl.out; omega
    have hmx : m < cu.length := by rw [HA.out.1]; exact hml
    have hm1 : (m : Int) < (ys.length : Int) := by omega
    have hm2 : (m : Int) < (xs.length : Int) := by omega
    obtain ⟨py, cy0, cy1, hny⟩ := hY.out.get hmy;have Hny := H5 hny; clear hny;go_wp2_with fail
    refine (bP (av py) ys[m] _ (Hny.out.int (by have := HYL.out _ (List.getElem_mem hmy); omega))).mono ?_;rintro e w2 ⟨rfl, hb2⟩;clear cy0 cy1;have X2 := H5 (hX.out.below hb2);have Y2 := H5 (hY.out.below hb2);have R2 := H5 (hR.out.below hb2 hR.out.lt);have K2 := H5 (hK.out.below hb2);have C2 := H5 (hC.out.below hb2);have N2 := H5 (Hny.out.below hb2);have hsw := hC.out.size;have hsw2 := hb2.size;have hswr := hR.out.lt;clear hX hY hR hK hC Hny hb2;by_cases h0 : ys[m] = 0
    . have hz0 : aN ys[m] = 0 := cS.2 h0;rw [hz0];have H0 := H5 h0;clear h0 hz0;go_wp2;go_roundw
      case rel => exact ⟨m + 1, cu, by omega, by go_num, HA.out.skip hml Hl.out H0.out, X2, Y2, R2, K2, C2⟩
      case measure => simp [intOf]; omega
    . have hn0 : ¬ aN ys[m] = 0 := fun h => h0 (cS.1 h);obtain ⟨s, hs⟩ : ∃ s, aN ys[m] = s := ⟨_, rfl⟩;rw [hs] at hn0 |-;have hb0 : (s != 0) = true := by simpa using hn0
      clear h0 hs;go_wp2;clear hb0 hn0;obtain ⟨px, cx0, cx1, hnx⟩ := X2.out.get hmx;obtain ⟨py, cy0, cy1, hny⟩ := Y2.out.get hmy;have ck0 : w2.cell? ⟨w.heap.size, 0, none⟩ = some (.bool kp.1) := R2.out.cell 0;have ck1 : w2.cell? ⟨w.heap.size, 1, none⟩ = some (.slice kp.2.1 kp.2.2.1 kp.2.2.2) := R2.out.cell 1;have hbx2 := X2.out.lt;have hby2 := Y2.out.lt;have hsk2 := R2.out.lt;have hxe : cu[m] = xs[m] := HA.out.2.2 m hmx hml (Nat.le_refl _);have hxw : ag (cu[m]).natAbs <= 17592186044415 := by rw [hxe]; exact HXL.out _ (List.getElem_mem hml)
      have hyw : ag (ys[m]).natAbs <= LB := HYL.out _ (List.getElem_mem hmy);have HXE := H5 hxe; clear hxe;have Hnx := H5 (hnx.int hxw); clear hnx;have Hny := H5 (hny.int hyw); clear hny;clear N2;refine dF ⟨13, fun q_ => [18, 19, 20, 21, 22, 23, 24, 25, 26, 27, 28, 29, 30].getD q_ 0,
       fun q_ => [.val (.slice (some ⟨bx, 0, none⟩) xs.length cx), .val (.int .i64 (m : Int)), .val (.agg #[.bool kp.1, .slice kp.2.1 kp.2.2.1 kp.2.2.2]), .val (.slice (some ⟨by_, 0, none⟩) ys.length cy), .val (.int .i64 (m : Int)), .val (.pointer (some ⟨by_, m * 2, none⟩)), .val (.agg #[.bool py.1, .slice py.2.1 py.2.2.1 py.2.2.2]), .val (.slice (some ⟨bx, 0, none⟩) xs.length cx), .val (.int .i64 (m : Int)), .val (.pointer (some ⟨bx, m * 2, none⟩)), .val (.agg #[.bool px.1, .slice px.2.1 px.2.2.1 px.2.2.2]), .int 0 (k * ys[m] + cu[m]), .val (.pointer (some ⟨bx, m * 2, none⟩))].getD q_ .any,
       [],
       [(.agg #[.bool kp.1, .slice kp.2.1 kp.2.2.1 kp.2.2.2], .at_ LA k), (.agg #[.bool py.1, .slice py.2.1 py.2.2.1 py.2.2.2], .at_ LB ys[m]), (.agg #[.bool px.1, .slice px.2.1 px.2.2.1 px.2.2.2], .at_ 17592186044415 cu[m])],
       [],
       [], [(⟨w.heap.size, 0, none⟩, .bool kp.1), (⟨w.heap.size, 1, none⟩, .slice kp.2.1 kp.2.2.1 kp.2.2.2), (⟨by_, m * 2, none⟩, .bool py.1), (⟨by_, m * 2 + 1, none⟩, .slice py.2.1 py.2.2.1 py.2.2.2), (⟨bx, m * 2, none⟩, .bool px.1), (⟨bx, m * 2 + 1, none⟩, .slice px.2.1 px.2.2.1 px.2.2.2)], []⟩ [18, 19, 20, 21, 22, 23, 24, 25, 26, 27, 28, 29, 30] (w2.heap.size) (by kernel_rfl) (by kernel_rfl) (by kernel_rfl) (by kernel_rfl) (by kernel_rfl) ?_ ?_ ?_ ?_ ?_ ?_
      . exact bG (K2.out) (bG (Hny.out) (bG (Hnx.out) aY))
      . exact aY
      . exact bG (⟨ck0, by dsimp only; omega, aY⟩) (bG (⟨ck1, by dsimp only; omega, aY⟩) (bG (⟨cy0, by dsimp only; omega, aY⟩) (bG (⟨cy1, by dsimp only; omega, aY⟩) (bG (⟨cx0, by dsimp only; omega, aY⟩) (bG (⟨cx1, by dsimp only; omega, aY⟩) aY)))))
      . exact aY
      . refine ak ?_ (ak ?_ (ak ?_ (ak ?_ (ak ?_ (ak ?_ (ak ?_ (ak ?_ (ak ?_ (ak ?_ (ak ?_ (ak ?_ (ak ?_ kt))))))))))));any_goals (first | (intro L fx w' hJ hL hp hcl; have _ := tJ hp (by decide +kernel); refine aP rfl fun K hK => ?_; go_simp; exact hJ.q hK (by kernel_rfl) rfl) | fail)
        . intro L fx w' hJ hL hp hcl;refine aP rfl fun K hK => ?_;have cl0 := (hJ.cells _ gm).1;have cl1 := (hJ.cells _ iV).1;try dsimp only at cl0 cl1
          go_simp;exact hJ.q hK (by kernel_rfl) rfl
        . intro L fx w' hJ hL hp hcl;have e3 := hJ.pt 3 21 (.slice (some ⟨by_, 0, none⟩) ys.length cy) rfl rfl rfl (hp 3 (by decide));rw [e3] at hJ |-; clear e3;have e4 := hJ.pt 4 22 (.int .i64 (m : Int)) rfl rfl rfl (hp 4 (by decide));rw [e4] at hJ |-; clear e4;refine aP rfl fun K hK => ?_;go_simp;exact hJ.q hK (by kernel_rfl) rfl
        . intro L fx w' hJ hL hp hcl;have e5 := hJ.pt 5 23 (.pointer (some ⟨by_, m * 2, none⟩)) rfl rfl rfl (hp 5 (by decide));rw [e5] at hJ |-; clear e5;refine aP rfl fun K hK => ?_;have cl0 := (hJ.cells _ qm).1;have cl1 := (hJ.cells _ vT).1;try dsimp only at cl0 cl1
          go_simp;exact hJ.q hK (by kernel_rfl) rfl
        . intro L fx w' hJ hL hp hcl;have e7 := hJ.pt 7 25 (.slice (some ⟨bx, 0, none⟩) xs.length cx) rfl rfl rfl (hp 7 (by decide));rw [e7] at hJ |-; clear e7;have e8 := hJ.pt 8 26 (.int .i64 (m : Int)) rfl rfl rfl (hp 8 (by decide));rw [e8] at hJ |-; clear e8;refine aP rfl fun K hK => ?_;go_simp;exact hJ.q hK (by kernel_rfl) rfl
        . intro L fx w' hJ hL hp hcl;have e9 := hJ.pt 9 27 (.pointer (some ⟨bx, m * 2, none⟩)) rfl rfl rfl (hp 9 (by decide));rw [e9] at hJ |-; clear e9;refine aP rfl fun K hK => ?_;have cl0 := (hJ.cells _ mm4).1;have cl1 := (hJ.cells _ mm5).1;try dsimp only at cl0 cl1
          go_simp;exact hJ.q hK (by kernel_rfl) rfl
        . intro L fx w' hJ hL hp hcl;have e2 := hJ.pt 2 20 (.agg #[.bool kp.1, .slice kp.2.1 kp.2.2.1 kp.2.2.2]) rfl rfl rfl (hp 2 (by decide));rw [e2] at hJ |-; clear e2;have e6 := hJ.pt 6 24 (.agg #[.bool py.1, .slice py.2.1 py.2.2.1 py.2.2.2]) rfl rfl rfl (hp 6 (by decide));rw [e6] at hJ |-; clear e6;have e10 := hJ.pt 10 28 (.agg #[.bool px.1, .slice px.2.1 px.2.2.1 px.2.2.2]) rfl rfl rfl (hp 10 (by decide));rw [e10] at hJ |-; clear e10;refine aP rfl fun K hK => ?_;go_simp;go_at_call 94;refine (ib _ _ _ k ys[m] cu[m] LA LB _ (show aj w' (LA) (.agg #[.bool kp.1, .slice kp.2.1 kp.2.2.1 kp.2.2.2]) (k) from hJ.base _ gm) (show aj w' (LB) (.agg #[.bool py.1, .slice py.2.1 py.2.2.1 py.2.2.2]) (ys[m]) from hJ.base _ iV) (show aj w' (17592186044415) (.agg #[.bool px.1, .slice px.2.1 px.2.2.1 px.2.2.2]) (cu[m]) from hJ.base _ qm) hLab).mono ?_;rintro e w4 ⟨⟨v5, rfl, h5⟩, hb4⟩;try dsimp only
          exact hK _ _ ⟨_, by kernel_rfl, hJ.gC 11 rfl (by kernel_rfl) hb4 (ai.mono h5 (Nat.zero_le _)) (by omega)⟩
        . intro L fx w' hJ hL hp hcl;have e0 := hJ.pt 0 18 (.slice (some ⟨bx, 0, none⟩) xs.length cx) rfl rfl rfl (hp 0 (by decide));rw [e0] at hJ |-; clear e0;have e1 := hJ.pt 1 19 (.int .i64 (m : Int)) rfl rfl rfl (hp 1 (by decide));rw [e1] at hJ |-; clear e1;refine aP rfl fun K hK => ?_;go_simp;exact hJ.q hK (by kernel_rfl) rfl
      . intro L x' w3 hL hJ;have hfr : Below w2.drew.heap.size w2.drew w3 := hJ.fr;have e11 : ai w3 0 (x' 29) (k * ys[m] + cu[m]) := hJ.slot 11 (by show 11 < 13; decide) (hL 11 (by show 11 < 13; decide));have e12 : x' 30 = .pointer (some ⟨bx, m * 2, none⟩) := hJ.slot 12 (by show 12 < 13; decide) (hL 12 (by show 12 < 13; decide));obtain ⟨pz, hpz⟩ := aI.parts e11.num;rw [hpz] at e11;unfold av at hpz;rw [aD (x := x') (d := 29) hpz];rw [aD (x := bg x' 29 (.agg #[.bool pz.1, .slice pz.2.1 pz.2.2.1 pz.2.2.2])) (d := 30) (v := .pointer (some ⟨bx, m * 2, none⟩)) e12];clear hJ hL;have X3 := H5 (aL.below (w := w2.drew) X2.out hfr);have Y3 := H5 (aL.below (w := w2.drew) Y2.out hfr);have R3 := H5 (aa.below (w := w2.drew) R2.out hfr R2.out.lt);have K3 := H5 (aj.below (w := w2.drew) K2.out hfr);have C3 := H5 (C2.out.drew.below hfr);obtain ⟨pq, q0, q1, _⟩ := X3.out.get hmx;have q2 := X3.out.free (m * 2);have q3 := X3.out.free (m * 2 + 1);refine aP rfl fun K hK => ?_;go_simp;refine hK _ _ ⟨⟨bg (bg x' 29 (.agg #[.bool pz.1, .slice pz.2.1 pz.2.2.1 pz.2.2.2])) 30 (.pointer (some ⟨bx, m * 2, none⟩)), by kernel_rfl⟩, ?_⟩;clear hK q0 q1 q2 q3;go_wp2;go_roundw
        case rel =>
         refine ⟨m + 1, _, by omega, by go_num, ?_, H5 (X3.out.set m e11.num), H5 (X3.out.pU Y3.out (fun e => hne e.symm) m pz), H5 ((R3.out.other (by show w.heap.size ≠ bx; omega) _).other (by show w.heap.size ≠ bx; omega) _), H5 (X3.out.dT K3.out m pz), H5 ((C3.out.set rfl _).set rfl _)⟩;rw [HXE.out];exact HA.out.next hml Hl.out
        case measure => simp [intOf]; omega
  . obtain rfl : m = xs.length := by omega
    have he := HA.out.all Hl.out;have HE := H5 he;clear he;go_wp2;refine bodyPost_end (results_none (by kernel_rfl) _ _ _) rfl ?_;rw [<- HE.out];exact ⟨rfl, hX.out, hC.out⟩
def CV.cells (cs : List Value) : CV := CV.free (fun _ v => v = cs) (fun h _ => h) (fun h _ _ _ _ _ _ => h)
def fX (a b : Int) (xs ys : List Int) : List Int := List.zipWith (fun u v => a * u + b * v) xs ys
def jf (a b : Int) (xs ys zs cu : List Int) (m : Nat) : Prop := cu.length = zs.length /\ (∀ j (h : j < cu.length) (h1 : j < xs.length) (h2 : j < ys.length), j < m -> cu[j] = a * xs[j] + b * ys[j]) /\ (∀ j (h : j < cu.length) (h1 : j < zs.length), m <= j -> cu[j] = zs[j])
theorem jf.start (a b : Int) (xs ys zs : List Int) : jf a b xs ys zs zs 0 := ⟨rfl, fun _ _ _ _ h => by omega, fun _ _ _ _ => rfl⟩
theorem jf.next {a b : Int} {xs ys zs cu : List Int} {m : Nat} (h : jf a b xs ys zs cu m) (hx : m < xs.length) (hy : m < ys.length) : jf a b xs ys zs (cu.set m (a * xs[m] + b * ys[m])) (m + 1) := by
 obtain ⟨h1, h2, h3⟩ := h;refine ⟨by simpa using h1, fun j hj hx hy hjm => ?_, fun j hj hx hjm => ?_⟩
 . rw [List.getElem_set];split
   . rename_i e; subst e; rfl
   . exact h2 j (by simpa using hj) hx hy (by omega)
 . rw [List.getElem_set, if_neg (by omega)];exact h3 j (by simpa using hj) hx (by omega)
theorem jf.all {a b : Int} {xs ys zs cu : List Int} (h : jf a b xs ys zs cu xs.length) (hl : xs.length = ys.length) (hz : xs.length = zs.length) : cu = fX a b xs ys := by
 obtain ⟨h1, h2, h3⟩ := h;refine List.ext_getElem (by simp [fX, h1, <- hl, hz]) fun j hj hj' => ?_;rw [h2 j hj (by omega) (by omega) (by omega)];simp [fX]
theorem Bg (bx by_ cx cy LA LB : Nat) (xs ys : List Int) (p q r s : P4) (a b c d : Int) (w : World) (hX : aL w bx xs) (hY : aL w by_ ys) (hA : aj w LA (av p) a) (hB : aj w LA (av q) b) (hC : aj w LA (av r) c) (hD : aj w LA (av s) d) (hne : bx ≠ by_) (hl : xs.length = ys.length)
 (hxL : ∀ x ∈ xs, ag x.natAbs <= LB) (hyL : ∀ y ∈ ys, ag y.natAbs <= LB) (hLab : LA + LB <= 17592186044415) (hlen : xs.length <= 4611686018427387903) :
 Calls Tryz.prog 116 #[.slice (some ⟨bx, 0, none⟩) xs.length cx, .slice (some ⟨by_, 0, none⟩) ys.length cy, .agg #[.bool p.1, .slice p.2.1 p.2.2.1 p.2.2.2, .bool q.1, .slice q.2.1 q.2.2.1 q.2.2.2, .bool r.1, .slice r.2.1 r.2.2.1 r.2.2.2, .bool s.1, .slice s.2.1 s.2.2.1 s.2.2.2]] w
  fun e w' => e = .returned (.tuple #[]) /\ aL w' bx (fX a b xs ys) /\ aL w' by_ (fX c d xs ys) /\ aO (fun k => k = bx \/ k = by_) w w' := by
 have HX := H5 hX; clear hX;have HY := H5 hY; clear hY;have HA := H5 hA; clear hA;have HB := H5 hB; clear hB;have HC := H5 hC; clear hC;have HD := H5 hD; clear hD;have HXL := H5 hxL; clear hxL;have HYL := H5 hyL; clear hyL;have Hl := H5 hl; clear hl;go_enter Tryz.func116, Tryz.ntmps116;unfold av at *;go_wp2;have hb1 : Below w.heap.size w (w.alloc (.cells #[.bool p.1, .slice p.2.1 p.2.2.1 p.2.2.2, .bool q.1, .slice q.2.1 q.2.2.1 q.2.2.2, .bool r.1, .slice r.2.1 r.2.2.1 r.2.2.2, .bool s.1, .slice s.2.1 s.2.2.1 s.2.2.2] 138)) := (Below.refl _ _).alloc (Nat.le_refl _) _;have hr1 := aa.new w #[.bool p.1, .slice p.2.1 p.2.2.1 p.2.2.2, .bool q.1, .slice q.2.1 q.2.2.1 q.2.2.2, .bool r.1, .slice r.2.1 r.2.2.1 r.2.2.2, .bool s.1, .slice s.2.1 s.2.2.1 s.2.2.2] 138;generalize w.alloc (.cells #[.bool p.1, .slice p.2.1 p.2.2.1 p.2.2.2, .bool q.1, .slice q.2.1 q.2.2.1 q.2.2.2, .bool r.1, .slice r.2.1 r.2.2.1 r.2.2.2, .bool s.1, .slice s.2.1 s.2.2.1 s.2.2.2] 138) = w1 at *;have HB1 := H5 (aO.bb (S := (fun k => k = bx \/ k = by_)) hb1);have HX1 := H5 (HX.out.below hb1);have HY1 := H5 (HY.out.below hb1);have HI1 : Hid (aj w1 LA (av p) a /\ aj w1 LA (av q) b /\ aj w1 LA (av r) c /\ aj w1 LA (av s) d) := H5 ⟨HA.out.below hb1, HB.out.below hb1, HC.out.below hb1, HD.out.below hb1⟩;have HR1 := H5 hr1;have hs1 : w.heap.size < w1.heap.size := hr1.lt;have hbx := HX.out.lt;have hby := HY.out.lt;clear hr1 hb1;go_loopw [11] (fun i wr => ∃ (m : Nat) (cu cv : List Int), m <= xs.length /\ i = .int .i64 (m : Int) /\ Hid (jf a b xs ys xs cu m) /\ Hid (jf c d xs ys ys cv m) /\ Hid (aL wr bx cu) /\ Hid (aL wr by_ cv) /\ Hid (aa wr w.heap.size 138 [.bool p.1, .slice p.2.1 p.2.2.1 p.2.2.2, .bool q.1, .slice q.2.1 q.2.2.1 q.2.2.2, .bool r.1, .slice r.2.1 r.2.2.1 r.2.2.2, .bool s.1, .slice s.2.1 s.2.2.1 s.2.2.2]) /\ Hid (aj wr LA (av p) a /\ aj wr LA (av q) b /\ aj wr LA (av r) c /\ aj wr LA (av s) d) /\ Hid (aO (fun k => k = bx \/ k = by_) w wr)) (fun i _ => xs.length - (intOf i).toNat)
 case atStart => exact ⟨0, xs, ys, Nat.zero_le _, rfl, jf.start .., jf.start .., HX1, HY1, HR1, HI1, HB1⟩
 case round =>
  obtain ⟨m, cu, cv, hm, rfl, HU, HV, hX, hY, hR, hI, hC⟩ := hrel;by_cases hml : m < xs.length
  . have hmy : m < ys.length := by have := Hl.out; omega
    have hmx : m < cu.length := by rw [HU.out.1]; exact hml
    have hmv : m < cv.length := by rw [HV.out.1]; exact hmy
    have hm1 : (m : Int) < (ys.length : Int) := by omega
    have hm2 : (m : Int) < (xs.length : Int) := by omega
    go_wp2;obtain ⟨pu, cu0, cu1, hnu⟩ := hX.out.get hmx;obtain ⟨pv, cv0, cv1, hnv⟩ := hY.out.get hmv;have hxe : cu[m] = xs[m] := HU.out.2.2 m hmx hml (Nat.le_refl _);have hye : cv[m] = ys[m] := HV.out.2.2 m hmv hmy (Nat.le_refl _);rw [hxe] at hnu;rw [hye] at hnv;have hxw : ag (xs[m]).natAbs <= LB := HXL.out _ (List.getElem_mem hml);have hyw : ag (ys[m]).natAbs <= LB := HYL.out _ (List.getElem_mem hmy);have Hnu := H5 (hnu.int hxw);have Hnv := H5 (hnv.int hyw);clear hxe hye hnu hnv;have hbx2 := hX.out.lt;have hby2 := hY.out.lt;have hsk2 := hR.out.lt;have hswr := hC.out.size;refine ez ⟨12, fun q_ => [14, 15, 16, 17, 18, 19, 20, 21, 7, 8, 1010, 1011].getD q_ 0,
     fun q_ => [.val (.slice (some ⟨bx, 0, none⟩) xs.length cx), .val (.int .i64 (m : Int)), .val (.pointer (some ⟨bx, m * 2, none⟩)), .val (.agg #[.bool pu.1, .slice pu.2.1 pu.2.2.1 pu.2.2.2]), .val (.slice (some ⟨by_, 0, none⟩) ys.length cy), .val (.int .i64 (m : Int)), .val (.pointer (some ⟨by_, m * 2, none⟩)), .val (.agg #[.bool pv.1, .slice pv.2.1 pv.2.2.1 pv.2.2.2]), .ptr wr.heap.size 37 2, .ptr wr.heap.size 37 2, .any, .any].getD q_ .any,
     [],
     [],
     [],
     [(10, 7, 37, .cells [.bool pu.1, .slice pu.2.1 pu.2.2.1 pu.2.2.2]), (11, 8, 37, .cells [.bool pv.1, .slice pv.2.1 pv.2.2.1 pv.2.2.2])], [(⟨bx, m * 2, none⟩, .bool pu.1), (⟨bx, m * 2 + 1, none⟩, .slice pu.2.1 pu.2.2.1 pu.2.2.2), (⟨by_, m * 2, none⟩, .bool pv.1), (⟨by_, m * 2 + 1, none⟩, .slice pv.2.1 pv.2.2.1 pv.2.2.2)], [(8, 7), (9, 8)]⟩ [14, 15, 16, 17, 18, 19, 20, 21, 7, 8] (wr.heap.size) (by kernel_rfl) (by kernel_rfl) (by kernel_rfl) (by kernel_rfl) ?_ ?_ ?_ ?_ ?_ ?_
    . exact aY
    . exact aY
    . exact bG (⟨cu0, by dsimp only; omega, aY⟩) (bG (⟨cu1, by dsimp only; omega, aY⟩) (bG (⟨cv0, by dsimp only; omega, aY⟩) (bG (⟨cv1, by dsimp only; omega, aY⟩) aY)))
    . exact aY
    . refine ak ?_ (ak ?_ (ak ?_ (ak ?_ (ak ?_ (ak ?_ (ak ?_ (ak ?_ (ak ?_ (ak ?_ (ak ?_ (ak ?_ kt)))))))))));any_goals (first | (intro L fx w' hJ hL hp hcl; have _ := tJ hp (by decide +kernel); refine aP rfl fun K hK => ?_; go_simp; exact hJ.q hK (by kernel_rfl) rfl) | fail)
      . intro L fx w' hJ hL hp hcl;have e0 := hJ.pt 0 14 (.slice (some ⟨bx, 0, none⟩) xs.length cx) rfl rfl rfl (hp 0 (by decide));rw [e0] at hJ |-; clear e0;have e1 := hJ.pt 1 15 (.int .i64 (m : Int)) rfl rfl rfl (hp 1 (by decide));rw [e1] at hJ |-; clear e1;refine aP rfl fun K hK => ?_;go_simp;exact hJ.q hK (by kernel_rfl) rfl
      . intro L fx w' hJ hL hp hcl;have e2 := hJ.pt 2 16 (.pointer (some ⟨bx, m * 2, none⟩)) rfl rfl rfl (hp 2 (by decide));rw [e2] at hJ |-; clear e2;refine aP rfl fun K hK => ?_;have cl0 := (hJ.cells _ gm).1;have cl1 := (hJ.cells _ iV).1;try dsimp only at cl0 cl1
        go_simp;exact hJ.q hK (by kernel_rfl) rfl
      . intro L fx w' hJ hL hp hcl;have e4 := hJ.pt 4 18 (.slice (some ⟨by_, 0, none⟩) ys.length cy) rfl rfl rfl (hp 4 (by decide));rw [e4] at hJ |-; clear e4;have e5 := hJ.pt 5 19 (.int .i64 (m : Int)) rfl rfl rfl (hp 5 (by decide));rw [e5] at hJ |-; clear e5;refine aP rfl fun K hK => ?_;go_simp;exact hJ.q hK (by kernel_rfl) rfl
      . intro L fx w' hJ hL hp hcl;have e6 := hJ.pt 6 20 (.pointer (some ⟨by_, m * 2, none⟩)) rfl rfl rfl (hp 6 (by decide));rw [e6] at hJ |-; clear e6;refine aP rfl fun K hK => ?_;have cl0 := (hJ.cells _ qm).1;have cl1 := (hJ.cells _ vT).1;try dsimp only at cl0 cl1
        go_simp;exact hJ.q hK (by kernel_rfl) rfl
      . intro L fx w' hJ hL hp hcl;have hg0 : wr.heap.size <= w'.heap.size := Nat.le_trans (by omega : wr.heap.size <= wr.heap.size) hJ.size;refine aP rfl fun K hK => ?_;go_simp;exact hK _ _ ⟨_, by kernel_rfl, hJ.grow 8 (by show 8 < 12; decide) _ (by kernel_rfl) (by kernel_rfl) (by intro t ht; rcases mc ht with rfl | ht; exact ⟨by show 10 ≠ 8; decide, fun _ => by cases hh : L 10 with | false => rfl | true => have := hcl 10 (by show 10 < 12; decide) hh 8 (by decide); rw [hL] at this; cases this⟩; rcases mc ht with rfl | ht; exact ⟨by show 11 ≠ 8; decide, fun h => absurd (show 8 = 7 from h) (by decide)⟩; cases ht) (by intro p hp; rcases mc hp with rfl | hp; exact ⟨⟨fun _ => rfl, fun _ => rfl⟩, fun _ q hq hne hLq => (by rcases mc hq with rfl | hq; exact absurd rfl hne; rcases mc hq with rfl | hq; (obtain ⟨g9, cs9, hx9, _, hr9, _⟩ := hJ.slot 9 (by show 9 < 12; decide) hLq; have hx9 : fx 8 = _ := hx9; show _ ≠ fx 8; rw [hx9]; intro e9; injection e9 with e9; injection e9 with e9; injection e9 with e9; exact absurd e9 (Nat.ne_of_gt hr9.lt)); cases hq)⟩; rcases mc hp with rfl | hp; exact ⟨⟨fun h => absurd (show 9 = 8 from h) (by decide), fun h => absurd (show 8 = 7 from h) (by decide)⟩, fun h => absurd (show 9 = 8 from h) (by decide)⟩; cases hp) ((Below.refl _ _).alloc (Nat.le_refl _) _) ⟨w'.heap.size, _, rfl, hJ.size, aa.new _ _ _, aK.two _ _ _ _, rfl⟩ hg0⟩
      . intro L fx w' hJ hL hp hcl;have hg0 : wr.heap.size <= w'.heap.size := Nat.le_trans (by omega : wr.heap.size <= wr.heap.size) hJ.size;refine aP rfl fun K hK => ?_;go_simp;exact hK _ _ ⟨_, by kernel_rfl, hJ.grow 9 (by show 9 < 12; decide) _ (by kernel_rfl) (by kernel_rfl) (by intro t ht; rcases mc ht with rfl | ht; exact ⟨by show 10 ≠ 9; decide, fun h => absurd (show 7 = 8 from h) (by decide)⟩; rcases mc ht with rfl | ht; exact ⟨by show 11 ≠ 9; decide, fun _ => by cases hh : L 11 with | false => rfl | true => have := hcl 11 (by show 11 < 12; decide) hh 9 (by decide); rw [hL] at this; cases this⟩; cases ht) (by intro p hp; rcases mc hp with rfl | hp; exact ⟨⟨fun h => absurd (show 8 = 9 from h) (by decide), fun h => absurd (show 7 = 8 from h) (by decide)⟩, fun h => absurd (show 8 = 9 from h) (by decide)⟩; rcases mc hp with rfl | hp; exact ⟨⟨fun _ => rfl, fun _ => rfl⟩, fun _ q hq hne hLq => (by rcases mc hq with rfl | hq; (obtain ⟨g9, cs9, hx9, _, hr9, _⟩ := hJ.slot 8 (by show 8 < 12; decide) hLq; have hx9 : fx 7 = _ := hx9; show _ ≠ fx 7; rw [hx9]; intro e9; injection e9 with e9; injection e9 with e9; injection e9 with e9; exact absurd e9 (Nat.ne_of_gt hr9.lt)); rcases mc hq with rfl | hq; exact absurd rfl hne; cases hq)⟩; cases hp) ((Below.refl _ _).alloc (Nat.le_refl _) _) ⟨w'.heap.size, _, rfl, hJ.size, aa.new _ _ _, aK.two _ _ _ _, rfl⟩ hg0⟩
      . intro L fx w' hJ hL hp hcl;have e8 := hJ.slot 8 (by show 8 < 12; decide) (hp 8 (by decide));have e3 := hJ.pt 3 17 (.agg #[.bool pu.1, .slice pu.2.1 pu.2.2.1 pu.2.2.2]) rfl rfl rfl (hp 3 (by decide));rw [e3] at hJ |-; clear e3;obtain ⟨g, cs, hx, hgB, hr0, hn0, hl0⟩ := e8;obtain ⟨z0, z1, rfl⟩ : ∃ z0 z1, cs = [z0, z1] := lW hl0;have hf0 := aa.free hr0 0;have hc0 := aa.cell hr0 0;have hf1 := aa.free hr0 1;have hc1 := aa.cell hr0 1;try dsimp only at hf0 hc0 hf1 hc1
        have hx1 := hx;rw [aD (x := (bg fx 17 (.agg #[.bool pu.1, .slice pu.2.1 pu.2.2.1 pu.2.2.2]))) (d := 7) hx] at hJ |-;refine aP rfl fun K hK => ?_;go_simp;exact hK _ _ ⟨_, by kernel_rfl, hJ.fm (us := [.bool pu.1, .slice pu.2.1 pu.2.2.1 pu.2.2.2]) 10 7 _ _ (by show 10 < 12; decide) rfl gm (by intro t ht h; rcases mc ht with rfl | ht; rfl; rcases mc ht with rfl | ht; exact absurd (show 11 = 10 from h) (by decide); cases ht) (by intro t ht hne hLt; rcases mc ht with rfl | ht; exact absurd rfl hne; rcases mc ht with rfl | ht; exact hJ.apart (9, 8) iV (8, 7) gm (by show 9 ≠ 8; decide) (hcl 11 (by show 11 < 12; decide) hLt 9 (by decide)) (hp 8 (by decide)); cases ht) (by kernel_rfl) (by kernel_rfl) (by decide) (by rfl) hgB hr0 hn0 rfl (aK.two _ _ _ _) rfl (by omega)⟩
      . intro L fx w' hJ hL hp hcl;have e9 := hJ.slot 9 (by show 9 < 12; decide) (hp 9 (by decide));have e7 := hJ.pt 7 21 (.agg #[.bool pv.1, .slice pv.2.1 pv.2.2.1 pv.2.2.2]) rfl rfl rfl (hp 7 (by decide));rw [e7] at hJ |-; clear e7;obtain ⟨g, cs, hx, hgB, hr0, hn0, hl0⟩ := e9;obtain ⟨z0, z1, rfl⟩ : ∃ z0 z1, cs = [z0, z1] := lW hl0;have hf0 := aa.free hr0 0;have hc0 := aa.cell hr0 0;have hf1 := aa.free hr0 1;have hc1 := aa.cell hr0 1;try dsimp only at hf0 hc0 hf1 hc1
        have hx1 := hx;rw [aD (x := (bg fx 21 (.agg #[.bool pv.1, .slice pv.2.1 pv.2.2.1 pv.2.2.2]))) (d := 8) hx] at hJ |-;refine aP rfl fun K hK => ?_;go_simp;exact hK _ _ ⟨_, by kernel_rfl, hJ.fm (us := [.bool pv.1, .slice pv.2.1 pv.2.2.1 pv.2.2.2]) 11 8 _ _ (by show 11 < 12; decide) rfl iV (by intro t ht h; rcases mc ht with rfl | ht; exact absurd (show 10 = 11 from h) (by decide); rcases mc ht with rfl | ht; rfl; cases ht) (by intro t ht hne hLt; rcases mc ht with rfl | ht; exact hJ.apart (8, 7) gm (9, 8) iV (by show 8 ≠ 9; decide) (hcl 10 (by show 10 < 12; decide) hLt 8 (by decide)) (hp 9 (by decide)); rcases mc ht with rfl | ht; exact absurd rfl hne; cases ht) (by kernel_rfl) (by kernel_rfl) (by decide) (by rfl) hgB hr0 hn0 rfl (aK.two _ _ _ _) rfl (by omega)⟩
    . intro L x' w3 hL hJ;have hfr : Below wr.drew.heap.size wr.drew w3 := hJ.fr;obtain ⟨g7, cs7, hx7, hg7, hr7, hcs7⟩ := hJ.new _ gm (hL 10 (by show 10 < 12; decide));obtain ⟨g8, cs8, hx8, hg8, hr8, hcs8⟩ := hJ.new _ iV (hL 11 (by show 11 < 12; decide));obtain rfl : cs7 = _ := hcs7;obtain rfl : cs8 = _ := hcs8;have hx7 : x' 7 = _ := hx7;have hx8 : x' 8 = _ := hx8;rw [aD (x := x') (d := 7) hx7];rw [aD (x := bg x' 7 (.pointer (some ⟨g7, 0, none⟩))) (d := 8) (v := .pointer (some ⟨g8, 0, none⟩)) hx8];have hg7 : wr.heap.size <= g7 := hg7;have hg8 : wr.heap.size <= g8 := hg8;have RG : Hid (aa w3 g7 37 [.bool pu.1, .slice pu.2.1 pu.2.2.1 pu.2.2.2]) := H5 hr7;have RH : Hid (aa w3 g8 37 [.bool pv.1, .slice pv.2.1 pv.2.2.1 pv.2.2.2]) := H5 hr8;clear hJ hL hx7 hx8 hr7 hr8 cu0 cu1 cv0 cv1;simp only [pN, Nat.reduceEqDiff, ↓reduceIte];go_wp2;have X3 := H5 (aL.below (w := wr.drew) hX.out hfr);have Y3 := H5 (aL.below (w := wr.drew) hY.out hfr);have R3 := H5 (aa.below (w := wr.drew) hR.out hfr hR.out.lt);have A3 := H5 (aj.below (w := wr.drew) hI.out.1 hfr);have B3 := H5 (aj.below (w := wr.drew) hI.out.2.1 hfr);have D3 := H5 (aj.below (w := wr.drew) hI.out.2.2.1 hfr);have E3 := H5 (aj.below (w := wr.drew) hI.out.2.2.2 hfr);have U3 := H5 (aj.below (w := wr.drew) Hnu.out hfr);have V3 := H5 (aj.below (w := wr.drew) Hnv.out hfr);have C3 := H5 (hC.out.drew.below hfr);have hs3 := hfr.size;have hs3' : wr.drew.heap.size = wr.heap.size := rfl;have hg7' := RG.out.lt;have hg8' := RH.out.lt;clear hX hY hR hI hC Hnu Hnv hfr;have hwb : ag b.natAbs <= LA := HB.out.ag;have hwd : ag d.natAbs <= LA := HD.out.ag;refine dF ⟨13, fun q_ => [22, 23, 24, 25, 26, 27, 28, 29, 30, 31, 32, 33, 34].getD q_ 0,
       fun q_ => [.val (.slice (some ⟨bx, 0, none⟩) xs.length cx), .val (.int .i64 (m : Int)), .val (.pointer (some ⟨w.heap.size, 0, none⟩)), .val (.pointer (some ⟨w.heap.size, 0, none⟩)), .val (.agg #[.bool p.1, .slice p.2.1 p.2.2.1 p.2.2.2]), .val (.agg #[.bool pu.1, .slice pu.2.1 pu.2.2.1 pu.2.2.2]), .val (.pointer (some ⟨w.heap.size, 0, none⟩)), .val (.pointer (some ⟨w.heap.size, 2, none⟩)), .val (.agg #[.bool q.1, .slice q.2.1 q.2.2.1 q.2.2.2]), .val (.agg #[.bool pv.1, .slice pv.2.1 pv.2.2.1 pv.2.2.2]), .int 0 (b * ys[m]), .int 0 (a * xs[m] + b * ys[m]), .val (.pointer (some ⟨bx, m * 2, none⟩))].getD q_ .any,
       [],
       [(.agg #[.bool p.1, .slice p.2.1 p.2.2.1 p.2.2.2], .at_ LA a), (.agg #[.bool q.1, .slice q.2.1 q.2.2.1 q.2.2.2], .at_ LA b), (.agg #[.bool pu.1, .slice pu.2.1 pu.2.2.1 pu.2.2.2], .at_ LB xs[m]), (.agg #[.bool pv.1, .slice pv.2.1 pv.2.2.1 pv.2.2.2], .at_ LB ys[m])],
       [(w.heap.size, 138, [.bool p.1, .slice p.2.1 p.2.2.1 p.2.2.2, .bool q.1, .slice q.2.1 q.2.2.1 q.2.2.2, .bool r.1, .slice r.2.1 r.2.2.1 r.2.2.2, .bool s.1, .slice s.2.1 s.2.2.1 s.2.2.2]), (g7, 37, [.bool pu.1, .slice pu.2.1 pu.2.2.1 pu.2.2.2]), (g8, 37, [.bool pv.1, .slice pv.2.1 pv.2.2.1 pv.2.2.2])],
       [], [], []⟩ [22, 23, 24, 25, 26, 27, 28, 29, 30, 31, 32, 33, 34] (w3.heap.size) (by kernel_rfl) (by kernel_rfl) (by kernel_rfl) (by kernel_rfl) (by kernel_rfl) ?_ ?_ ?_ ?_ ?_ ?_
      . exact bG (A3.out) (bG (B3.out) (bG (U3.out) (bG (V3.out) aY)))
      . exact bG (⟨R3.out, (R3.out).lt, aY⟩) (bG (⟨RG.out, (RG.out).lt, aY⟩) (bG (⟨RH.out, (RH.out).lt, aY⟩) aY))
      . exact aY
      . exact aY
      . refine ak ?_ (ak ?_ (ak ?_ (ak ?_ (ak ?_ (ak ?_ (ak ?_ (ak ?_ (ak ?_ (ak ?_ (ak ?_ (ak ?_ (ak ?_ kt))))))))))));any_goals (first | (intro L fx w' hJ hL hp hcl; have _ := tJ hp (by decide +kernel); refine aP rfl fun K hK => ?_; go_simp; exact hJ.q hK (by kernel_rfl) rfl) | fail)
        . intro L fx w' hJ hL hp hcl;have e2 := hJ.pt 2 24 (.pointer (some ⟨w.heap.size, 0, none⟩)) rfl rfl rfl (hp 2 (by decide));rw [e2] at hJ |-; clear e2;refine aP rfl fun K hK => ?_;go_simp;exact hJ.q hK (by kernel_rfl) rfl
        . intro L fx w' hJ hL hp hcl;have e3 := hJ.pt 3 25 (.pointer (some ⟨w.heap.size, 0, none⟩)) rfl rfl rfl (hp 3 (by decide));rw [e3] at hJ |-; clear e3;refine aP rfl fun K hK => ?_;have rw0 := (hJ.rows _ gm).1;have cl0 : w'.cell? ⟨w.heap.size, 0, none⟩ = some (.bool p.1) := rw0.cell 0;have cl1 : w'.cell? ⟨w.heap.size, 1, none⟩ = some (.slice p.2.1 p.2.2.1 p.2.2.2) := rw0.cell 1;go_simp;exact hJ.q hK (by kernel_rfl) rfl
        . intro L fx w' hJ hL hp hcl;refine aP rfl fun K hK => ?_;have rw0 := (hJ.rows _ iV).1;have cl0 : w'.cell? ⟨g7, 0, none⟩ = some (.bool pu.1) := rw0.cell 0;have cl1 : w'.cell? ⟨g7, 1, none⟩ = some (.slice pu.2.1 pu.2.2.1 pu.2.2.2) := rw0.cell 1;go_simp;exact hJ.q hK (by kernel_rfl) rfl
        . intro L fx w' hJ hL hp hcl;have e6 := hJ.pt 6 28 (.pointer (some ⟨w.heap.size, 0, none⟩)) rfl rfl rfl (hp 6 (by decide));rw [e6] at hJ |-; clear e6;refine aP rfl fun K hK => ?_;go_simp;exact hJ.q hK (by kernel_rfl) rfl
        . intro L fx w' hJ hL hp hcl;have e7 := hJ.pt 7 29 (.pointer (some ⟨w.heap.size, 2, none⟩)) rfl rfl rfl (hp 7 (by decide));rw [e7] at hJ |-; clear e7;refine aP rfl fun K hK => ?_;have rw0 := (hJ.rows _ gm).1;have cl0 : w'.cell? ⟨w.heap.size, 2, none⟩ = some (.bool q.1) := rw0.cell 2;have cl1 : w'.cell? ⟨w.heap.size, 3, none⟩ = some (.slice q.2.1 q.2.2.1 q.2.2.2) := rw0.cell 3;go_simp;exact hJ.q hK (by kernel_rfl) rfl
        . intro L fx w' hJ hL hp hcl;refine aP rfl fun K hK => ?_;have rw0 := (hJ.rows _ qm).1;have cl0 : w'.cell? ⟨g8, 0, none⟩ = some (.bool pv.1) := rw0.cell 0;have cl1 : w'.cell? ⟨g8, 1, none⟩ = some (.slice pv.2.1 pv.2.2.1 pv.2.2.2) := rw0.cell 1;go_simp;exact hJ.q hK (by kernel_rfl) rfl
        . intro L fx w' hJ hL hp hcl;have e8 := hJ.pt 8 30 (.agg #[.bool q.1, .slice q.2.1 q.2.2.1 q.2.2.2]) rfl rfl rfl (hp 8 (by decide));rw [e8] at hJ |-; clear e8;have e9 := hJ.pt 9 31 (.agg #[.bool pv.1, .slice pv.2.1 pv.2.2.1 pv.2.2.2]) rfl rfl rfl (hp 9 (by decide));rw [e9] at hJ |-; clear e9;refine aP rfl fun K hK => ?_;go_simp;go_at_call 23;refine (gG _ _ b ys[m] LA LB _ (show aj w' (LA) (.agg #[.bool q.1, .slice q.2.1 q.2.2.1 q.2.2.2]) (b) from hJ.base _ iV) (show aj w' (LB) (.agg #[.bool pv.1, .slice pv.2.1 pv.2.2.1 pv.2.2.2]) (ys[m]) from hJ.base _ vT) hLab).mono ?_;rintro e w4 ⟨⟨v5, rfl, h5⟩, hb4⟩;try dsimp only
          exact hK _ _ ⟨_, by kernel_rfl, hJ.gC 10 rfl (by kernel_rfl) hb4 (ai.mono h5 (Nat.zero_le _)) (by omega)⟩
        . intro L fx w' hJ hL hp hcl;have e10 := hJ.slot 10 (by show 10 < 13; decide) (hp 10 (by decide));have e4 := hJ.pt 4 26 (.agg #[.bool p.1, .slice p.2.1 p.2.2.1 p.2.2.2]) rfl rfl rfl (hp 4 (by decide));rw [e4] at hJ |-; clear e4;have e5 := hJ.pt 5 27 (.agg #[.bool pu.1, .slice pu.2.1 pu.2.2.1 pu.2.2.2]) rfl rfl rfl (hp 5 (by decide));rw [e5] at hJ |-; clear e5;refine aP rfl fun K hK => ?_;go_simp;go_at_call 94;refine (ib _ _ _ a xs[m] (b * ys[m]) LA LB _ (show aj w' (LA) (.agg #[.bool p.1, .slice p.2.1 p.2.2.1 p.2.2.2]) (a) from hJ.base _ gm) (show aj w' (LB) (.agg #[.bool pu.1, .slice pu.2.1 pu.2.2.1 pu.2.2.2]) (xs[m]) from hJ.base _ qm) (ai.int (show ai w' _ (fx 32) _ from e10) (by rw [Int.natAbs_mul]; exact Nat.le_trans (cH _ _) (Nat.le_trans (Nat.add_le_add hwb hyw) hLab))) hLab).mono ?_;rintro e w4 ⟨⟨v5, rfl, h5⟩, hb4⟩;try dsimp only
          exact hK _ _ ⟨_, by kernel_rfl, hJ.gC 11 rfl (by kernel_rfl) hb4 (ai.mono h5 (Nat.zero_le _)) (by omega)⟩
        . intro L fx w' hJ hL hp hcl;have e0 := hJ.pt 0 22 (.slice (some ⟨bx, 0, none⟩) xs.length cx) rfl rfl rfl (hp 0 (by decide));rw [e0] at hJ |-; clear e0;have e1 := hJ.pt 1 23 (.int .i64 (m : Int)) rfl rfl rfl (hp 1 (by decide));rw [e1] at hJ |-; clear e1;refine aP rfl fun K hK => ?_;go_simp;exact hJ.q hK (by kernel_rfl) rfl
      . intro L x' w3b hL hJ;have hfr : Below w3.drew.heap.size w3.drew w3b := hJ.fr;have e11 : ai w3b 0 (x' 33) (a * xs[m] + b * ys[m]) := hJ.slot 11 (by show 11 < 13; decide) (hL 11 (by show 11 < 13; decide));have e12 : x' 34 = .pointer (some ⟨bx, m * 2, none⟩) := hJ.slot 12 (by show 12 < 13; decide) (hL 12 (by show 12 < 13; decide));obtain ⟨pz3, hpz⟩ := aI.parts e11.num;rw [hpz] at e11;unfold av at hpz;rw [aD (x := x') (d := 33) hpz];rw [aD (x := bg x' 33 (.agg #[.bool pz3.1, .slice pz3.2.1 pz3.2.2.1 pz3.2.2.2])) (d := 34) (v := .pointer (some ⟨bx, m * 2, none⟩)) e12];clear hJ hL;have X4 := H5 (aL.below (w := w3.drew) X3.out hfr);have Y4 := H5 (aL.below (w := w3.drew) Y3.out hfr);have R4 := H5 (aa.below (w := w3.drew) R3.out hfr R3.out.lt);have RG := H5 (aa.below (w := w3.drew) RG.out hfr RG.out.lt);have RH := H5 (aa.below (w := w3.drew) RH.out hfr RH.out.lt);have A4 := H5 (aj.below (w := w3.drew) A3.out hfr);have B4 := H5 (aj.below (w := w3.drew) B3.out hfr);have D4 := H5 (aj.below (w := w3.drew) D3.out hfr);have E4 := H5 (aj.below (w := w3.drew) E3.out hfr);have U4 := H5 (aj.below (w := w3.drew) U3.out hfr);have V4 := H5 (aj.below (w := w3.drew) V3.out hfr);have C4 := H5 (C3.out.drew.below hfr);have hsz4 := hfr.size;have hsz4' : w3.drew.heap.size = w3.heap.size := rfl;clear X3 Y3 R3 A3 B3 D3 E3 U3 V3 C3;obtain ⟨pq, q0, q1, _⟩ := X4.out.get hmx;have q2 := X4.out.free (m * 2);have q3 := X4.out.free (m * 2 + 1);refine aP rfl fun K hK => ?_;go_simp;refine hK _ _ ⟨⟨bg (bg x' 33 (.agg #[.bool pz3.1, .slice pz3.2.1 pz3.2.2.1 pz3.2.2.2])) 34 (.pointer (some ⟨bx, m * 2, none⟩)), by kernel_rfl⟩, ?_⟩;clear hK q0 q1 q2 q3;have ZX := H5 (X4.out.set m e11.num);have ZY := H5 (X4.out.pU Y4.out (fun e => hne e.symm) m pz3);have ZR := H5 ((R4.out.other (p := ⟨bx, m * 2, none⟩) (by show w.heap.size ≠ bx; omega) (.bool pz3.1)).other (p := ⟨bx, m * 2 + 1, none⟩) (by show w.heap.size ≠ bx; omega) (.slice pz3.2.1 pz3.2.2.1 pz3.2.2.2));have Z7 := H5 ((RG.out.other (p := ⟨bx, m * 2, none⟩) (by show g7 ≠ bx; omega) (.bool pz3.1)).other (p := ⟨bx, m * 2 + 1, none⟩) (by show g7 ≠ bx; omega) (.slice pz3.2.1 pz3.2.2.1 pz3.2.2.2));have Z8 := H5 ((RH.out.other (p := ⟨bx, m * 2, none⟩) (by show g8 ≠ bx; omega) (.bool pz3.1)).other (p := ⟨bx, m * 2 + 1, none⟩) (by show g8 ≠ bx; omega) (.slice pz3.2.1 pz3.2.2.1 pz3.2.2.2));have ZA := H5 (X4.out.dT A4.out m pz3);have ZB := H5 (X4.out.dT B4.out m pz3);have ZD := H5 (X4.out.dT D4.out m pz3);have ZE := H5 (X4.out.dT E4.out m pz3);have ZU := H5 (X4.out.dT U4.out m pz3);have ZV := H5 (X4.out.dT V4.out m pz3);have ZC := H5 ((C4.out.set (p := ⟨bx, m * 2, none⟩) (Or.inl rfl) (.bool pz3.1)).set (p := ⟨bx, m * 2 + 1, none⟩) (Or.inl rfl) (.slice pz3.2.1 pz3.2.2.1 pz3.2.2.2));clear X4 Y4 R4 RG RH A4 B4 D4 E4 U4 V4 C4 e11 e12;have hszg : ((w3b.setCell ⟨bx, m * 2, none⟩ (.bool pz3.1)).setCell ⟨bx, m * 2 + 1, none⟩ (.slice pz3.2.1 pz3.2.2.1 pz3.2.2.2)).heap.size = w3b.heap.size := by simp
        generalize ((w3b.setCell ⟨bx, m * 2, none⟩ (.bool pz3.1)).setCell ⟨bx, m * 2 + 1, none⟩ (.slice pz3.2.1 pz3.2.2.1 pz3.2.2.2)) = w5 at *;have X6 := ZX;have Y6 := ZY;have R6 := ZR;have RG := Z7;have RH := Z8;have A6 := ZA;have B6 := ZB;have D6 := ZD;have E6 := ZE;have U6 := ZU;have V6 := ZV;have C6 := ZC;clear ZX ZY ZR Z7 Z8 ZA ZB ZD ZE ZU ZV ZC;go_wp2;refine dF ⟨13, fun q_ => [35, 36, 37, 38, 39, 40, 41, 42, 43, 44, 45, 46, 47].getD q_ 0,
         fun q_ => [.val (.slice (some ⟨by_, 0, none⟩) ys.length cy), .val (.int .i64 (m : Int)), .val (.pointer (some ⟨w.heap.size, 4, none⟩)), .val (.pointer (some ⟨w.heap.size, 4, none⟩)), .val (.agg #[.bool r.1, .slice r.2.1 r.2.2.1 r.2.2.2]), .val (.agg #[.bool pu.1, .slice pu.2.1 pu.2.2.1 pu.2.2.2]), .val (.pointer (some ⟨w.heap.size, 4, none⟩)), .val (.pointer (some ⟨w.heap.size, 6, none⟩)), .val (.agg #[.bool s.1, .slice s.2.1 s.2.2.1 s.2.2.2]), .val (.agg #[.bool pv.1, .slice pv.2.1 pv.2.2.1 pv.2.2.2]), .int 0 (d * ys[m]), .int 0 (c * xs[m] + d * ys[m]), .val (.pointer (some ⟨by_, m * 2, none⟩))].getD q_ .any,
         [],
         [(.agg #[.bool r.1, .slice r.2.1 r.2.2.1 r.2.2.2], .at_ LA c), (.agg #[.bool s.1, .slice s.2.1 s.2.2.1 s.2.2.2], .at_ LA d), (.agg #[.bool pu.1, .slice pu.2.1 pu.2.2.1 pu.2.2.2], .at_ LB xs[m]), (.agg #[.bool pv.1, .slice pv.2.1 pv.2.2.1 pv.2.2.2], .at_ LB ys[m])],
         [(w.heap.size, 138, [.bool p.1, .slice p.2.1 p.2.2.1 p.2.2.2, .bool q.1, .slice q.2.1 q.2.2.1 q.2.2.2, .bool r.1, .slice r.2.1 r.2.2.1 r.2.2.2, .bool s.1, .slice s.2.1 s.2.2.1 s.2.2.2]), (g7, 37, [.bool pu.1, .slice pu.2.1 pu.2.2.1 pu.2.2.2]), (g8, 37, [.bool pv.1, .slice pv.2.1 pv.2.2.1 pv.2.2.2])],
         [], [], []⟩ [35, 36, 37, 38, 39, 40, 41, 42, 43, 44, 45, 46, 47] (w5.heap.size) (by kernel_rfl) (by kernel_rfl) (by kernel_rfl) (by kernel_rfl) (by kernel_rfl) ?_ ?_ ?_ ?_ ?_ ?_
        . exact bG (D6.out) (bG (E6.out) (bG (U6.out) (bG (V6.out) aY)))
        . exact bG (⟨R6.out, (R6.out).lt, aY⟩) (bG (⟨RG.out, (RG.out).lt, aY⟩) (bG (⟨RH.out, (RH.out).lt, aY⟩) aY))
        . exact aY
        . exact aY
        . refine ak ?_ (ak ?_ (ak ?_ (ak ?_ (ak ?_ (ak ?_ (ak ?_ (ak ?_ (ak ?_ (ak ?_ (ak ?_ (ak ?_ (ak ?_ kt))))))))))));any_goals (first | (intro L fx w' hJ hL hp hcl; have _ := tJ hp (by decide +kernel); refine aP rfl fun K hK => ?_; go_simp; exact hJ.q hK (by kernel_rfl) rfl) | fail)
          . intro L fx w' hJ hL hp hcl;have e2 := hJ.pt 2 37 (.pointer (some ⟨w.heap.size, 4, none⟩)) rfl rfl rfl (hp 2 (by decide));rw [e2] at hJ |-; clear e2;refine aP rfl fun K hK => ?_;go_simp;exact hJ.q hK (by kernel_rfl) rfl
          . intro L fx w' hJ hL hp hcl;have e3 := hJ.pt 3 38 (.pointer (some ⟨w.heap.size, 4, none⟩)) rfl rfl rfl (hp 3 (by decide));rw [e3] at hJ |-; clear e3;refine aP rfl fun K hK => ?_;have rw0 := (hJ.rows _ gm).1;have cl0 : w'.cell? ⟨w.heap.size, 4, none⟩ = some (.bool r.1) := rw0.cell 4;have cl1 : w'.cell? ⟨w.heap.size, 5, none⟩ = some (.slice r.2.1 r.2.2.1 r.2.2.2) := rw0.cell 5;go_simp;exact hJ.q hK (by kernel_rfl) rfl
          . intro L fx w' hJ hL hp hcl;refine aP rfl fun K hK => ?_;have rw0 := (hJ.rows _ iV).1;have cl0 : w'.cell? ⟨g7, 0, none⟩ = some (.bool pu.1) := rw0.cell 0;have cl1 : w'.cell? ⟨g7, 1, none⟩ = some (.slice pu.2.1 pu.2.2.1 pu.2.2.2) := rw0.cell 1;go_simp;exact hJ.q hK (by kernel_rfl) rfl
          . intro L fx w' hJ hL hp hcl;have e6 := hJ.pt 6 41 (.pointer (some ⟨w.heap.size, 4, none⟩)) rfl rfl rfl (hp 6 (by decide));rw [e6] at hJ |-; clear e6;refine aP rfl fun K hK => ?_;go_simp;exact hJ.q hK (by kernel_rfl) rfl
          . intro L fx w' hJ hL hp hcl;have e7 := hJ.pt 7 42 (.pointer (some ⟨w.heap.size, 6, none⟩)) rfl rfl rfl (hp 7 (by decide));rw [e7] at hJ |-; clear e7;refine aP rfl fun K hK => ?_;have rw0 := (hJ.rows _ gm).1;have cl0 : w'.cell? ⟨w.heap.size, 6, none⟩ = some (.bool s.1) := rw0.cell 6;have cl1 : w'.cell? ⟨w.heap.size, 7, none⟩ = some (.slice s.2.1 s.2.2.1 s.2.2.2) := rw0.cell 7;go_simp;exact hJ.q hK (by kernel_rfl) rfl
          . intro L fx w' hJ hL hp hcl;refine aP rfl fun K hK => ?_;have rw0 := (hJ.rows _ qm).1;have cl0 : w'.cell? ⟨g8, 0, none⟩ = some (.bool pv.1) := rw0.cell 0;have cl1 : w'.cell? ⟨g8, 1, none⟩ = some (.slice pv.2.1 pv.2.2.1 pv.2.2.2) := rw0.cell 1;go_simp;exact hJ.q hK (by kernel_rfl) rfl
          . intro L fx w' hJ hL hp hcl;have e8 := hJ.pt 8 43 (.agg #[.bool s.1, .slice s.2.1 s.2.2.1 s.2.2.2]) rfl rfl rfl (hp 8 (by decide));rw [e8] at hJ |-; clear e8;have e9 := hJ.pt 9 44 (.agg #[.bool pv.1, .slice pv.2.1 pv.2.2.1 pv.2.2.2]) rfl rfl rfl (hp 9 (by decide));rw [e9] at hJ |-; clear e9;refine aP rfl fun K hK => ?_;go_simp;go_at_call 23;refine (gG _ _ d ys[m] LA LB _ (show aj w' (LA) (.agg #[.bool s.1, .slice s.2.1 s.2.2.1 s.2.2.2]) (d) from hJ.base _ iV) (show aj w' (LB) (.agg #[.bool pv.1, .slice pv.2.1 pv.2.2.1 pv.2.2.2]) (ys[m]) from hJ.base _ vT) hLab).mono ?_;rintro e w4 ⟨⟨v5, rfl, h5⟩, hb4⟩;try dsimp only
            exact hK _ _ ⟨_, by kernel_rfl, hJ.gC 10 rfl (by kernel_rfl) hb4 (ai.mono h5 (Nat.zero_le _)) (by omega)⟩
          . intro L fx w' hJ hL hp hcl;have e10 := hJ.slot 10 (by show 10 < 13; decide) (hp 10 (by decide));have e4 := hJ.pt 4 39 (.agg #[.bool r.1, .slice r.2.1 r.2.2.1 r.2.2.2]) rfl rfl rfl (hp 4 (by decide));rw [e4] at hJ |-; clear e4;have e5 := hJ.pt 5 40 (.agg #[.bool pu.1, .slice pu.2.1 pu.2.2.1 pu.2.2.2]) rfl rfl rfl (hp 5 (by decide));rw [e5] at hJ |-; clear e5;refine aP rfl fun K hK => ?_;go_simp;go_at_call 94;refine (ib _ _ _ c xs[m] (d * ys[m]) LA LB _ (show aj w' (LA) (.agg #[.bool r.1, .slice r.2.1 r.2.2.1 r.2.2.2]) (c) from hJ.base _ gm) (show aj w' (LB) (.agg #[.bool pu.1, .slice pu.2.1 pu.2.2.1 pu.2.2.2]) (xs[m]) from hJ.base _ qm) (ai.int (show ai w' _ (fx 45) _ from e10) (by rw [Int.natAbs_mul]; exact Nat.le_trans (cH _ _) (Nat.le_trans (Nat.add_le_add hwd hyw) hLab))) hLab).mono ?_;rintro e w4 ⟨⟨v5, rfl, h5⟩, hb4⟩;try dsimp only
            exact hK _ _ ⟨_, by kernel_rfl, hJ.gC 11 rfl (by kernel_rfl) hb4 (ai.mono h5 (Nat.zero_le _)) (by omega)⟩
          . intro L fx w' hJ hL hp hcl;have e0 := hJ.pt 0 35 (.slice (some ⟨by_, 0, none⟩) ys.length cy) rfl rfl rfl (hp 0 (by decide));rw [e0] at hJ |-; clear e0;have e1 := hJ.pt 1 36 (.int .i64 (m : Int)) rfl rfl rfl (hp 1 (by decide));rw [e1] at hJ |-; clear e1;refine aP rfl fun K hK => ?_;go_simp;exact hJ.q hK (by kernel_rfl) rfl
        . intro L x' w5b hL hJ;have hfr : Below w5.drew.heap.size w5.drew w5b := hJ.fr;have e11 : ai w5b 0 (x' 46) (c * xs[m] + d * ys[m]) := hJ.slot 11 (by show 11 < 13; decide) (hL 11 (by show 11 < 13; decide));have e12 : x' 47 = .pointer (some ⟨by_, m * 2, none⟩) := hJ.slot 12 (by show 12 < 13; decide) (hL 12 (by show 12 < 13; decide));obtain ⟨pz6, hpz⟩ := aI.parts e11.num;rw [hpz] at e11;unfold av at hpz;rw [aD (x := x') (d := 46) hpz];rw [aD (x := bg x' 46 (.agg #[.bool pz6.1, .slice pz6.2.1 pz6.2.2.1 pz6.2.2.2])) (d := 47) (v := .pointer (some ⟨by_, m * 2, none⟩)) e12];clear hJ hL;have X7 := H5 (aL.below (w := w5.drew) X6.out hfr);have Y7 := H5 (aL.below (w := w5.drew) Y6.out hfr);have R7 := H5 (aa.below (w := w5.drew) R6.out hfr R6.out.lt);have RG := H5 (aa.below (w := w5.drew) RG.out hfr RG.out.lt);have RH := H5 (aa.below (w := w5.drew) RH.out hfr RH.out.lt);have A7 := H5 (aj.below (w := w5.drew) A6.out hfr);have B7 := H5 (aj.below (w := w5.drew) B6.out hfr);have D7 := H5 (aj.below (w := w5.drew) D6.out hfr);have E7 := H5 (aj.below (w := w5.drew) E6.out hfr);have U7 := H5 (aj.below (w := w5.drew) U6.out hfr);have V7 := H5 (aj.below (w := w5.drew) V6.out hfr);have C7 := H5 (C6.out.drew.below hfr);have hsz7 := hfr.size;have hsz7' : w5.drew.heap.size = w5.heap.size := rfl;clear X6 Y6 R6 A6 B6 D6 E6 U6 V6 C6;obtain ⟨pq, q0, q1, _⟩ := Y7.out.get hmv;have q2 := Y7.out.free (m * 2);have q3 := Y7.out.free (m * 2 + 1);refine aP rfl fun K hK => ?_;go_simp;refine hK _ _ ⟨⟨bg (bg x' 46 (.agg #[.bool pz6.1, .slice pz6.2.1 pz6.2.2.1 pz6.2.2.2])) 47 (.pointer (some ⟨by_, m * 2, none⟩)), by kernel_rfl⟩, ?_⟩;clear hK q0 q1 q2 q3;have ZY := H5 (Y7.out.set m e11.num);have ZX := H5 (Y7.out.pU X7.out (fun e => hne e) m pz6);have ZR := H5 ((R7.out.other (p := ⟨by_, m * 2, none⟩) (by show w.heap.size ≠ by_; omega) (.bool pz6.1)).other (p := ⟨by_, m * 2 + 1, none⟩) (by show w.heap.size ≠ by_; omega) (.slice pz6.2.1 pz6.2.2.1 pz6.2.2.2));have Z7 := H5 ((RG.out.other (p := ⟨by_, m * 2, none⟩) (by show g7 ≠ by_; omega) (.bool pz6.1)).other (p := ⟨by_, m * 2 + 1, none⟩) (by show g7 ≠ by_; omega) (.slice pz6.2.1 pz6.2.2.1 pz6.2.2.2));have Z8 := H5 ((RH.out.other (p := ⟨by_, m * 2, none⟩) (by show g8 ≠ by_; omega) (.bool pz6.1)).other (p := ⟨by_, m * 2 + 1, none⟩) (by show g8 ≠ by_; omega) (.slice pz6.2.1 pz6.2.2.1 pz6.2.2.2));have ZA := H5 (Y7.out.dT A7.out m pz6);have ZB := H5 (Y7.out.dT B7.out m pz6);have ZD := H5 (Y7.out.dT D7.out m pz6);have ZE := H5 (Y7.out.dT E7.out m pz6);have ZU := H5 (Y7.out.dT U7.out m pz6);have ZV := H5 (Y7.out.dT V7.out m pz6);have ZC := H5 ((C7.out.set (p := ⟨by_, m * 2, none⟩) (Or.inr rfl) (.bool pz6.1)).set (p := ⟨by_, m * 2 + 1, none⟩) (Or.inr rfl) (.slice pz6.2.1 pz6.2.2.1 pz6.2.2.2));clear X7 Y7 R7 RG RH A7 B7 D7 E7 U7 V7 C7 e11 e12;go_wp2;go_roundw
          case rel =>
           exact ⟨m + 1, _, _, by omega, by go_num, HU.out.next hml hmy, HV.out.next hml hmy, ZX, ZY, ZR, H5 ⟨ZA.out, ZB.out, ZD.out, ZE.out⟩, ZC⟩
          case measure => simp [intOf]; omega
  . obtain rfl : m = xs.length := by omega
    have he := HU.out.all Hl.out rfl;have he2 := HV.out.all Hl.out Hl.out;have HE := H5 he;have HE2 := H5 he2;clear he he2;go_wp2;refine bodyPost_end (results_none (by kernel_rfl) _ _ _) rfl ?_;rw [<- HE.out, <- HE2.out];exact ⟨rfl, hX.out, hY.out, hC.out⟩
theorem qD : ∀ R : List Hd, aK (R.map Hd.cU)
 | [] => aK.nil
 | h :: R => aK.slice (qD R)
def eZ (w : World) (b : Nat) (t : TypeId) (cs : List Value) : Prop := ∃ tl, aK tl /\ aa w b t (cs ++ tl)
theorem aa.pre {w : World} {b : Nat} {t : TypeId} {cs : List Value} (h : aa w b t cs) : eZ w b t cs := ⟨[], aK.nil, by rw [List.append_nil]; exact h⟩
theorem eZ.lt {w : World} {b : Nat} {t : TypeId} {cs : List Value} (h : eZ w b t cs) : b < w.heap.size := by obtain ⟨_, _, h⟩ := h; exact h.lt
theorem eZ.free {w : World} {b : Nat} {t : TypeId} {cs : List Value} (h : eZ w b t cs) (i : Nat) : w.frozen? ⟨b, i, none⟩ = false := by obtain ⟨_, _, h⟩ := h; exact h.free i
theorem eZ.below {w w' : World} {b B : Nat} {t : TypeId} {cs : List Value} (h : eZ w b t cs) (hb : Below B w w') (hB : b < B) : eZ w' b t cs := by obtain ⟨tl, n, h⟩ := h; exact ⟨tl, n, h.below hb hB⟩
theorem eZ.other {w : World} {b : Nat} {t : TypeId} {cs : List Value} (h : eZ w b t cs) {p : Addr} (hp : b ≠ p.block) (v : Value) : eZ (w.setCell p v) b t cs := by obtain ⟨tl, n, h⟩ := h; exact ⟨tl, n, h.other hp v⟩
theorem eZ.set {w : World} {b : Nat} {t : TypeId} {cs : List Value} (h : eZ w b t cs) {i : Nat} (hi : i < cs.length) (v : Value) : eZ (w.setCell ⟨b, i, none⟩ v) b t (cs.set i v) := by
 obtain ⟨tl, n, h⟩ := h;have := h.set i v;rw [List.set_append_left _ _ hi] at this;exact ⟨tl, n, this⟩
theorem eZ.cell {w : World} {b : Nat} {t : TypeId} {cs : List Value} (h : eZ w b t cs) {i : Nat} (hi : i < cs.length) : w.cell? ⟨b, i, none⟩ = cs[i]? := by
 obtain ⟨tl, n, h⟩ := h; rw [h.cell, List.getElem?_append_left hi]
theorem eZ.qn {S : Nat -> Prop} {w w' : World} {b : Nat} {t : TypeId} {cs : List Value} (h : eZ w b t cs) (hc : aO S w w') (hb : ¬ S b) : eZ w' b t cs := by obtain ⟨tl, n, h⟩ := h; exact ⟨tl, n, hc.row h hb⟩
structure ea (w : World) (o : Nat) (R : List Hd) : Prop where
 out : eZ w o 22 (R.map Hd.cU)
 row : ∀ h ∈ R, aL w h.blk h.xs
 nd : (R.map Hd.blk).Nodup
theorem ea.below {w w' : World} {o : Nat} {R : List Hd} (h : ea w o R) (hb : Below w.heap.size w w') : ea w' o R :=
 ⟨h.out.below hb h.out.lt, fun r hr => (h.row r hr).below hb, h.nd⟩
theorem ea.ne {w : World} {o : Nat} {R : List Hd} (h : ea w o R) {r : Hd} (hr : r ∈ R) : r.blk ≠ o := by
 intro e;obtain ⟨ps, tl, nt, hp, _⟩ := h.row r hr;obtain ⟨tl, _, ho⟩ := h.out;unfold aa at hp ho;rw [e, ho] at hp;simp only [Option.some.injEq, Obj.cells.injEq] at hp;exact absurd hp.2.1 (by decide)
theorem ea.cU {w : World} {o : Nat} {R : List Hd} (h : ea w o R) {i : Nat} (hi : i < R.length) : w.cell? ⟨o, i, none⟩ = some (R[i]).cU := by
 rw [h.out.cell (by simpa using hi)]; simp [hi]
theorem ea.lt {w : World} {o : Nat} {R : List Hd} (h : ea w o R) : o < w.heap.size := h.out.lt
theorem ea.fo {w : World} {o : Nat} {R : List Hd} (h : ea w o R) {g : Nat} {t : TypeId} {cs : List Value} (hr : aa w g t cs) (hn : aK cs) (ho : o ≠ g) (hb : ∀ r ∈ R, r.blk ≠ g) (i : Nat) (u : Value) : ea (w.setCell ⟨g, i, none⟩ u) o R :=
 ⟨h.out.other ho u, fun r hr' => (h.row r hr').other (hb r hr') hr hn i u, h.nd⟩
structure vK where
 o : Nat
 g : Nat
 g3 : Nat
 cap : Nat
 cs : Nat
 own : Nat -> Prop
 fit : List Hd -> Prop
 rel : List Hd -> List Hd -> Prop
structure cC where
 lb : Nat
 o : Nat
 sb : Nat
 g : Nat
 cap : Nat
 R : List Hd
 two : Option vK
def cC.rws (S : cC) (k : Nat) : Prop := k = S.o \/ ∃ h ∈ S.R, h.blk = k
def cC.own (S : cC) (k : Nat) : Prop := S.rws k \/ ∃ t, S.two = some t /\ t.own k
def cC.aA (S : cC) (R : List Hd) : cC := ⟨S.lb, S.o, S.sb, S.g, S.cap, R, S.two⟩
def cC.ns (S : cC) : Nat := match S.two with | none => 1 | some _ => 2
def cC.cs (S : cC) : Nat := match S.two with | none => 1 | some t => t.cs
def vK.st (t : vK) (V : List Hd) : cC := ⟨0, t.o, 0, t.g, t.cap, V, none⟩
def cC.cU (S : cC) : Value := .slice (some ⟨S.o, 0, none⟩) S.R.length S.cap
def gA (g : Nat) : List Value := [.func (.func 111) #[] #[.pointer (some ⟨g, 0, none⟩)], .func (.func 112) #[] #[.pointer (some ⟨g, 0, none⟩)], .func (.func 113) #[] #[.pointer (some ⟨g, 0, none⟩)], .func (.func 115) #[] #[.pointer (some ⟨g, 0, none⟩)]]
def agF (g g3 : Nat) : List Value := [.func (.func 111) #[] #[.pointer (some ⟨g, 0, none⟩)], .func (.func 112) #[] #[.pointer (some ⟨g, 0, none⟩)], .func (.func 113) #[] #[.pointer (some ⟨g3, 0, none⟩)], .func (.func 115) #[] #[.pointer (some ⟨g3, 0, none⟩)]]
def cC.more (S : cC) : List Value := match S.two with | none => [] | some t => agF t.g t.g3
theorem iF (P : Program) (w : World) (p : Addr) (f : Fn) (a b : Array Value) (m : Mode) : (store p (.func f a b) m).run P w = stored P w p (.func f a b) m := run_store P w p _ m rfl
attribute [local go_sem] iF
theorem pI {fn : Func} {p : Tmp} (h : fn.results = #[.cell p 125]) (tmps : Array Value) (w : World) (g : Nat) (a b c d : Value) (hp : tmps.getD p undef = .pointer (some ⟨g, 0, none⟩)) (hr : aa w g 125 [a, b, c, d]) :
 (results fn tmps).run Tryz.prog w = .ok (.agg #[a, b, c, d]) w :=
 results_cell_row h tmps w g 125 #[a, b, c, d] (0, 0) _ hp hr Tryz.underlying125 rfl (by kernel_rfl)
theorem AM (ao : Option Addr) (n cap : Nat) (w : World) :
 Calls Tryz.prog 98 #[.slice ao n cap] w fun e w' => e = .returned (.agg (gA w.heap.size).toArray) /\ aa w' w.heap.size 70 [.slice ao n cap] /\ Below w.heap.size w w' := by
 go_enter Tryz.func98, Tryz.ntmps98;go_wp2;obtain ⟨r1, r2, hb⟩ := fD w #[.slice ao n cap] (gA w.heap.size).toArray 70 125;simp only [gA] at r1 r2 hb;refine bodyPost_ret (pI (p := 2) (by kernel_rfl) _ _ (w.heap.size + 1) _ _ _ _ rfl r2) rfl ?_;exact ⟨rfl, r1, hb⟩
structure ei (w : World) (S : cC) : Prop where
 box : aa w S.g 70 [S.cU]
 dM : ea w S.o S.R
theorem ei.below {w w' : World} {S : cC} (h : ei w S) (hb : Below w.heap.size w w') : ei w' S := ⟨h.box.below hb h.box.lt, h.dM.below hb⟩
structure TwoAt (w : World) (S : cC) (t : vK) (V : List Hd) : Prop where
 sd : ei w (t.st V)
 box3 : aa w t.g3 70 [(t.st V).cU]
 rel : t.rel S.R V
 own : ∀ k, t.own k ↔ (t.st V).rws k
 apart : ∀ k, t.own k -> ¬ S.rws k
structure aE (w : World) (S : cC) : Prop where
 lad : aa w S.lb 109 [S.cU, .slice (some ⟨S.sb, 0, none⟩) S.ns S.cs]
 sides : eZ w S.sb 125 (gA S.g ++ S.more)
 box : aa w S.g 70 [S.cU]
 dM : ea w S.o S.R
 ext : ∀ t, S.two = some t -> ∃ V, TwoAt w S t V
theorem aE.sd {w : World} {S : cC} (h : aE w S) : ei w S := ⟨h.box, h.dM⟩
theorem New_c (o cap : Nat) (R : List Hd) (w : World) (hM : ea w o R) :
 Calls Tryz.prog 77 #[.slice (some ⟨o, 0, none⟩) R.length cap] w fun e w' => (∃ lb sb g, e = .returned (.pointer (some ⟨lb, 0, none⟩)) /\ aE w' ⟨lb, o, sb, g, cap, R, none⟩ /\ w.heap.size <= lb /\ w.heap.size <= sb /\ w.heap.size <= g) /\ Below w.heap.size w w' := by
 have HM := H5 hM;have HM0 := H5 hM; clear hM;go_enter Tryz.func77, Tryz.ntmps77;go_wp2_with fail
 have hb1 : Below w.heap.size w (w.alloc (.cells #[.slice (some ⟨o, 0, none⟩) R.length cap, .slice none 0 0] 109)) := (Below.refl _ _).alloc (Nat.le_refl _) _;have hr1 := aa.new w #[.slice (some ⟨o, 0, none⟩) R.length cap, .slice none 0 0] 109;generalize w.alloc (.cells #[.slice (some ⟨o, 0, none⟩) R.length cap, .slice none 0 0] 109) = w1 at *;refine (AM _ _ _ _).mono ?_;rintro e w2 ⟨rfl, hbox, hb2⟩;simp only [gA];have hr2 := hr1.below hb2 hr1.lt;have hM2 := (HM.out.below hb1).below hb2;have hbw : Below w.heap.size w w2 := hb1.trans (hb2.mono hb1.size);have hs1 : w.heap.size < w1.heap.size := hr1.lt;have hs2 : w1.heap.size < w2.heap.size := hbox.lt;have hb3 : Below w2.heap.size w2 (w2.alloc (.cells (gA w1.heap.size).toArray 125)) := (Below.refl _ _).alloc (Nat.le_refl _) _;have hr3 := aa.new w2 (gA w1.heap.size).toArray 125;have hr4 := hr2.below hb3 hr2.lt;have hbox3 := hbox.below hb3 hbox.lt;have hM3 := hM2.below hb3;have hbw3 := hbw.trans (hb3.mono hbw.size);have f1 := hr4.free 1;have c1 := hr4.cell 1;simp only [gA] at hr3 f1 c1;have HR3 := H5 hr3;have HR4 := H5 hr4;have HM3 := H5 hM3;have HB3 := H5 hbw3;have HX3 := H5 hbox3;clear hr1 hr2 hr3 hr4 hM2 hM3 hbw hbw3 hb1 hb2 hb3 hbox hbox3 HM;go_wp2;go_ret;have ho := HM0.out.lt;refine ⟨⟨w.heap.size, rfl, w2.heap.size, w1.heap.size, ⟨?_, ?_, ?_, ?_, fun t h => by cases h⟩, Nat.le_refl _, by omega, by omega⟩, ?_⟩
 . exact HR4.out.set 1 (.slice (some ⟨w2.heap.size, 0, none⟩) 1 1)
 . exact (aa.other (p := ⟨w.heap.size, 1, none⟩) HR3.out (by show w2.heap.size ≠ w.heap.size; omega) _).pre
 . exact aa.other (p := ⟨w.heap.size, 1, none⟩) HX3.out (by show w1.heap.size ≠ w.heap.size; omega) _
 . exact HM3.out.fo HR4.out (aK.slice (aK.slice aK.nil)) (by show o ≠ w.heap.size; omega) (fun r hr => by have := (HM0.out.row r hr).lt; omega) 1 _
 . exact HB3.out.setCell (p := ⟨w.heap.size, 1, none⟩) (Nat.le_refl _) _
theorem aa.neP {w : World} {a b : Nat} {t t' : TypeId} {cs cs' : List Value} (h : aa w a t cs) (h' : eZ w b t' cs') (ht : t ≠ t') : a ≠ b := by obtain ⟨_, _, h'⟩ := h'; exact h.ne h' ht
def di (R : List Hd) (i : Nat) (xs : List Int) : List Hd := R.modify i (fun h => ⟨h.blk, h.cap, xs⟩)
theorem aB (R : List Hd) (i : Nat) (xs : List Int) : (di R i xs).length = R.length := by simp [di]
theorem dr {R : List Hd} {i : Nat} {xs : List Int} {j : Nat} (hj : j < R.length) : (di R i xs)[j]'(by rw [aB]; exact hj) = if i = j then ⟨R[j].blk, R[j].cap, xs⟩ else R[j] := by
 unfold di; rw [List.getElem_modify]
theorem fa (R : List Hd) (i : Nat) (xs : List Int) : (di R i xs).map Hd.blk = R.map Hd.blk := by
 refine List.ext_getElem (by simp [aB]) fun j h1 h2 => ?_;simp only [List.getElem_map];rw [dr (by simpa using h2)];split <;> rfl
theorem lq {R : List Hd} {i : Nat} {xs : List Int} (hi : i < R.length) (hl : xs.length = R[i].xs.length) : (di R i xs).map Hd.cU = R.map Hd.cU := by
 refine List.ext_getElem (by simp [aB]) fun j h1 h2 => ?_;simp only [List.getElem_map];rw [dr (by simpa using h2)];split
 . rename_i e; subst e; unfold Hd.cU; rw [hl]
 . rfl
theorem kT {R : List Hd} (hn : (R.map Hd.blk).Nodup) {i j : Nat} (hi : i < R.length) (hj : j < R.length) (h : i ≠ j) : R[i].blk ≠ R[j].blk := by
 intro e;have h1 : (R.map Hd.blk)[i]'(by simpa using hi) = (R.map Hd.blk)[j]'(by simpa using hj) := by simpa using e
 have hp := List.pairwise_iff_getElem.1 hn;rcases Nat.lt_or_gt_of_ne h with hlt | hlt
 . exact hp i j (by simpa using hi) (by simpa using hj) hlt h1
 . exact hp j i (by simpa using hj) (by simpa using hi) hlt h1.symm
theorem ea.di {w w' : World} {o : Nat} {R : List Hd} (h : ea w o R) {i : Nat} (hi : i < R.length) {xs : List Int} (hl : xs.length = R[i].xs.length) (hc : aO (· = R[i].blk) w w') (hr : aL w' R[i].blk xs) : ea w' o (di R i xs) := by
 have hw : dN (· = R[i].blk) w := (h.row _ (List.getElem_mem hi)).bN;refine ⟨by rw [lq hi hl]; exact h.out.qn hc (fun e => h.ne (List.getElem_mem hi) e.symm), fun r hr' => ?_, by rw [fa]; exact h.nd⟩;obtain ⟨j, hj, rfl⟩ := List.getElem_of_mem hr';rw [aB] at hj;rw [dr hj];split
 . rename_i e; subst e; exact hr
 . rename_i e; exact hc.zz hw (h.row _ (List.getElem_mem hj)) (kT h.nd hj hi (fun e' => e e'.symm))
theorem nV {k : Int} {xs ys : List Int} (h : xs.length = ys.length) : (fy k xs ys).length = xs.length := by simp [fy, h]
theorem jN {a b : Int} {xs ys : List Int} (h : xs.length = ys.length) : (fX a b xs ys).length = xs.length := by simp [fX, h]
theorem ei.gS {w w' : World} {S : cC} (h : ei w S) (hc : aO S.rws w w') {b : Nat} {t : TypeId} {cs : List Value} (hb : aa w b t cs) (h1 : t ≠ 37) (h2 : t ≠ 22) : aa w' b t cs := by
 refine hc.row hb ?_;rintro (rfl | ⟨r, hr, rfl⟩)
 . exact hb.neP h.dM.out h2 rfl
 . obtain ⟨ps, tl, nt, hp, _⟩ := h.dM.row r hr;exact hb.ne hp h1 rfl
theorem ei.rows {w w' : World} {S : cC} (h : ei w S) {R : List Hd} (hc : aO S.rws w w') (hM : ea w' S.o R) (hl : R.length = S.R.length) : ei w' (S.aA R) := by
 have e : cC.cU (S.aA R) = S.cU := by unfold cC.cU cC.aA; rw [hl]
 exact ⟨by rw [e]; exact h.gS hc h.box (by decide) (by decide), hM⟩
def iU (R : List Hd) (i j : Nat) (k : Int) (hi : i < R.length) (hj : j < R.length) : List Hd := di R i (fy k R[i].xs R[j].xs)
theorem uV (S : cC) (i j : Nat) (kv : Value) (k : Int) (LA LB : Nat) (w : World) (h : ei w S) (hi : i < S.R.length) (hj : j < S.R.length) (hij : i ≠ j) (hK : aj w LA kv k) (hl : S.R[i].xs.length = S.R[j].xs.length)
 (hxL : ∀ x ∈ S.R[i].xs, ag x.natAbs <= 17592186044415) (hyL : ∀ y ∈ S.R[j].xs, ag y.natAbs <= LB) (hLab : LA + LB <= 17592186044415) (hlen : S.R[i].xs.length <= 4611686018427387903) :
 Calls Tryz.prog 113 #[.int .i64 (i : Int), .int .i64 (j : Int), kv, .pointer (some ⟨S.g, 0, none⟩)] w fun e w' => e = .returned (.tuple #[]) /\ ei w' (S.aA (iU S.R i j k hi hj)) /\ aO S.rws w w' := by
 obtain ⟨kp, rfl⟩ := hK.parts;have HL := H5 h; clear h;have HK := H5 hK; clear hK;have HXL := H5 hxL; clear hxL;have HYL := H5 hyL; clear hyL;have Hl := H5 hl; clear hl;go_enter Tryz.func113, Tryz.ntmps113;unfold av at *;go_wp2;have hb1 : Below w.heap.size w (w.alloc (.cells #[.bool kp.1, .slice kp.2.1 kp.2.2.1 kp.2.2.2] 37)) := (Below.refl _ _).alloc (Nat.le_refl _) _;have hr1 := aa.new w #[.bool kp.1, .slice kp.2.1 kp.2.2.1 kp.2.2.2] 37;generalize w.alloc (.cells #[.bool kp.1, .slice kp.2.1 kp.2.2.1 kp.2.2.2] 37) = w1 at *;have hbox := HL.out.box.below hb1 HL.out.box.lt;have hM1 := HL.out.dM.below hb1;have hK1 := HK.out.below hb1;have HX1 := H5 (hM1.row _ (List.getElem_mem hi));have HY1 := H5 (hM1.row _ (List.getElem_mem hj));have hne := kT hM1.nd hi hj hij;have cg : w1.cell? ⟨S.g, 0, none⟩ = some (.slice (some ⟨S.o, 0, none⟩) S.R.length S.cap) := hbox.cell 0;have ci : w1.cell? ⟨S.o, i, none⟩ = some (.slice (some ⟨S.R[i].blk, 0, none⟩) S.R[i].xs.length S.R[i].cap) := hM1.cU hi;have cj : w1.cell? ⟨S.o, j, none⟩ = some (.slice (some ⟨S.R[j].blk, 0, none⟩) S.R[j].xs.length S.R[j].cap) := hM1.cU hj;have ck0 : w1.cell? ⟨w.heap.size, 0, none⟩ = some (.bool kp.1) := hr1.cell 0;have ck1 : w1.cell? ⟨w.heap.size, 1, none⟩ = some (.slice kp.2.1 kp.2.2.1 kp.2.2.2) := hr1.cell 1;have hs0 : S.g < w1.heap.size := hbox.lt;have hs1 : S.o < w1.heap.size := hM1.out.lt;have hs2 : w.heap.size < w1.heap.size := hr1.lt;have hi' : (i : Int) < (S.R.length : Int) := by omega
 have hj' : (j : Int) < (S.R.length : Int) := by omega
 have HM1 := H5 hM1; clear hM1;have HK1 := H5 hK1; clear hK1;have HB1 := H5 hb1; clear hb1;clear hr1 hbox;refine dF ⟨9, fun q_ => [7, 8, 9, 10, 11, 12, 13, 14, 15].getD q_ 0,
  fun q_ => [.val (.slice (some ⟨S.o, 0, none⟩) S.R.length S.cap), .val (.int .i64 (i : Int)), .val (.pointer (some ⟨S.o, i, none⟩)), .val (.slice (some ⟨S.R[i].blk, 0, none⟩) S.R[i].xs.length S.R[i].cap), .val (.slice (some ⟨S.o, 0, none⟩) S.R.length S.cap), .val (.int .i64 (j : Int)), .val (.pointer (some ⟨S.o, j, none⟩)), .val (.slice (some ⟨S.R[j].blk, 0, none⟩) S.R[j].xs.length S.R[j].cap), .val (.agg #[.bool kp.1, .slice kp.2.1 kp.2.2.1 kp.2.2.2])].getD q_ .any,
  [],
  [],
  [],
  [], [(⟨S.g, 0, none⟩, .slice (some ⟨S.o, 0, none⟩) S.R.length S.cap), (⟨S.o, i, none⟩, .slice (some ⟨S.R[i].blk, 0, none⟩) S.R[i].xs.length S.R[i].cap), (⟨S.o, j, none⟩, .slice (some ⟨S.R[j].blk, 0, none⟩) S.R[j].xs.length S.R[j].cap), (⟨w.heap.size, 0, none⟩, .bool kp.1), (⟨w.heap.size, 1, none⟩, .slice kp.2.1 kp.2.2.1 kp.2.2.2)], []⟩ [7, 8, 9, 10, 11, 12, 13, 14, 15, 16] (w1.heap.size) (by kernel_rfl) (by kernel_rfl) (by kernel_rfl) (by kernel_rfl) (by kernel_rfl) ?_ ?_ ?_ ?_ ?_ ?_
 . intro p hp;cases hp
 . intro p hp;cases hp
 . intro p hp;rcases mc hp with rfl | hp
   . refine ⟨cg, by show S.g < w1.heap.size; omega, ?_⟩;intro t ht;cases ht
   rcases mc hp with rfl | hp
   . refine ⟨ci, by show S.o < w1.heap.size; omega, ?_⟩;intro t ht;cases ht
   rcases mc hp with rfl | hp
   . refine ⟨cj, by show S.o < w1.heap.size; omega, ?_⟩;intro t ht;cases ht
   rcases mc hp with rfl | hp
   . refine ⟨ck0, by show w.heap.size < w1.heap.size; omega, ?_⟩;intro t ht;cases ht
   rcases mc hp with rfl | hp
   . refine ⟨ck1, by show w.heap.size < w1.heap.size; omega, ?_⟩;intro t ht;cases ht
   cases hp
 . intro t ht;cases ht
 . refine ak ?_ (ak ?_ (ak ?_ (ak ?_ (ak ?_ (ak ?_ (ak ?_ (ak ?_ (ak ?_ kt))))))));any_goals (first | (intro L fx w' hJ hL hp hcl; have _ := tJ hp (by decide +kernel); refine aP rfl fun K hK => ?_; go_simp; exact hJ.q hK (by kernel_rfl) rfl) | fail)
   . intro L fx w' hJ hL hp hcl;refine aP rfl fun K hK => ?_;have cl0 := (hJ.cells _ gm).1;try dsimp only at cl0
     go_simp;exact hJ.q hK (by kernel_rfl) rfl
   . intro L fx w' hJ hL hp hcl;have e0 := hJ.pt 0 7 (.slice (some ⟨S.o, 0, none⟩) S.R.length S.cap) rfl rfl rfl (hp 0 (by decide));rw [e0] at hJ |-; clear e0;have e1 := hJ.pt 1 8 (.int .i64 (i : Int)) rfl rfl rfl (hp 1 (by decide));rw [e1] at hJ |-; clear e1;refine aP rfl fun K hK => ?_;go_simp;exact hJ.q hK (by kernel_rfl) rfl
   . intro L fx w' hJ hL hp hcl;have e2 := hJ.pt 2 9 (.pointer (some ⟨S.o, i, none⟩)) rfl rfl rfl (hp 2 (by decide));rw [e2] at hJ |-; clear e2;refine aP rfl fun K hK => ?_;have cl0 := (hJ.cells _ iV).1;try dsimp only at cl0
     go_simp;exact hJ.q hK (by kernel_rfl) rfl
   . intro L fx w' hJ hL hp hcl;refine aP rfl fun K hK => ?_;have cl0 := (hJ.cells _ gm).1;try dsimp only at cl0
     go_simp;exact hJ.q hK (by kernel_rfl) rfl
   . intro L fx w' hJ hL hp hcl;have e4 := hJ.pt 4 11 (.slice (some ⟨S.o, 0, none⟩) S.R.length S.cap) rfl rfl rfl (hp 4 (by decide));rw [e4] at hJ |-; clear e4;have e5 := hJ.pt 5 12 (.int .i64 (j : Int)) rfl rfl rfl (hp 5 (by decide));rw [e5] at hJ |-; clear e5;refine aP rfl fun K hK => ?_;go_simp;exact hJ.q hK (by kernel_rfl) rfl
   . intro L fx w' hJ hL hp hcl;have e6 := hJ.pt 6 13 (.pointer (some ⟨S.o, j, none⟩)) rfl rfl rfl (hp 6 (by decide));rw [e6] at hJ |-; clear e6;refine aP rfl fun K hK => ?_;have cl0 := (hJ.cells _ qm).1;try dsimp only at cl0
     go_simp;exact hJ.q hK (by kernel_rfl) rfl
   . intro L fx w' hJ hL hp hcl;refine aP rfl fun K hK => ?_;have cl0 := (hJ.cells _ vT).1;have cl1 := (hJ.cells _ mm4).1;try dsimp only at cl0 cl1
     go_simp;exact hJ.q hK (by kernel_rfl) rfl
 . intro L x' w3 hL hJ;have hfr : Below w1.drew.heap.size w1.drew w3 := hJ.fr;have e3 : x' 10 = .slice (some ⟨S.R[i].blk, 0, none⟩) S.R[i].xs.length S.R[i].cap := hJ.slot 3 (by show 3 < 9; decide) (hL 3 (by show 3 < 9; decide));have e7 : x' 14 = .slice (some ⟨S.R[j].blk, 0, none⟩) S.R[j].xs.length S.R[j].cap := hJ.slot 7 (by show 7 < 9; decide) (hL 7 (by show 7 < 9; decide));have e8 : x' 15 = .agg #[.bool kp.1, .slice kp.2.1 kp.2.2.1 kp.2.2.2] := hJ.slot 8 (by show 8 < 9; decide) (hL 8 (by show 8 < 9; decide));rw [aD (x := x') (d := 10) (v := .slice (some ⟨S.R[i].blk, 0, none⟩) S.R[i].xs.length S.R[i].cap) e3];rw [aD (x := (bg x' 10 (.slice (some ⟨S.R[i].blk, 0, none⟩) S.R[i].xs.length S.R[i].cap))) (d := 14) (v := .slice (some ⟨S.R[j].blk, 0, none⟩) S.R[j].xs.length S.R[j].cap) e7];rw [aD (x := (bg (bg x' 10 (.slice (some ⟨S.R[i].blk, 0, none⟩) S.R[i].xs.length S.R[i].cap)) 14 (.slice (some ⟨S.R[j].blk, 0, none⟩) S.R[j].xs.length S.R[j].cap))) (d := 15) (v := .agg #[.bool kp.1, .slice kp.2.1 kp.2.2.1 kp.2.2.2]) e8];clear hJ hL e3 e7 e8 cg ci cj ck0 ck1;refine aP rfl fun K hK => ?_;go_simp;go_at_call 114;refine (Bq _ _ _ _ LA LB _ _ _ k _ (aL.below (w := w1.drew) HX1.out hfr) (aL.below (w := w1.drew) HY1.out hfr) (aj.below (w := w1.drew) HK1.out hfr) hne Hl.out HXL.out HYL.out hLab hlen).mono ?_;rintro e w4 ⟨rfl, hR4, hC4⟩;try dsimp only
   refine hK _ _ ⟨⟨bg (bg (bg (bg x' 10 (.slice (some ⟨S.R[i].blk, 0, none⟩) S.R[i].xs.length S.R[i].cap)) 14 (.slice (some ⟨S.R[j].blk, 0, none⟩) S.R[j].xs.length S.R[j].cap)) 15 (.agg #[.bool kp.1, .slice kp.2.1 kp.2.2.1 kp.2.2.2])) 16 (.tuple #[]), by kernel_rfl⟩, ?_⟩;clear hK;go_wp2;refine bodyPost_end (results_none (by kernel_rfl) _ _ _) rfl ?_;have hC0 : aO S.rws w w3 := (aO.bb HB1.out).drew.below hfr;have hs3 := hfr.size;have hs4 : w1.drew.heap.size = w1.heap.size := rfl;have hCs : aO (· = S.R[i].blk) w w4 := ((aO.bb HB1.out).drew.below hfr).trans (hC4.mono (fun k _ e => e));have hCo : aO S.rws w w4 := hCs.mono (fun k _ e => .inr ⟨S.R[i], List.getElem_mem hi, e.symm⟩);have hM4 := HL.out.dM.di hi (nV Hl.out) hCs hR4;exact ⟨rfl, HL.out.rows hCo hM4 (by unfold iU; rw [aB]), hCo⟩
theorem qE {w w' : World} {o : Nat} {R : List Hd} (h : ea w o R) {i j : Nat} (hi : i < R.length) (hj : j < R.length) (hij : i ≠ j) {xs ys : List Int} (hl : xs.length = R[i].xs.length) (hl2 : ys.length = R[j].xs.length) (hc : aO (fun k => k = R[i].blk \/ k = R[j].blk) w w') (hr : aL w' R[i].blk xs) (hr2 : aL w' R[j].blk ys) : ea w' o (di (di R i xs) j ys) := by
 have hw : dN (fun k => k = R[i].blk \/ k = R[j].blk) w := by
  rintro g (rfl | rfl)
  . exact (h.row _ (List.getElem_mem hi)).bN _ rfl
  . exact (h.row _ (List.getElem_mem hj)).bN _ rfl
 have hj' : j < (di R i xs).length := by rw [aB]; exact hj
 have ej : (di R i xs)[j].xs = R[j].xs := by rw [dr hj, if_neg hij]
 refine ⟨?_, fun r hr' => ?_, by rw [fa, fa]; exact h.nd⟩
 . rw [lq hj' (by rw [ej]; exact hl2), lq hi hl];exact h.out.qn hc (fun e => e.elim (fun e => h.ne (List.getElem_mem hi) e.symm) (fun e => h.ne (List.getElem_mem hj) e.symm))
 . obtain ⟨m, hm, rfl⟩ := List.getElem_of_mem hr';rw [aB] at hm;have hm2 : m < R.length := by rw [aB] at hm; exact hm
   rw [dr hm];split
   . rename_i e;subst e;have : (di R i xs)[j].blk = R[j].blk := by rw [dr hj, if_neg hij]
     simp only [this]; exact hr2
   . rename_i hjm;rw [dr hm2];split
     . rename_i e; subst e; exact hr
     . rename_i him;exact hc.zz hw (h.row _ (List.getElem_mem hm2)) (fun e => e.elim (kT h.nd hm2 hi (fun e' => him e'.symm)) (kT h.nd hm2 hj (fun e' => hjm e'.symm)))
def jV (R : List Hd) (i j : Nat) (a b c d : Int) (hi : i < R.length) (hj : j < R.length) : List Hd := di (di R i (fX a b R[i].xs R[j].xs)) j (fX c d R[i].xs R[j].xs)
theorem vI (S : cC) (i j : Nat) (mp mq mr ms : P4) (a b c d : Int) (LA LB : Nat) (w : World) (h : ei w S) (hi : i < S.R.length) (hj : j < S.R.length) (hij : i ≠ j) (hA : aj w LA (av mp) a) (hB : aj w LA (av mq) b) (hC : aj w LA (av mr) c) (hD : aj w LA (av ms) d) (hl : S.R[i].xs.length = S.R[j].xs.length)
 (hxL : ∀ x ∈ S.R[i].xs, ag x.natAbs <= LB) (hyL : ∀ y ∈ S.R[j].xs, ag y.natAbs <= LB) (hLab : LA + LB <= 17592186044415) (hlen : S.R[i].xs.length <= 4611686018427387903) :
 Calls Tryz.prog 115 #[.int .i64 (i : Int), .int .i64 (j : Int), .agg #[.bool mp.1, .slice mp.2.1 mp.2.2.1 mp.2.2.2, .bool mq.1, .slice mq.2.1 mq.2.2.1 mq.2.2.2, .bool mr.1, .slice mr.2.1 mr.2.2.1 mr.2.2.2, .bool ms.1, .slice ms.2.1 ms.2.2.1 ms.2.2.2], .pointer (some ⟨S.g, 0, none⟩)] w fun e w' => e = .returned (.tuple #[]) /\ ei w' (S.aA (jV S.R i j a b c d hi hj)) /\ aO S.rws w w' := by
 have HL := H5 h; clear h;have HA := H5 hA; clear hA;have HB := H5 hB; clear hB;have HC := H5 hC; clear hC;have HD := H5 hD; clear hD;have HXL := H5 hxL; clear hxL;have HYL := H5 hyL; clear hyL;have Hl := H5 hl; clear hl;go_enter Tryz.func115, Tryz.ntmps115;unfold av at *;go_wp2;have hb1 : Below w.heap.size w (w.alloc (.cells #[.bool mp.1, .slice mp.2.1 mp.2.2.1 mp.2.2.2, .bool mq.1, .slice mq.2.1 mq.2.2.1 mq.2.2.2, .bool mr.1, .slice mr.2.1 mr.2.2.1 mr.2.2.2, .bool ms.1, .slice ms.2.1 ms.2.2.1 ms.2.2.2] 138)) := (Below.refl _ _).alloc (Nat.le_refl _) _;have hr1 := aa.new w #[.bool mp.1, .slice mp.2.1 mp.2.2.1 mp.2.2.2, .bool mq.1, .slice mq.2.1 mq.2.2.1 mq.2.2.2, .bool mr.1, .slice mr.2.1 mr.2.2.1 mr.2.2.2, .bool ms.1, .slice ms.2.1 ms.2.2.1 ms.2.2.2] 138;generalize w.alloc (.cells #[.bool mp.1, .slice mp.2.1 mp.2.2.1 mp.2.2.2, .bool mq.1, .slice mq.2.1 mq.2.2.1 mq.2.2.2, .bool mr.1, .slice mr.2.1 mr.2.2.1 mr.2.2.2, .bool ms.1, .slice ms.2.1 ms.2.2.1 ms.2.2.2] 138) = w1 at *;have hbox := HL.out.box.below hb1 HL.out.box.lt;have hM1 := HL.out.dM.below hb1;have HA1 := H5 (HA.out.below hb1);have HB1' := H5 (HB.out.below hb1);have HC1 := H5 (HC.out.below hb1);have HD1 := H5 (HD.out.below hb1);have HX1 := H5 (hM1.row _ (List.getElem_mem hi));have HY1 := H5 (hM1.row _ (List.getElem_mem hj));have hne := kT hM1.nd hi hj hij;have cg : w1.cell? ⟨S.g, 0, none⟩ = some (.slice (some ⟨S.o, 0, none⟩) S.R.length S.cap) := hbox.cell 0;have ci : w1.cell? ⟨S.o, i, none⟩ = some (.slice (some ⟨S.R[i].blk, 0, none⟩) S.R[i].xs.length S.R[i].cap) := hM1.cU hi;have cj : w1.cell? ⟨S.o, j, none⟩ = some (.slice (some ⟨S.R[j].blk, 0, none⟩) S.R[j].xs.length S.R[j].cap) := hM1.cU hj;have HR1 := H5 hr1;have hs0 : S.g < w1.heap.size := hbox.lt;have hs1 : S.o < w1.heap.size := hM1.out.lt;have hs2 : w.heap.size < w1.heap.size := hr1.lt;have hi' : (i : Int) < (S.R.length : Int) := by omega
 have hj' : (j : Int) < (S.R.length : Int) := by omega
 have HM1 := H5 hM1; clear hM1;have HB1 := H5 hb1; clear hb1;clear hr1 hbox;refine dF ⟨9, fun q_ => [7, 8, 9, 10, 11, 12, 13, 14, 15].getD q_ 0,
  fun q_ => [.val (.slice (some ⟨S.o, 0, none⟩) S.R.length S.cap), .val (.int .i64 (i : Int)), .val (.pointer (some ⟨S.o, i, none⟩)), .val (.slice (some ⟨S.R[i].blk, 0, none⟩) S.R[i].xs.length S.R[i].cap), .val (.slice (some ⟨S.o, 0, none⟩) S.R.length S.cap), .val (.int .i64 (j : Int)), .val (.pointer (some ⟨S.o, j, none⟩)), .val (.slice (some ⟨S.R[j].blk, 0, none⟩) S.R[j].xs.length S.R[j].cap), .val (.agg #[.bool mp.1, .slice mp.2.1 mp.2.2.1 mp.2.2.2, .bool mq.1, .slice mq.2.1 mq.2.2.1 mq.2.2.2, .bool mr.1, .slice mr.2.1 mr.2.2.1 mr.2.2.2, .bool ms.1, .slice ms.2.1 ms.2.2.1 ms.2.2.2])].getD q_ .any,
  [],
  [],
  [(w.heap.size, 138, [.bool mp.1, .slice mp.2.1 mp.2.2.1 mp.2.2.2, .bool mq.1, .slice mq.2.1 mq.2.2.1 mq.2.2.2, .bool mr.1, .slice mr.2.1 mr.2.2.1 mr.2.2.2, .bool ms.1, .slice ms.2.1 ms.2.2.1 ms.2.2.2])],
  [], [(⟨S.g, 0, none⟩, .slice (some ⟨S.o, 0, none⟩) S.R.length S.cap), (⟨S.o, i, none⟩, .slice (some ⟨S.R[i].blk, 0, none⟩) S.R[i].xs.length S.R[i].cap), (⟨S.o, j, none⟩, .slice (some ⟨S.R[j].blk, 0, none⟩) S.R[j].xs.length S.R[j].cap)], []⟩ [7, 8, 9, 10, 11, 12, 13, 14, 15, 16] (w1.heap.size) (by kernel_rfl) (by kernel_rfl) (by kernel_rfl) (by kernel_rfl) (by kernel_rfl) ?_ ?_ ?_ ?_ ?_ ?_
 . intro p hp;cases hp
 . intro p hp;rcases mc hp with rfl | hp
   . refine ⟨HR1.out, by show w.heap.size < w1.heap.size; omega, ?_⟩;intro t ht;cases ht
   cases hp
 . intro p hp;rcases mc hp with rfl | hp
   . refine ⟨cg, by show S.g < w1.heap.size; omega, ?_⟩;intro t ht;cases ht
   rcases mc hp with rfl | hp
   . refine ⟨ci, by show S.o < w1.heap.size; omega, ?_⟩;intro t ht;cases ht
   rcases mc hp with rfl | hp
   . refine ⟨cj, by show S.o < w1.heap.size; omega, ?_⟩;intro t ht;cases ht
   cases hp
 . intro t ht;cases ht
 . refine ak ?_ (ak ?_ (ak ?_ (ak ?_ (ak ?_ (ak ?_ (ak ?_ (ak ?_ (ak ?_ kt))))))));any_goals (first | (intro L fx w' hJ hL hp hcl; have _ := tJ hp (by decide +kernel); refine aP rfl fun K hK => ?_; go_simp; exact hJ.q hK (by kernel_rfl) rfl) | fail)
   . intro L fx w' hJ hL hp hcl;refine aP rfl fun K hK => ?_;have cl0 := (hJ.cells _ gm).1;try dsimp only at cl0
     go_simp;exact hJ.q hK (by kernel_rfl) rfl
   . intro L fx w' hJ hL hp hcl;have e0 := hJ.pt 0 7 (.slice (some ⟨S.o, 0, none⟩) S.R.length S.cap) rfl rfl rfl (hp 0 (by decide));rw [e0] at hJ |-; clear e0;have e1 := hJ.pt 1 8 (.int .i64 (i : Int)) rfl rfl rfl (hp 1 (by decide));rw [e1] at hJ |-; clear e1;refine aP rfl fun K hK => ?_;go_simp;exact hJ.q hK (by kernel_rfl) rfl
   . intro L fx w' hJ hL hp hcl;have e2 := hJ.pt 2 9 (.pointer (some ⟨S.o, i, none⟩)) rfl rfl rfl (hp 2 (by decide));rw [e2] at hJ |-; clear e2;refine aP rfl fun K hK => ?_;have cl0 := (hJ.cells _ iV).1;try dsimp only at cl0
     go_simp;exact hJ.q hK (by kernel_rfl) rfl
   . intro L fx w' hJ hL hp hcl;refine aP rfl fun K hK => ?_;have cl0 := (hJ.cells _ gm).1;try dsimp only at cl0
     go_simp;exact hJ.q hK (by kernel_rfl) rfl
   . intro L fx w' hJ hL hp hcl;have e4 := hJ.pt 4 11 (.slice (some ⟨S.o, 0, none⟩) S.R.length S.cap) rfl rfl rfl (hp 4 (by decide));rw [e4] at hJ |-; clear e4;have e5 := hJ.pt 5 12 (.int .i64 (j : Int)) rfl rfl rfl (hp 5 (by decide));rw [e5] at hJ |-; clear e5;refine aP rfl fun K hK => ?_;go_simp;exact hJ.q hK (by kernel_rfl) rfl
   . intro L fx w' hJ hL hp hcl;have e6 := hJ.pt 6 13 (.pointer (some ⟨S.o, j, none⟩)) rfl rfl rfl (hp 6 (by decide));rw [e6] at hJ |-; clear e6;refine aP rfl fun K hK => ?_;have cl0 := (hJ.cells _ qm).1;try dsimp only at cl0
     go_simp;exact hJ.q hK (by kernel_rfl) rfl
   . intro L fx w' hJ hL hp hcl;refine aP rfl fun K hK => ?_;have rw0 := (hJ.rows _ gm).1;have cl0 : w'.cell? ⟨w.heap.size, 0, none⟩ = some (.bool mp.1) := rw0.cell 0;have cl1 : w'.cell? ⟨w.heap.size, 1, none⟩ = some (.slice mp.2.1 mp.2.2.1 mp.2.2.2) := rw0.cell 1;have cl2 : w'.cell? ⟨w.heap.size, 2, none⟩ = some (.bool mq.1) := rw0.cell 2;have cl3 : w'.cell? ⟨w.heap.size, 3, none⟩ = some (.slice mq.2.1 mq.2.2.1 mq.2.2.2) := rw0.cell 3;have cl4 : w'.cell? ⟨w.heap.size, 4, none⟩ = some (.bool mr.1) := rw0.cell 4;have cl5 : w'.cell? ⟨w.heap.size, 5, none⟩ = some (.slice mr.2.1 mr.2.2.1 mr.2.2.2) := rw0.cell 5;have cl6 : w'.cell? ⟨w.heap.size, 6, none⟩ = some (.bool ms.1) := rw0.cell 6;have cl7 : w'.cell? ⟨w.heap.size, 7, none⟩ = some (.slice ms.2.1 ms.2.2.1 ms.2.2.2) := rw0.cell 7;go_simp;exact hJ.q hK (by kernel_rfl) rfl
 . intro L x' w3 hL hJ;have hfr : Below w1.drew.heap.size w1.drew w3 := hJ.fr;have e3 : x' 10 = .slice (some ⟨S.R[i].blk, 0, none⟩) S.R[i].xs.length S.R[i].cap := hJ.slot 3 (by show 3 < 9; decide) (hL 3 (by show 3 < 9; decide));have e7 : x' 14 = .slice (some ⟨S.R[j].blk, 0, none⟩) S.R[j].xs.length S.R[j].cap := hJ.slot 7 (by show 7 < 9; decide) (hL 7 (by show 7 < 9; decide));have e8 : x' 15 = .agg #[.bool mp.1, .slice mp.2.1 mp.2.2.1 mp.2.2.2, .bool mq.1, .slice mq.2.1 mq.2.2.1 mq.2.2.2, .bool mr.1, .slice mr.2.1 mr.2.2.1 mr.2.2.2, .bool ms.1, .slice ms.2.1 ms.2.2.1 ms.2.2.2] := hJ.slot 8 (by show 8 < 9; decide) (hL 8 (by show 8 < 9; decide));rw [aD (x := x') (d := 10) (v := .slice (some ⟨S.R[i].blk, 0, none⟩) S.R[i].xs.length S.R[i].cap) e3];rw [aD (x := (bg x' 10 (.slice (some ⟨S.R[i].blk, 0, none⟩) S.R[i].xs.length S.R[i].cap))) (d := 14) (v := .slice (some ⟨S.R[j].blk, 0, none⟩) S.R[j].xs.length S.R[j].cap) e7];rw [aD (x := (bg (bg x' 10 (.slice (some ⟨S.R[i].blk, 0, none⟩) S.R[i].xs.length S.R[i].cap)) 14 (.slice (some ⟨S.R[j].blk, 0, none⟩) S.R[j].xs.length S.R[j].cap))) (d := 15) (v := .agg #[.bool mp.1, .slice mp.2.1 mp.2.2.1 mp.2.2.2, .bool mq.1, .slice mq.2.1 mq.2.2.1 mq.2.2.2, .bool mr.1, .slice mr.2.1 mr.2.2.1 mr.2.2.2, .bool ms.1, .slice ms.2.1 ms.2.2.1 ms.2.2.2]) e8];clear hJ hL e3 e7 e8 cg ci cj;refine aP rfl fun K hK => ?_;go_simp;go_at_call 116;refine (Bg _ _ _ _ LA LB _ _ mp mq mr ms a b c d _ (aL.below (w := w1.drew) HX1.out hfr) (aL.below (w := w1.drew) HY1.out hfr) (aj.below (w := w1.drew) HA1.out hfr) (aj.below (w := w1.drew) HB1'.out hfr) (aj.below (w := w1.drew) HC1.out hfr) (aj.below (w := w1.drew) HD1.out hfr) hne Hl.out HXL.out HYL.out hLab hlen).mono ?_;rintro e w4 ⟨rfl, hR4, hR4', hC4⟩;try dsimp only
   refine hK _ _ ⟨⟨bg (bg (bg (bg x' 10 (.slice (some ⟨S.R[i].blk, 0, none⟩) S.R[i].xs.length S.R[i].cap)) 14 (.slice (some ⟨S.R[j].blk, 0, none⟩) S.R[j].xs.length S.R[j].cap)) 15 (.agg #[.bool mp.1, .slice mp.2.1 mp.2.2.1 mp.2.2.2, .bool mq.1, .slice mq.2.1 mq.2.2.1 mq.2.2.2, .bool mr.1, .slice mr.2.1 mr.2.2.1 mr.2.2.2, .bool ms.1, .slice ms.2.1 ms.2.2.1 ms.2.2.2])) 16 (.tuple #[]), by kernel_rfl⟩, ?_⟩;clear hK;go_wp2;refine bodyPost_end (results_none (by kernel_rfl) _ _ _) rfl ?_;have hC0 : aO S.rws w w3 := (aO.bb HB1.out).drew.below hfr;have hs3 := hfr.size;have hs4 : w1.drew.heap.size = w1.heap.size := rfl;have hCs : aO (fun k => k = S.R[i].blk \/ k = S.R[j].blk) w w4 := ((aO.bb HB1.out).drew.below hfr).trans (hC4.mono (fun k _ e => e));have hCo : aO S.rws w w4 := hCs.mono (fun k _ e => .inr (e.elim (fun e => ⟨S.R[i], List.getElem_mem hi, e.symm⟩) (fun e => ⟨S.R[j], List.getElem_mem hj, e.symm⟩)));have hM4 := qE HL.out.dM hi hj hij (jN Hl.out) ((jN Hl.out).trans Hl.out) hCs hR4 hR4';exact ⟨rfl, HL.out.rows hCo hM4 (by unfold jV; rw [aB, aB]), hCo⟩
theorem ea.drew {w : World} {o : Nat} {R : List Hd} (h : ea w o R) : ea w.drew o R := ⟨h.out, h.row, h.nd⟩
theorem ei.drew {w : World} {S : cC} (h : ei w S) : ei w.drew S := ⟨h.box, h.dM.drew⟩
theorem aE.drew {w : World} {S : cC} (h : aE w S) : aE w.drew S := ⟨h.lad, h.sides, h.box, h.dM.drew, fun t ht => by obtain ⟨V, hV⟩ := h.ext t ht; exact ⟨V, hV.sd.drew, hV.box3, hV.rel, hV.own, hV.apart⟩⟩
def fh (R : List Hd) (i j : Nat) (hi : i < R.length) (hj : j < R.length) : List Hd := (R.set i R[j]).set j R[i]
def swp (i j m : Nat) : Nat := if m = j then i else if m = i then j else m
theorem kZ {i j m n : Nat} (hi : i < n) (hj : j < n) (hm : m < n) : swp i j m < n := by unfold swp; (repeat' split) <;> assumption
theorem zO {i j a b : Nat} (h : swp i j a = swp i j b) : a = b := by unfold swp at h; (repeat' split at h) <;> omega
theorem bR {R : List Hd} {i j : Nat} (hi : i < R.length) (hj : j < R.length) : (fh R i j hi hj).length = R.length := by simp [fh]
theorem eX {R : List Hd} {i j m : Nat} (hi : i < R.length) (hj : j < R.length) (hm : m < R.length) : (fh R i j hi hj)[m]'(by rw [bR]; exact hm) = R[swp i j m]'(kZ hi hj hm) := by
 unfold fh;rw [List.getElem_set];split
 . rename_i e; subst e; congr 1; unfold swp; rw [if_pos rfl]
 . rename_i e;rw [List.getElem_set];split
   . rename_i e'; subst e'; congr 1; unfold swp; rw [if_neg (fun h => e h.symm), if_pos rfl]
   . rename_i e'; congr 1; unfold swp; rw [if_neg (fun h => e h.symm), if_neg (fun h => e' h.symm)]
theorem vu {R : List Hd} {i j : Nat} (hi : i < R.length) (hj : j < R.length) : (fh R i j hi hj).map Hd.cU = ((R.map Hd.cU).set i (R[j]).cU).set j (R[i]).cU := by
 unfold fh; rw [List.map_set, List.map_set]
theorem vv {w w' : World} {o : Nat} {R : List Hd} (h : ea w o R) {i j : Nat} (hi : i < R.length) (hj : j < R.length) (hc : aO (· = o) w w') (hr : eZ w' o 22 (((R.map Hd.cU).set i (R[j]).cU).set j (R[i]).cU)) : ea w' o (fh R i j hi hj) := by
 have hw : dN (· = o) w := by rintro g rfl; obtain ⟨tl, n, ho⟩ := h.out; exact ⟨_, _, ho, aK.append (qD _) n⟩
 refine ⟨by rw [vu]; exact hr, fun r hr' => ?_, ?_⟩
 . obtain ⟨m, hm, rfl⟩ := List.getElem_of_mem hr';rw [bR] at hm;rw [eX hi hj hm];have hmem := List.getElem_mem (l := R) (kZ hi hj hm);exact hc.zz hw (h.row _ hmem) (h.ne hmem)
 . refine List.pairwise_iff_getElem.2 fun a b ha hb hab => ?_;have ha' : a < R.length := by simpa [bR] using ha
   have hb' : b < R.length := by simpa [bR] using hb
   simp only [List.getElem_map];rw [eX hi hj ha', eX hi hj hb'];exact kT h.nd (kZ hi hj ha') (kZ hi hj hb') (fun e => by have := zO e; omega)
theorem s4 (J : (Nat -> Bool) -> (Nat -> Value) -> World -> Prop) (ds : List Nat) {P : Program} {ops : Array Oper} {Q : Exit -> Act -> World -> Prop} {id n : Nat} {a : Act} {w : World} (hm : P.follows .mixedOrders = true) (hn : ops.size = n)
 (hb : ((List.range n).all fun i => ((ops[i]?).map (·.after.all fun e => !Region.binds .any e || decide (e.on < i))).getD false) = true)
 (hF : a = cE a (fun k => a.tmps.getD k undef) ds) (h0 : ∀ x, J (fun _ => false) x w.drew)
 (hs : ∀ i ∈ List.range n, ∀ L x w', J L x w' -> (∀ k < n, L k = true -> ∀ j ∈ dh ops k, L j = true) -> L i = false -> (∀ j ∈ dh ops i, L j = true) -> wpOp P ops Q i (fun a' w'' => ∃ x', a' = cE a x' ds /\ J (eQ L i) x' w'') (cE a x ds) w')
 (hend : ∀ L x w', (∀ i < n, L i = true) -> J L x w' -> Q .normal (cE a x ds) w') : (Code.region id ops true).wp P Q a w :=
 gM hm hn hb (fun x => cE a x ds) J (fun k => a.tmps.getD k undef) hF (h0 _) (fun i hi L x w' hJ hG hL hp => hs i (List.mem_range.2 hi) L x w' hJ (fun k hk hLk => cJ L k (hG k hk hLk)) hL (cJ L i hp)) hend
def swD (k : Nat) : Nat := if k < 13 then k + 5 else 18
def swV (S : cC) (i j : Nat) (hi : i < S.R.length) (hj : j < S.R.length) (k : Nat) : Value := [.slice (some ⟨S.o, 0, none⟩) S.R.length S.cap, .int .i64 (i : Int), .slice (some ⟨S.o, 0, none⟩) S.R.length S.cap, .int .i64 (j : Int), .slice (some ⟨S.o, 0, none⟩) S.R.length S.cap, .int .i64 (j : Int), .pointer (some ⟨S.o, j, none⟩), .slice (some ⟨(S.R[j]'hj).blk, 0, none⟩) (S.R[j]'hj).xs.length (S.R[j]'hj).cap, .slice (some ⟨S.o, 0, none⟩) S.R.length S.cap, .int .i64 (i : Int), .pointer (some ⟨S.o, i, none⟩), .slice (some ⟨(S.R[i]'hi).blk, 0, none⟩) (S.R[i]'hi).xs.length (S.R[i]'hi).cap, .pointer (some ⟨S.o, i, none⟩), undef, .pointer (some ⟨S.o, j, none⟩), undef].getD k undef
def swW (S : cC) (i j : Nat) (hi : i < S.R.length) (hj : j < S.R.length) (w : World) : Bool -> Bool -> World
 | true, true => (w.setCell ⟨S.o, i, none⟩ (.slice (some ⟨(S.R[j]'hj).blk, 0, none⟩) (S.R[j]'hj).xs.length (S.R[j]'hj).cap)).setCell ⟨S.o, j, none⟩ (.slice (some ⟨(S.R[i]'hi).blk, 0, none⟩) (S.R[i]'hi).xs.length (S.R[i]'hi).cap)
 | true, false => w.setCell ⟨S.o, i, none⟩ (.slice (some ⟨(S.R[j]'hj).blk, 0, none⟩) (S.R[j]'hj).xs.length (S.R[j]'hj).cap)
 | false, _ => w
def swJ (S : cC) (i j : Nat) (hi : i < S.R.length) (hj : j < S.R.length) (w : World) (L : Nat -> Bool) (x : Nat -> Value) (w' : World) : Prop :=
 (∀ k, k < 16 -> k ≠ 13 -> k ≠ 15 -> L k = true -> x (swD k) = swV S i j hi hj k) /\ w' = swW S i j hi hj w (L 13) (L 15)
theorem swJ.pure {S : cC} {i j : Nat} {hi : i < S.R.length} {hj : j < S.R.length} {w w' : World} {L : Nat -> Bool} {x : Nat -> Value} (h : swJ S i j hi hj w L x w') (k : Nat) (hk : Nat.blt k 16 = true) (h1 : Nat.beq k 13 = false) (h2 : Nat.beq k 15 = false) :
 swJ S i j hi hj w (eQ L k) (bg x (swD k) (swV S i j hi hj k)) w' := by
 have hk := Nat.le_of_ble_eq_true hk;have h1 : k ≠ 13 := fun e => by subst e; cases h1
 have h2 : k ≠ 15 := fun e => by subst e; cases h2
 refine ⟨fun m hm hm1 hm2 hL => ?_, ?_⟩
 . unfold bg;by_cases e : m = k
   . subst e; rw [if_pos rfl]
   . rw [if_neg (by unfold swD; split <;> split <;> omega)];unfold eQ at hL;rw [if_neg e] at hL;exact h.1 m hm hm1 hm2 hL
 . show w' = swW S i j hi hj w (eQ L k 13) (eQ L k 15);unfold eQ;rw [if_neg (Ne.symm h1), if_neg (Ne.symm h2)];exact h.2
theorem sI (S : cC) (i j : Nat) (w : World) (h : ei w S) (hi : i < S.R.length) (hj : j < S.R.length) (hij : i ≠ j) :
 Calls Tryz.prog 111 #[.int .i64 (i : Int), .int .i64 (j : Int), .pointer (some ⟨S.g, 0, none⟩)] w fun e w' => e = .returned (.tuple #[]) /\ ei w' (S.aA (fh S.R i j hi hj)) /\ aO S.rws w w' := by
 have hgo : S.g ≠ S.o := h.box.neP h.dM.out (by decide);have hog : ¬ S.o = S.g := fun e => hgo e.symm;have cg : w.cell? ⟨S.g, 0, none⟩ = some (.slice (some ⟨S.o, 0, none⟩) S.R.length S.cap) := h.box.cell 0;have ci : w.cell? ⟨S.o, i, none⟩ = some (.slice (some ⟨S.R[i].blk, 0, none⟩) S.R[i].xs.length S.R[i].cap) := h.dM.cU hi;have cj : w.cell? ⟨S.o, j, none⟩ = some (.slice (some ⟨S.R[j].blk, 0, none⟩) S.R[j].xs.length S.R[j].cap) := h.dM.cU hj;have fi := h.dM.out.free i;have fj := h.dM.out.free j;have hi' : (i : Int) < (S.R.length : Int) := by omega
 have hj' : (j : Int) < (S.R.length : Int) := by omega
 have hji : ¬ j = i := fun e => hij e.symm;have HL := H5 h; clear h;go_enter Tryz.func111, Tryz.ntmps111;go_wp2;have hcell : ∀ a b, (swW S i j hi hj w.drew a b).cell? ⟨S.g, 0, none⟩ = some (.slice (some ⟨S.o, 0, none⟩) S.R.length S.cap) := by
  intro a b;cases a
  . exact cg
  . cases b
    . exact (World.cell?_setCell_far _ _ _ _ hog).trans cg
    . exact (World.cell?_setCell_far _ _ _ _ hog).trans ((World.cell?_setCell_far _ _ _ _ hog).trans cg)
 have HC := H5 hcell;clear hcell;refine s4 (swJ S i j hi hj w.drew) [5, 6, 7, 8, 9, 10, 11, 12, 13, 14, 15, 16, 17, 18] (n := 16) (by kernel_rfl) (by kernel_rfl) (by kernel_rfl) (by kernel_rfl) ?_ ?_ ?_
 . exact fun _ => ⟨fun _ _ _ _ h => by simp at h, rfl⟩
 . refine ak ?_ (ak ?_ (ak ?_ (ak ?_ (ak ?_ (ak ?_ (ak ?_ (ak ?_ (ak ?_ (ak ?_ (ak ?_ (ak ?_ (ak ?_ (ak ?_ (ak ?_ (ak ?_ kt)))))))))))))))
   . intro L x w' hJ hG hL hp;have c0 : w'.cell? ⟨S.g, 0, none⟩ = some (.slice (some ⟨S.o, 0, none⟩) S.R.length S.cap) := by rw [hJ.2]; exact HC.out _ _
     refine wpOp_step rfl (fun K hK => ?_);simp only [pN, Nat.reduceEqDiff, ↓reduceIte];go_simp;exact hK _ _ ⟨_, by kernel_rfl, hJ.pure 0 rfl rfl rfl⟩
   . intro L x w' hJ hG hL hp;refine wpOp_step rfl (fun K hK => ?_);simp only [pN, Nat.reduceEqDiff, ↓reduceIte];go_simp;exact hK _ _ ⟨_, by kernel_rfl, hJ.pure 1 rfl rfl rfl⟩
   . intro L x w' hJ hG hL hp;have c0 : w'.cell? ⟨S.g, 0, none⟩ = some (.slice (some ⟨S.o, 0, none⟩) S.R.length S.cap) := by rw [hJ.2]; exact HC.out _ _
     refine wpOp_step rfl (fun K hK => ?_);simp only [pN, Nat.reduceEqDiff, ↓reduceIte];go_simp;exact hK _ _ ⟨_, by kernel_rfl, hJ.pure 2 rfl rfl rfl⟩
   . intro L x w' hJ hG hL hp;refine wpOp_step rfl (fun K hK => ?_);simp only [pN, Nat.reduceEqDiff, ↓reduceIte];go_simp;exact hK _ _ ⟨_, by kernel_rfl, hJ.pure 3 rfl rfl rfl⟩
   . intro L x w' hJ hG hL hp;have c0 : w'.cell? ⟨S.g, 0, none⟩ = some (.slice (some ⟨S.o, 0, none⟩) S.R.length S.cap) := by rw [hJ.2]; exact HC.out _ _
     refine wpOp_step rfl (fun K hK => ?_);simp only [pN, Nat.reduceEqDiff, ↓reduceIte];go_simp;exact hK _ _ ⟨_, by kernel_rfl, hJ.pure 4 rfl rfl rfl⟩
   . intro L x w' hJ hG hL hp;refine wpOp_step rfl (fun K hK => ?_);simp only [pN, Nat.reduceEqDiff, ↓reduceIte];go_simp;exact hK _ _ ⟨_, by kernel_rfl, hJ.pure 5 rfl rfl rfl⟩
   . intro L x w' hJ hG hL hp;have e4 : x 9 = (.slice (some ⟨S.o, 0, none⟩) S.R.length S.cap) := hJ.1 4 (by decide) (by decide) (by decide) (hp 4 (by decide));have e5 : x 10 = (.int .i64 (j : Int)) := hJ.1 5 (by decide) (by decide) (by decide) (hp 5 (by decide));rw [aD (x := x) (d := 9) e4] at hJ |-;rw [aD (x := (bg x 9 (.slice (some ⟨S.o, 0, none⟩) S.R.length S.cap))) (d := 10) e5] at hJ |-;refine wpOp_step rfl (fun K hK => ?_);simp only [pN, Nat.reduceEqDiff, ↓reduceIte];go_simp;exact hK _ _ ⟨_, by kernel_rfl, hJ.pure 6 rfl rfl rfl⟩
   . intro L x w' hJ hG hL hp;have e6 : x 11 = (.pointer (some ⟨S.o, j, none⟩)) := hJ.1 6 (by decide) (by decide) (by decide) (hp 6 (by decide));rw [aD (x := x) (d := 11) e6] at hJ |-;have h13 : L 13 = false := by cases h : L 13 with | false => rfl | true => have := hG 13 (by decide) h 7 (by decide); rw [hL] at this; cases this
     have hw : w' = w.drew := by rw [hJ.2, h13]; rfl
     rw [hw] at hJ |-;have cj' : w.drew.cell? ⟨S.o, j, none⟩ = some (.slice (some ⟨(S.R[j]'hj).blk, 0, none⟩) (S.R[j]'hj).xs.length (S.R[j]'hj).cap) := cj;refine wpOp_step rfl (fun K hK => ?_);simp only [pN, Nat.reduceEqDiff, ↓reduceIte];go_simp;exact hK _ _ ⟨_, by kernel_rfl, hJ.pure 7 rfl rfl rfl⟩
   . intro L x w' hJ hG hL hp;have c0 : w'.cell? ⟨S.g, 0, none⟩ = some (.slice (some ⟨S.o, 0, none⟩) S.R.length S.cap) := by rw [hJ.2]; exact HC.out _ _
     refine wpOp_step rfl (fun K hK => ?_);simp only [pN, Nat.reduceEqDiff, ↓reduceIte];go_simp;exact hK _ _ ⟨_, by kernel_rfl, hJ.pure 8 rfl rfl rfl⟩
   . intro L x w' hJ hG hL hp;refine wpOp_step rfl (fun K hK => ?_);simp only [pN, Nat.reduceEqDiff, ↓reduceIte];go_simp;exact hK _ _ ⟨_, by kernel_rfl, hJ.pure 9 rfl rfl rfl⟩
   . intro L x w' hJ hG hL hp;have e8 : x 13 = (.slice (some ⟨S.o, 0, none⟩) S.R.length S.cap) := hJ.1 8 (by decide) (by decide) (by decide) (hp 8 (by decide));have e9 : x 14 = (.int .i64 (i : Int)) := hJ.1 9 (by decide) (by decide) (by decide) (hp 9 (by decide));rw [aD (x := x) (d := 13) e8] at hJ |-;rw [aD (x := (bg x 13 (.slice (some ⟨S.o, 0, none⟩) S.R.length S.cap))) (d := 14) e9] at hJ |-;refine wpOp_step rfl (fun K hK => ?_);simp only [pN, Nat.reduceEqDiff, ↓reduceIte];go_simp;exact hK _ _ ⟨_, by kernel_rfl, hJ.pure 10 rfl rfl rfl⟩
   . intro L x w' hJ hG hL hp;have e10 : x 15 = (.pointer (some ⟨S.o, i, none⟩)) := hJ.1 10 (by decide) (by decide) (by decide) (hp 10 (by decide));rw [aD (x := x) (d := 15) e10] at hJ |-;have h13 : L 13 = false := by cases h : L 13 with | false => rfl | true => have := hG 13 (by decide) h 11 (by decide); rw [hL] at this; cases this
     have hw : w' = w.drew := by rw [hJ.2, h13]; rfl
     rw [hw] at hJ |-;have ci' : w.drew.cell? ⟨S.o, i, none⟩ = some (.slice (some ⟨(S.R[i]'hi).blk, 0, none⟩) (S.R[i]'hi).xs.length (S.R[i]'hi).cap) := ci;refine wpOp_step rfl (fun K hK => ?_);simp only [pN, Nat.reduceEqDiff, ↓reduceIte];go_simp;exact hK _ _ ⟨_, by kernel_rfl, hJ.pure 11 rfl rfl rfl⟩
   . intro L x w' hJ hG hL hp;have e0 : x 5 = (.slice (some ⟨S.o, 0, none⟩) S.R.length S.cap) := hJ.1 0 (by decide) (by decide) (by decide) (hp 0 (by decide));have e1 : x 6 = (.int .i64 (i : Int)) := hJ.1 1 (by decide) (by decide) (by decide) (hp 1 (by decide));rw [aD (x := x) (d := 5) e0] at hJ |-;rw [aD (x := (bg x 5 (.slice (some ⟨S.o, 0, none⟩) S.R.length S.cap))) (d := 6) e1] at hJ |-;refine wpOp_step rfl (fun K hK => ?_);simp only [pN, Nat.reduceEqDiff, ↓reduceIte];go_simp;exact hK _ _ ⟨_, by kernel_rfl, hJ.pure 12 rfl rfl rfl⟩
   . intro L x w' hJ hG hL hp;have e12 : x 17 = (.pointer (some ⟨S.o, i, none⟩)) := hJ.1 12 (by decide) (by decide) (by decide) (hp 12 (by decide));have e7 : x 12 = (.slice (some ⟨(S.R[j]'hj).blk, 0, none⟩) (S.R[j]'hj).xs.length (S.R[j]'hj).cap) := hJ.1 7 (by decide) (by decide) (by decide) (hp 7 (by decide));rw [aD (x := x) (d := 17) e12] at hJ |-;rw [aD (x := (bg x 17 (.pointer (some ⟨S.o, i, none⟩)))) (d := 12) e7] at hJ |-;have hw : w' = w.drew := by rw [hJ.2, hL]; rfl
     rw [hw] at hJ |-;refine wpOp_step rfl (fun K hK => ?_);simp only [pN, Nat.reduceEqDiff, ↓reduceIte];go_simp;have h15 : L 15 = false := by cases h : L 15 with | false => rfl | true => have := hG 15 (by decide) h 13 (by decide); rw [hL] at this; cases this
     refine hK _ _ ⟨_, by kernel_rfl, fun m hm h1 h2 hLm => hJ.1 m hm h1 h2 (by unfold eQ at hLm; rw [if_neg h1] at hLm; exact hLm), ?_⟩;have e1 : eQ L 13 13 = true := rfl;have e2 : eQ L 13 15 = false := h15;rw [e1, e2];rfl
   . intro L x w' hJ hG hL hp;have e2 : x 7 = (.slice (some ⟨S.o, 0, none⟩) S.R.length S.cap) := hJ.1 2 (by decide) (by decide) (by decide) (hp 2 (by decide));have e3 : x 8 = (.int .i64 (j : Int)) := hJ.1 3 (by decide) (by decide) (by decide) (hp 3 (by decide));rw [aD (x := x) (d := 7) e2] at hJ |-;rw [aD (x := (bg x 7 (.slice (some ⟨S.o, 0, none⟩) S.R.length S.cap))) (d := 8) e3] at hJ |-;refine wpOp_step rfl (fun K hK => ?_);simp only [pN, Nat.reduceEqDiff, ↓reduceIte];go_simp;exact hK _ _ ⟨_, by kernel_rfl, hJ.pure 14 rfl rfl rfl⟩
   . intro L x w' hJ hG hL hp;have e14 : x 18 = (.pointer (some ⟨S.o, j, none⟩)) := hJ.1 14 (by decide) (by decide) (by decide) (hp 14 (by decide));have e11 : x 16 = (.slice (some ⟨(S.R[i]'hi).blk, 0, none⟩) (S.R[i]'hi).xs.length (S.R[i]'hi).cap) := hJ.1 11 (by decide) (by decide) (by decide) (hp 11 (by decide));rw [aD (x := x) (d := 18) e14] at hJ |-;rw [aD (x := (bg x 18 (.pointer (some ⟨S.o, j, none⟩)))) (d := 16) e11] at hJ |-;have h13 : L 13 = true := hp 13 (by decide);have hw : w' = w.drew.setCell ⟨S.o, i, none⟩ (S.R[j]'hj).cU := by rw [hJ.2, h13, hL]; rfl
     rw [hw] at hJ |-;refine wpOp_step rfl (fun K hK => ?_);simp only [pN, Nat.reduceEqDiff, ↓reduceIte];go_simp;refine hK _ _ ⟨_, by kernel_rfl, fun m hm h1 h2 hLm => hJ.1 m hm h1 h2 (by unfold eQ at hLm; rw [if_neg h2] at hLm; exact hLm), ?_⟩;have e1 : eQ L 15 13 = true := h13;have e2 : eQ L 15 15 = true := rfl;rw [e1, e2];rfl
 . intro L x w' hL hJ;have hw : w' = (w.drew.setCell ⟨S.o, i, none⟩ (S.R[j]'hj).cU).setCell ⟨S.o, j, none⟩ (S.R[i]'hi).cU := by rw [hJ.2, hL 13 (by decide), hL 15 (by decide)]; rfl
   rw [hw];simp only [pN, Nat.reduceEqDiff, ↓reduceIte];go_wp2;refine bodyPost_end (results_none (by kernel_rfl) _ _ _) rfl ?_;have hC : aO (· = S.o) w ((w.setCell ⟨S.o, i, none⟩ (S.R[j]).cU).setCell ⟨S.o, j, none⟩ (S.R[i]).cU) := ((aO.refl (· = S.o) w).set (p := ⟨S.o, i, none⟩) rfl _).set (p := ⟨S.o, j, none⟩) rfl _;have hR := (HL.out.dM.out.set (i := i) (by simpa using hi) (S.R[j]).cU).set (i := j) (by simpa using hj) (S.R[i]).cU;have hM := vv HL.out.dM hi hj hC hR;have hCo : aO S.rws w ((w.setCell ⟨S.o, i, none⟩ (S.R[j]).cU).setCell ⟨S.o, j, none⟩ (S.R[i]).cU) := hC.mono (fun k _ e => .inl e);have hL := HL.out.rows hCo hM (bR hi hj);exact ⟨rfl, ei.drew hL, hCo.drew⟩
def jZ (xs : List Int) : List Int := xs.map (fun x => -x)
def kC (xs cu : List Int) (m : Nat) : Prop := cu.length = xs.length /\ (∀ j (h : j < cu.length) (h1 : j < xs.length), j < m -> cu[j] = -xs[j]) /\ (∀ j (h : j < cu.length) (h1 : j < xs.length), m <= j -> cu[j] = xs[j])
theorem kC.start (xs : List Int) : kC xs xs 0 := ⟨rfl, fun _ _ _ h => by omega, fun _ _ _ _ => rfl⟩
theorem kC.next {xs cu : List Int} {m : Nat} (h : kC xs cu m) (hm : m < xs.length) : kC xs (cu.set m (-xs[m])) (m + 1) := by
 obtain ⟨h1, h2, h3⟩ := h;refine ⟨by simpa using h1, fun j hj hx hjm => ?_, fun j hj hx hjm => ?_⟩
 . rw [List.getElem_set];split
   . rename_i e; subst e; rfl
   . exact h2 j (by simpa using hj) hx (by omega)
 . rw [List.getElem_set, if_neg (by omega)];exact h3 j (by simpa using hj) hx (by omega)
theorem kC.all {xs cu : List Int} (h : kC xs cu xs.length) : cu = jZ xs := by
 obtain ⟨h1, h2, h3⟩ := h;refine List.ext_getElem (by simp [jZ, h1]) fun j hj hj' => ?_;rw [h2 j hj (by omega) (by omega)];simp [jZ]
def ic (R : List Hd) (i : Nat) (hi : i < R.length) : List Hd := di R i (jZ R[i].xs)
theorem tm (S : cC) (i : Nat) (w : World) (h : ei w S) (hi : i < S.R.length)
 (hxL : ∀ x ∈ S.R[i].xs, ag x.natAbs <= 17592186044415) (hlen : S.R[i].xs.length <= 4611686018427387903) :
 Calls Tryz.prog 112 #[.int .i64 (i : Int), .pointer (some ⟨S.g, 0, none⟩)] w fun e w' => e = .returned (.tuple #[]) /\ ei w' (S.aA (ic S.R i hi)) /\ aO S.rws w w' := by
 have HXL := H5 hxL; clear hxL;have cg : w.cell? ⟨S.g, 0, none⟩ = some (.slice (some ⟨S.o, 0, none⟩) S.R.length S.cap) := h.box.cell 0;have ci : w.cell? ⟨S.o, i, none⟩ = some (.slice (some ⟨S.R[i].blk, 0, none⟩) S.R[i].xs.length S.R[i].cap) := h.dM.cU hi;have hi' : (i : Int) < (S.R.length : Int) := by omega
 have hX := H5 (h.dM.row _ (List.getElem_mem hi));have hG := H5 h.box;have hO := H5 h.dM.out;have hob : S.o ≠ S.R[i].blk := fun e => h.dM.ne (List.getElem_mem hi) e.symm;have hgb : S.g ≠ S.R[i].blk := by
  obtain ⟨ps, tl, nt, hp, _⟩ := h.dM.row _ (List.getElem_mem hi);exact h.box.ne hp (by decide)
 have HL := H5 h; clear h;go_enter Tryz.func112, Tryz.ntmps112;go_wp2;go_loopw [10] (fun c wr => ∃ (m : Nat) (cu : List Int), m <= S.R[i].xs.length /\ c = .int .i64 (m : Int) /\ Hid (kC S.R[i].xs cu m) /\ Hid (aL wr S.R[i].blk cu) /\ Hid (aa wr S.g 70 [S.cU]) /\ Hid (eZ wr S.o 22 (S.R.map Hd.cU)) /\ Hid (aO (· = S.R[i].blk) w wr)) (fun c _ => S.R[i].xs.length - (intOf c).toNat)
 case atStart => exact ⟨0, _, Nat.zero_le _, rfl, kC.start _, hX, hG, hO, aO.refl ..⟩
 case round =>
  obtain ⟨m, cu, hm, rfl, HA, hX, hG, hO, hC⟩ := hrel;by_cases hml : m < S.R[i].xs.length
  . have hmx : m < cu.length := by rw [HA.out.1]; exact hml
    have hm2 : (m : Int) < (S.R[i].xs.length : Int) := by omega
    obtain ⟨px, cx0, cx1, hnx⟩ := hX.out.get hmx;have Hnx := H5 hnx; clear hnx;clear cg ci;go_wp2;have hb1 : Below wr.heap.size wr (wr.alloc (.cells #[.bool px.1, .slice px.2.1 px.2.2.1 px.2.2.2] 37)) := (Below.refl _ _).alloc (Nat.le_refl _) _;have hr1 := aa.new wr #[.bool px.1, .slice px.2.1 px.2.2.1 px.2.2.2] 37;generalize wr.alloc (.cells #[.bool px.1, .slice px.2.1 px.2.2.1 px.2.2.2] 37) = w2 at *;have X2 := H5 (hX.out.below hb1);have G2 := H5 (hG.out.below hb1 hG.out.lt);have O2 := H5 (hO.out.below hb1 hO.out.lt);have C2 := H5 (hC.out.below hb1);have N2 := H5 (Hnx.out.below hb1);have R2 := H5 hr1;have hs1 : wr.heap.size < w2.heap.size := hr1.lt;have hxe : cu[m] = S.R[i].xs[m] := HA.out.2.2 m hmx hml (Nat.le_refl _);have hxw : ag (S.R[i].xs[m]).natAbs <= 17592186044415 := HXL.out _ (List.getElem_mem hml);have N3 := N2.out;rw [hxe] at N3;have N3 := H5 (N3.int hxw);clear hX hG hO hC Hnx N2 hb1 hr1 cx0 cx1 hxe;have cg : w2.cell? ⟨S.g, 0, none⟩ = some (.slice (some ⟨S.o, 0, none⟩) S.R.length S.cap) := G2.out.cell 0;have ci : w2.cell? ⟨S.o, i, none⟩ = some (.slice (some ⟨S.R[i].blk, 0, none⟩) S.R[i].xs.length S.R[i].cap) := by rw [O2.out.cell (by simpa using hi)]; simp [hi, Hd.cU]
    have cx0 : w2.cell? ⟨wr.heap.size, 0, none⟩ = some (.bool px.1) := R2.out.cell 0;have cx1 : w2.cell? ⟨wr.heap.size, 1, none⟩ = some (.slice px.2.1 px.2.2.1 px.2.2.2) := R2.out.cell 1;have hg2 := G2.out.lt;have ho2 := O2.out.lt;refine dF ⟨8, fun q_ => [15, 16, 17, 18, 19, 20, 21, 22].getD q_ 0,
     fun q_ => [.val (.slice (some ⟨S.o, 0, none⟩) S.R.length S.cap), .val (.int .i64 (i : Int)), .val (.pointer (some ⟨S.o, i, none⟩)), .val (.slice (some ⟨S.R[i].blk, 0, none⟩) S.R[i].xs.length S.R[i].cap), .val (.int .i64 (m : Int)), .val (.agg #[.bool px.1, .slice px.2.1 px.2.2.1 px.2.2.2]), .int 0 (-S.R[i].xs[m]), .val (.pointer (some ⟨S.R[i].blk, m * 2, none⟩))].getD q_ .any,
     [],
     [(.agg #[.bool px.1, .slice px.2.1 px.2.2.1 px.2.2.2], .at_ 17592186044415 (S.R[i].xs[m]))],
     [],
     [], [(⟨S.g, 0, none⟩, .slice (some ⟨S.o, 0, none⟩) S.R.length S.cap), (⟨S.o, i, none⟩, .slice (some ⟨S.R[i].blk, 0, none⟩) S.R[i].xs.length S.R[i].cap), (⟨wr.heap.size, 0, none⟩, .bool px.1), (⟨wr.heap.size, 1, none⟩, .slice px.2.1 px.2.2.1 px.2.2.2)], []⟩ [15, 16, 17, 18, 19, 20, 21, 22] (w2.heap.size) (by kernel_rfl) (by kernel_rfl) (by kernel_rfl) (by kernel_rfl) (by kernel_rfl) ?_ ?_ ?_ ?_ ?_ ?_
    . intro p hp;rcases mc hp with rfl | hp
      . exact N3.out
      cases hp
    . intro p hp;cases hp
    . intro p hp;rcases mc hp with rfl | hp
      . refine ⟨cg, by show S.g < w2.heap.size; omega, ?_⟩;intro t ht;cases ht
      rcases mc hp with rfl | hp
      . refine ⟨ci, by show S.o < w2.heap.size; omega, ?_⟩;intro t ht;cases ht
      rcases mc hp with rfl | hp
      . refine ⟨cx0, by show wr.heap.size < w2.heap.size; omega, ?_⟩;intro t ht;cases ht
      rcases mc hp with rfl | hp
      . refine ⟨cx1, by show wr.heap.size < w2.heap.size; omega, ?_⟩;intro t ht;cases ht
      cases hp
    . intro t ht;cases ht
    . refine ak ?_ (ak ?_ (ak ?_ (ak ?_ (ak ?_ (ak ?_ (ak ?_ (ak ?_ kt)))))));any_goals (first | (intro L fx w' hJ hL hp hcl; have _ := tJ hp (by decide +kernel); refine aP rfl fun K hK => ?_; go_simp; exact hJ.q hK (by kernel_rfl) rfl) | fail)
      . intro L fx w' hJ hL hp hcl;refine aP rfl fun K hK => ?_;have cl0 := (hJ.cells _ gm).1;try dsimp only at cl0
        go_simp;exact hJ.q hK (by kernel_rfl) rfl
      . intro L fx w' hJ hL hp hcl;have e0 := hJ.pt 0 15 (.slice (some ⟨S.o, 0, none⟩) S.R.length S.cap) rfl rfl rfl (hp 0 (by decide));rw [e0] at hJ |-; clear e0;have e1 := hJ.pt 1 16 (.int .i64 (i : Int)) rfl rfl rfl (hp 1 (by decide));rw [e1] at hJ |-; clear e1;refine aP rfl fun K hK => ?_;go_simp;exact hJ.q hK (by kernel_rfl) rfl
      . intro L fx w' hJ hL hp hcl;have e2 := hJ.pt 2 17 (.pointer (some ⟨S.o, i, none⟩)) rfl rfl rfl (hp 2 (by decide));rw [e2] at hJ |-; clear e2;refine aP rfl fun K hK => ?_;have cl0 := (hJ.cells _ iV).1;try dsimp only at cl0
        go_simp;exact hJ.q hK (by kernel_rfl) rfl
      . intro L fx w' hJ hL hp hcl;refine aP rfl fun K hK => ?_;have cl0 := (hJ.cells _ qm).1;have cl1 := (hJ.cells _ vT).1;try dsimp only at cl0 cl1
        go_simp;exact hJ.q hK (by kernel_rfl) rfl
      . intro L fx w' hJ hL hp hcl;have e5 := hJ.pt 5 20 (.agg #[.bool px.1, .slice px.2.1 px.2.2.1 px.2.2.2]) rfl rfl rfl (hp 5 (by decide));rw [e5] at hJ |-; clear e5;refine aP rfl fun K hK => ?_;go_simp;go_at_call 61;refine (jk _ (S.R[i].xs[m]) _ (show aj w' _ _ _ from hJ.base _ gm)).mono ?_;rintro e w4 ⟨⟨v5, rfl, h5⟩, hb4⟩;try dsimp only
        exact hK _ _ ⟨_, by kernel_rfl, hJ.gC 6 rfl (by kernel_rfl) hb4 (ai.mono h5 (Nat.zero_le _)) (by omega)⟩
      . intro L fx w' hJ hL hp hcl;have e3 := hJ.pt 3 18 (.slice (some ⟨S.R[i].blk, 0, none⟩) S.R[i].xs.length S.R[i].cap) rfl rfl rfl (hp 3 (by decide));rw [e3] at hJ |-; clear e3;have e4 := hJ.pt 4 19 (.int .i64 (m : Int)) rfl rfl rfl (hp 4 (by decide));rw [e4] at hJ |-; clear e4;refine aP rfl fun K hK => ?_;go_simp;exact hJ.q hK (by kernel_rfl) rfl
    . intro L x' w3 hL hJ;have hfr : Below w2.drew.heap.size w2.drew w3 := hJ.fr;have e11 : ai w3 0 (x' 21) (-S.R[i].xs[m]) := hJ.slot 6 (by show 6 < 8; decide) (hL 6 (by show 6 < 8; decide));have e12 : x' 22 = .pointer (some ⟨S.R[i].blk, m * 2, none⟩) := hJ.slot 7 (by show 7 < 8; decide) (hL 7 (by show 7 < 8; decide));obtain ⟨pz, hpz⟩ := aI.parts e11.num;rw [hpz] at e11;unfold av at hpz;rw [aD (x := x') (d := 21) hpz];rw [aD (x := bg x' 21 (.agg #[.bool pz.1, .slice pz.2.1 pz.2.2.1 pz.2.2.2])) (d := 22) (v := .pointer (some ⟨S.R[i].blk, m * 2, none⟩)) e12];clear hJ hL cg ci cx0 cx1;have X3 := H5 (aL.below (w := w2.drew) X2.out hfr);have G3 := H5 (aa.below (w := w2.drew) G2.out hfr G2.out.lt);have O3 := H5 (eZ.below (w := w2.drew) O2.out hfr O2.out.lt);have C3 := H5 (C2.out.drew.below hfr);obtain ⟨pq, q0, q1, _⟩ := X3.out.get hmx;have q2 := X3.out.free (m * 2);have q3 := X3.out.free (m * 2 + 1);refine aP rfl fun K hK => ?_;go_simp;refine hK _ _ ⟨⟨bg (bg x' 21 (.agg #[.bool pz.1, .slice pz.2.1 pz.2.2.1 pz.2.2.2])) 22 (.pointer (some ⟨S.R[i].blk, m * 2, none⟩)), by kernel_rfl⟩, ?_⟩;clear hK q0 q1 q2 q3;go_wp2;go_roundw
      case rel =>
       exact ⟨m + 1, _, by omega, by go_num, HA.out.next hml, H5 (X3.out.set m e11.num), H5 ((G3.out.other (by show S.g ≠ S.R[i].blk; exact hgb) _).other (by show S.g ≠ S.R[i].blk; exact hgb) _), H5 ((O3.out.other (by show S.o ≠ S.R[i].blk; exact hob) _).other (by show S.o ≠ S.R[i].blk; exact hob) _), H5 ((C3.out.set (p := ⟨S.R[i].blk, m * 2, none⟩) rfl _).set (p := ⟨S.R[i].blk, m * 2 + 1, none⟩) rfl _)⟩
      case measure => simp [intOf]; omega
  . obtain rfl : m = S.R[i].xs.length := by omega
    have he := HA.out.all;have HE := H5 he;clear he;go_wp2;refine bodyPost_end (results_none (by kernel_rfl) _ _ _) rfl ?_;have hR4 := hX.out;rw [HE.out] at hR4;have hCo : aO S.rws w wr := hC.out.mono (fun k _ e => .inr ⟨S.R[i], List.getElem_mem hi, e.symm⟩);have hM4 := HL.out.dM.di hi (by simp [jZ]) hC.out hR4;exact ⟨rfl, HL.out.rows hCo hM4 (by unfold ic; rw [aB]), hCo⟩
attribute [local go_sem] iF
attribute [local go_sem] iF
theorem aE.below {w w' : World} {S : cC} (h : aE w S) (hb : Below w.heap.size w w') : aE w' S :=
 ⟨h.lad.below hb h.lad.lt, h.sides.below hb h.sides.lt, h.box.below hb h.box.lt, h.dM.below hb, fun t ht => by obtain ⟨V, hV⟩ := h.ext t ht; exact ⟨V, hV.sd.below hb, hV.box3.below hb hV.box3.lt, hV.rel, hV.own, hV.apart⟩⟩
theorem aO.qf {S : cC} {w w' : World} (h : aO S.rws w w') : aO S.own w w' := h.mono (fun _ _ e => .inl e)
theorem ei.keepP {w w' : World} {S : cC} (h : ei w S) (hc : aO S.rws w w') {b : Nat} {t : TypeId} {cs : List Value} (hb : eZ w b t cs) (h1 : t ≠ 37) (h2 : t ≠ 22) : eZ w' b t cs := by
 obtain ⟨tl, n, hr⟩ := hb;exact ⟨tl, n, h.gS hc hr h1 h2⟩
theorem cC.yz {S : cC} {R : List Hd} (h : R.length = S.R.length) : (S.aA R).cU = S.cU := by unfold cC.cU cC.aA; rw [h]
theorem aE.qi {w : World} {S : cC} (h : aE w S) (k : Nat) (hk : S.own k) : k < w.heap.size := by
 have key : ∀ {S : cC}, ei w S -> S.rws k -> k < w.heap.size := fun hs e => by
  rcases e with rfl | ⟨r, hr, rfl⟩
  . exact hs.dM.out.lt
  . exact (hs.dM.row r hr).lt
 rcases hk with e | ⟨t, ht, e⟩
 . exact key h.sd e
 . obtain ⟨V, hV⟩ := h.ext t ht;exact key hV.sd ((hV.own k).1 e)
structure vK.Ok (t : vK) : Prop where
 len : ∀ R V, t.rel R V -> V.length = R.length
 sh : ∀ R V, t.rel R V -> ∀ r ∈ V, ∀ q ∈ V, r.xs.length = q.xs.length
 wide : ∀ R V, t.rel R V -> ∀ r ∈ V, r.xs.length <= 4611686018427387903
 bd : ∀ R V, t.rel R V -> t.fit R -> ∀ r ∈ V, ∀ x ∈ r.xs, ag x.natAbs <= 4398046511103
 swap : ∀ R V i j (hi : i < R.length) (hj : j < R.length) (hi' : i < V.length) (hj' : j < V.length), i ≠ j -> t.rel R V -> t.rel (fh R i j hi hj) (fh V i j hi' hj')
 turn : ∀ R V i (hi : i < R.length) (hi' : i < V.length), t.rel R V -> t.rel (ic R i hi) (ic V i hi')
 add : ∀ R V i j k (hi : i < R.length) (hj : j < R.length) (hi' : i < V.length) (hj' : j < V.length), i ≠ j -> t.rel R V -> t.rel (iU R i j k hi hj) (iU V j i (-k) hj' hi')
 mix : ∀ R V i j a b c d (hi : i < R.length) (hj : j < R.length) (hi' : i < V.length) (hj' : j < V.length), i ≠ j -> a * d - b * c = 1 -> t.rel R V -> t.rel (jV R i j a b c d hi hj) (jV V i j d (-c) (-b) a hi' hj')
 no : False
def cC.jE (S : cC) : Prop := ∀ t, S.two = some t -> t.Ok
def cC.ym (S : cC) : Prop := ∀ t, S.two = some t -> t.fit S.R
theorem aE.fns {w : World} {S : cC} (h : aE w S) : (∀ k, k < 4 -> w.cell? ⟨S.sb, k, none⟩ = (gA S.g)[k]?) /\ ∀ t, S.two = some t -> ∀ k, k < 4 -> w.cell? ⟨S.sb, 4 + k, none⟩ = (agF t.g t.g3)[k]? := by
 refine ⟨fun k hk => ?_, fun t ht k hk => ?_⟩
 . rw [h.sides.cell (by simp [gA]; omega), List.getElem?_append_left (by simp [gA]; omega)]
 . have e : S.more = agF t.g t.g3 := by unfold cC.more; rw [ht]
   rw [h.sides.cell (by rw [e]; simp [gA, agF]; omega), List.getElem?_append_right (by simp [gA]), e];simp [gA]
theorem aE.one {w : World} {S : cC} (h : aE w S) (hS : S.two = none) : w.cell? ⟨S.lb, 1, none⟩ = some (.slice (some ⟨S.sb, 0, none⟩) 1 1) := by
 have := h.lad.cell 1;simpa [cC.ns, cC.cs, hS] using this
theorem aE.bU {w w' : World} {S : cC} {R : List Hd} (h : aE w S) (hS : S.two = none) (hs : ei w' (S.aA R)) (hc : aO S.rws w w') (hl : R.length = S.R.length) : aE w' (S.aA R) :=
 ⟨by rw [cC.yz hl]; exact h.sd.gS hc h.lad (by decide) (by decide), h.sd.keepP hc h.sides (by decide) (by decide), hs.box, hs.dM, fun t ht => by rw [show (S.aA R).two = S.two from rfl, hS] at ht; cases ht⟩
theorem tW {S : cC} {R : List Hd} (h : ∀ b, b ∈ R.map Hd.blk ↔ b ∈ S.R.map Hd.blk) (k : Nat) : (S.aA R).rws k ↔ S.rws k := by
 have hm : ∀ Q : List Hd, (∃ h ∈ Q, h.blk = k) ↔ k ∈ Q.map Hd.blk := fun Q => by simp
 show (k = S.o \/ ∃ h ∈ R, h.blk = k) ↔ (k = S.o \/ ∃ h ∈ S.R, h.blk = k);rw [hm, hm, h]
theorem uL {R : List Hd} {i j : Nat} (hi : i < R.length) (hj : j < R.length) (b : Nat) : b ∈ (fh R i j hi hj).map Hd.blk ↔ b ∈ R.map Hd.blk := by
 constructor
 . intro h;obtain ⟨q, hq, rfl⟩ := List.mem_map.1 h;obtain ⟨m, hm, rfl⟩ := List.getElem_of_mem hq;rw [bR] at hm;rw [eX hi hj hm];exact List.mem_map.2 ⟨_, List.getElem_mem _, rfl⟩
 . intro h;obtain ⟨q, hq, rfl⟩ := List.mem_map.1 h;obtain ⟨m, hm, rfl⟩ := List.getElem_of_mem hq;have hs : swp i j m < R.length := kZ hi hj hm;have e : swp i j (swp i j m) = m := by unfold swp; (repeat' split) <;> omega
   refine List.mem_map.2 ⟨(fh R i j hi hj)[swp i j m]'(by rw [bR]; exact hs), List.getElem_mem _, ?_⟩;rw [eX hi hj hs];congr 2
theorem sr {R : List Hd} {i : Nat} {xs : List Int} (b : Nat) : b ∈ (di R i xs).map Hd.blk ↔ b ∈ R.map Hd.blk := by rw [fa]
theorem rN {xs ys : List Int} (h : xs.length = ys.length) : fy 0 xs ys = xs := by
 refine List.ext_getElem (by simp [fy, h]) fun j h1 h2 => ?_;simp [fy]
theorem tb {R : List Hd} {i : Nat} (hi : i < R.length) : di R i R[i].xs = R := by
 refine List.ext_getElem (by simp [aB]) fun j h1 h2 => ?_;rw [dr h2];split
 . rename_i e; subst e; rfl
 . rfl
theorem x7 (S : cC) (i j : Nat) (w : World) (h : aE w S) (hi : i < S.R.length) (hj : j < S.R.length) (hij : i ≠ j) (hS : S.two = none) :
 Calls Tryz.prog 100 #[.pointer (some ⟨S.lb, 0, none⟩), .int .i64 (i : Int), .int .i64 (j : Int)] w fun e w' => e = .returned (.tuple #[]) /\ aE w' (S.aA (fh S.R i j hi hj)) /\ aO S.own w w' := by
 have c1 : w.cell? ⟨S.lb, 1, none⟩ = some (.slice (some ⟨S.sb, 0, none⟩) 1 1) := h.one hS;have HLA := H5 h; clear h;have HCA := H5 (aO.refl S.own w);go_enter Tryz.func100, Tryz.ntmps100;go_wp2;go_loopw [13] (fun ct_ wr => (ct_ = .int .i64 0 /\ Hid (aE wr S) /\ Hid (aO S.own w wr)) \/ (ct_ = .int .i64 1 /\ Hid (aE wr (S.aA (fh S.R i j hi hj))) /\ Hid (aO S.own w wr))) (fun c _ => 1 - (intOf c).toNat)
 case atStart => exact .inl ⟨rfl, HLA, HCA⟩
 case round =>
  clear c1;rcases hrel with ⟨rfl, hL, hC⟩ | ⟨rfl, hL, hC⟩
  . skip;have hfn := hL.out.fns.1;have s0 : wr.cell? ⟨S.sb, 0, none⟩ = some (.func (.func 111) #[] #[.pointer (some ⟨S.g, 0, none⟩)]) := hfn 0 (by decide);have s1 : wr.cell? ⟨S.sb, 1, none⟩ = some (.func (.func 112) #[] #[.pointer (some ⟨S.g, 0, none⟩)]) := hfn 1 (by decide);have s2 : wr.cell? ⟨S.sb, 2, none⟩ = some (.func (.func 113) #[] #[.pointer (some ⟨S.g, 0, none⟩)]) := hfn 2 (by decide);have s3 : wr.cell? ⟨S.sb, 3, none⟩ = some (.func (.func 115) #[] #[.pointer (some ⟨S.g, 0, none⟩)]) := hfn 3 (by decide);clear hfn;have hb1 : Below wr.heap.size wr (wr.alloc (.cells #[.func (.func 111) #[] #[.pointer (some ⟨S.g, 0, none⟩)], .func (.func 112) #[] #[.pointer (some ⟨S.g, 0, none⟩)], .func (.func 113) #[] #[.pointer (some ⟨S.g, 0, none⟩)], .func (.func 115) #[] #[.pointer (some ⟨S.g, 0, none⟩)]] 125)) := (Below.refl _ _).alloc (Nat.le_refl _) _

    have hL1 := H5 (hL.out.below hb1);have hC1 := H5 (hC.out.below hb1);have HB1 := H5 hb1;go_wp2_with fail
    refine (sI S i j _ hL1.out.sd hi hj hij).mono ?_;rintro e w4 ⟨rfl, hL4, hC4⟩;have HL4 := H5 (hL1.out.bU hS hL4 hC4 (bR hi hj));have HC4 := H5 (hC1.out.trans hC4.qf);clear hL4 hC4 s0 s1 s2 s3;go_wp2;go_roundw
    case rel => exact .inr ⟨by go_num, HL4, HC4⟩
    case measure => simp [intOf]
  . go_wp2;refine bodyPost_end (results_none (by kernel_rfl) _ _ _) rfl ?_;exact ⟨rfl, hL.out, hC.out⟩
theorem kz (S : cC) (i j : Nat) (w : World) (h : aE w S) (hi : i < S.R.length) (hj : j < S.R.length) (hij : i ≠ j) (hG : S.jE) :
 Calls Tryz.prog 100 #[.pointer (some ⟨S.lb, 0, none⟩), .int .i64 (i : Int), .int .i64 (j : Int)] w fun e w' => e = .returned (.tuple #[]) /\ aE w' (S.aA (fh S.R i j hi hj)) /\ aO S.own w w' := by
 rcases hS : S.two with _ | t
 . exact x7 S i j w h hi hj hij hS
 . exact (hG t hS).no.elim
theorem yd (S : cC) (i : Nat) (w : World) (h : aE w S) (hi : i < S.R.length) (hxL : ∀ x ∈ S.R[i].xs, ag x.natAbs <= 17592186044415) (hlen : S.R[i].xs.length <= 4611686018427387903) (hS : S.two = none) :
 Calls Tryz.prog 119 #[.pointer (some ⟨S.lb, 0, none⟩), .int .i64 (i : Int)] w fun e w' => e = .returned (.tuple #[]) /\ aE w' (S.aA (ic S.R i hi)) /\ aO S.own w w' := by
 have c1 : w.cell? ⟨S.lb, 1, none⟩ = some (.slice (some ⟨S.sb, 0, none⟩) 1 1) := h.one hS;have HXL := H5 hxL; clear hxL;have HLA := H5 h; clear h;have HCA := H5 (aO.refl S.own w);go_enter Tryz.func119, Tryz.ntmps119;go_wp2;go_loopw [11] (fun ct_ wr => (ct_ = .int .i64 0 /\ Hid (aE wr S) /\ Hid (aO S.own w wr)) \/ (ct_ = .int .i64 1 /\ Hid (aE wr (S.aA (ic S.R i hi))) /\ Hid (aO S.own w wr))) (fun c _ => 1 - (intOf c).toNat)
 case atStart => exact .inl ⟨rfl, HLA, HCA⟩
 case round =>
  clear c1;rcases hrel with ⟨rfl, hL, hC⟩ | ⟨rfl, hL, hC⟩
  . skip;have hfn := hL.out.fns.1;have s0 : wr.cell? ⟨S.sb, 0, none⟩ = some (.func (.func 111) #[] #[.pointer (some ⟨S.g, 0, none⟩)]) := hfn 0 (by decide);have s1 : wr.cell? ⟨S.sb, 1, none⟩ = some (.func (.func 112) #[] #[.pointer (some ⟨S.g, 0, none⟩)]) := hfn 1 (by decide);have s2 : wr.cell? ⟨S.sb, 2, none⟩ = some (.func (.func 113) #[] #[.pointer (some ⟨S.g, 0, none⟩)]) := hfn 2 (by decide);have s3 : wr.cell? ⟨S.sb, 3, none⟩ = some (.func (.func 115) #[] #[.pointer (some ⟨S.g, 0, none⟩)]) := hfn 3 (by decide);clear hfn;have hb1 : Below wr.heap.size wr (wr.alloc (.cells #[.func (.func 111) #[] #[.pointer (some ⟨S.g, 0, none⟩)], .func (.func 112) #[] #[.pointer (some ⟨S.g, 0, none⟩)], .func (.func 113) #[] #[.pointer (some ⟨S.g, 0, none⟩)], .func (.func 115) #[] #[.pointer (some ⟨S.g, 0, none⟩)]] 125)) := (Below.refl _ _).alloc (Nat.le_refl _) _

    have hL1 := H5 (hL.out.below hb1);have hC1 := H5 (hC.out.below hb1);have HB1 := H5 hb1;go_wp2_with fail
    refine (tm S i _ hL1.out.sd hi HXL.out hlen).mono ?_;rintro e w4 ⟨rfl, hL4, hC4⟩;have HL4 := H5 (hL1.out.bU hS hL4 hC4 (by unfold ic; rw [aB]));have HC4 := H5 (hC1.out.trans hC4.qf);clear hL4 hC4 s0 s1 s2 s3;go_wp2;go_roundw
    case rel => exact .inr ⟨by go_num, HL4, HC4⟩
    case measure => simp [intOf]
  . go_wp2;refine bodyPost_end (results_none (by kernel_rfl) _ _ _) rfl ?_;exact ⟨rfl, hL.out, hC.out⟩
theorem uo (S : cC) (i : Nat) (w : World) (h : aE w S) (hi : i < S.R.length) (hxL : ∀ x ∈ S.R[i].xs, ag x.natAbs <= 17592186044415) (hlen : S.R[i].xs.length <= 4611686018427387903) (hG : S.jE) (hF : S.ym) :
 Calls Tryz.prog 119 #[.pointer (some ⟨S.lb, 0, none⟩), .int .i64 (i : Int)] w fun e w' => e = .returned (.tuple #[]) /\ aE w' (S.aA (ic S.R i hi)) /\ aO S.own w w' := by
 rcases hS : S.two with _ | t
 . exact yd S i w h hi hxL hlen hS
 . exact (hG t hS).no.elim
theorem yw (S : cC) (i j : Nat) (kv : Value) (k : Int) (LA LB : Nat) (w : World) (h : aE w S) (hi : i < S.R.length) (hj : j < S.R.length) (hij : i ≠ j) (hK : aj w LA kv k) (hl : S.R[i].xs.length = S.R[j].xs.length) (hxL : ∀ x ∈ S.R[i].xs, ag x.natAbs <= 17592186044415) (hyL : ∀ y ∈ S.R[j].xs, ag y.natAbs <= LB) (hLab : LA + LB <= 17592186044415) (hlen : S.R[i].xs.length <= 4611686018427387903) (hS : S.two = none) :
 Calls Tryz.prog 130 #[.pointer (some ⟨S.lb, 0, none⟩), .int .i64 (i : Int), .int .i64 (j : Int), kv] w fun e w' => e = .returned (.tuple #[]) /\ aE w' (S.aA (iU S.R i j k hi hj)) /\ aO S.own w w' := by
 obtain ⟨kp, rfl⟩ := hK.parts;have HXL := H5 hxL; clear hxL;have HYL := H5 hyL; clear hyL;have Hl := H5 hl; clear hl;have HK := H5 hK; clear hK;have HL := H5 h; clear h;go_enter Tryz.func130, Tryz.ntmps130;unfold av at *;go_wp2_with fail
 have hb0 : Below w.heap.size w (w.alloc (.cells #[.bool kp.1, .slice kp.2.1 kp.2.2.1 kp.2.2.2] 37)) := (Below.refl _ _).alloc (Nat.le_refl _) _;have hr0 := aa.new w #[.bool kp.1, .slice kp.2.1 kp.2.2.1 kp.2.2.2] 37;generalize w.alloc (.cells #[.bool kp.1, .slice kp.2.1 kp.2.2.1 kp.2.2.2] 37) = wB at *;have hKB := HK.out.below hb0;refine (bP _ k _ (hKB.mono (by omega))).mono ?_;rintro e wA ⟨rfl, hbA⟩;have HLA := H5 ((HL.out.below hb0).below hbA);have HCA := H5 ((aO.bb (S := S.own) hb0).below hbA);have HKA := H5 (hKB.below hbA);have HRA := H5 (hr0.below hbA hr0.lt);have hsA : w.heap.size < wA.heap.size := HRA.out.lt;have hso : ¬ S.own w.heap.size := by
  exact fun e => absurd (HL.out.qi _ e) (Nat.lt_irrefl _)
 have Hso := H5 hso; clear hso;clear hb0 hr0 hKB hbA;by_cases hk0 : k = 0
 . have hz : aN k = 0 := cS.2 hk0;rw [hz];have HK0 := H5 hk0; clear hk0 hz;go_wp2;refine bodyPost_ret (results_none (by kernel_rfl) _ _ _) rfl ?_;have e : iU S.R i j k hi hj = S.R := by unfold iU; rw [HK0.out, rN Hl.out, tb hi]
   rw [e];exact ⟨rfl, HLA.out, HCA.out⟩
 have hn0 : ¬ aN k = 0 := fun h => hk0 (cS.1 h);obtain ⟨s, hs⟩ : ∃ s, aN k = s := ⟨_, rfl⟩;rw [hs] at hn0 |-;have hb0 : (s == 0) = false := by simpa using hn0
 clear hs hk0;have c1 : wA.cell? ⟨S.lb, 1, none⟩ = some (.slice (some ⟨S.sb, 0, none⟩) 1 1) := HLA.out.one hS;go_wp2;clear hb0 hn0;go_loopw [18] (fun ct_ wr => (ct_ = .int .i64 0 /\ Hid (aE wr S) /\ Hid (aO S.own w wr) /\ Hid (aj wr LA (av kp) k) /\ Hid (aa wr w.heap.size 37 [.bool kp.1, .slice kp.2.1 kp.2.2.1 kp.2.2.2])) \/ (ct_ = .int .i64 1 /\ Hid (aE wr (S.aA (iU S.R i j k hi hj))) /\ Hid (aO S.own w wr))) (fun c _ => 1 - (intOf c).toNat)
 case atStart => exact .inl ⟨rfl, HLA, HCA, HKA, HRA⟩
 case round =>
  clear c1;rcases hrel with ⟨rfl, hL, hC, hKr, hRr⟩ | ⟨rfl, hL, hC⟩
  . skip;have hfn := hL.out.fns.1;have s0 : wr.cell? ⟨S.sb, 0, none⟩ = some (.func (.func 111) #[] #[.pointer (some ⟨S.g, 0, none⟩)]) := hfn 0 (by decide);have s1 : wr.cell? ⟨S.sb, 1, none⟩ = some (.func (.func 112) #[] #[.pointer (some ⟨S.g, 0, none⟩)]) := hfn 1 (by decide);have s2 : wr.cell? ⟨S.sb, 2, none⟩ = some (.func (.func 113) #[] #[.pointer (some ⟨S.g, 0, none⟩)]) := hfn 2 (by decide);have s3 : wr.cell? ⟨S.sb, 3, none⟩ = some (.func (.func 115) #[] #[.pointer (some ⟨S.g, 0, none⟩)]) := hfn 3 (by decide);clear hfn;have hb1 : Below wr.heap.size wr (wr.alloc (.cells #[.func (.func 111) #[] #[.pointer (some ⟨S.g, 0, none⟩)], .func (.func 112) #[] #[.pointer (some ⟨S.g, 0, none⟩)], .func (.func 113) #[] #[.pointer (some ⟨S.g, 0, none⟩)], .func (.func 115) #[] #[.pointer (some ⟨S.g, 0, none⟩)]] 125)) := (Below.refl _ _).alloc (Nat.le_refl _) _;have hK1 := H5 (hKr.out.below hb1);have hR1 := hRr.out.below hb1 hRr.out.lt;have k0 := hR1.cell 0;have k1 := hR1.cell 1;try dsimp only at k0 k1
    have hL1 := H5 (hL.out.below hb1);have hC1 := H5 (hC.out.below hb1);have HB1 := H5 hb1;go_wp2_with fail
    refine (uV S i j (av kp) k LA LB _ hL1.out.sd hi hj hij hK1.out Hl.out HXL.out HYL.out hLab hlen).mono ?_;rintro e w4 ⟨rfl, hL4, hC4⟩;have HL4 := H5 (hL1.out.bU hS hL4 hC4 (by unfold iU; rw [aB]));have HC4 := H5 (hC1.out.trans hC4.qf);clear hL4 hC4 s0 s1 s2 s3;go_wp2;go_roundw
    case rel => exact .inr ⟨by go_num, HL4, HC4⟩
    case measure => simp [intOf]
  . go_wp2;refine bodyPost_end (results_none (by kernel_rfl) _ _ _) rfl ?_;exact ⟨rfl, hL.out, hC.out⟩
theorem y6 (S : cC) (i j : Nat) (kv : Value) (k : Int) (LA LB : Nat) (w : World) (h : aE w S) (hi : i < S.R.length) (hj : j < S.R.length) (hij : i ≠ j) (hK : aj w LA kv k) (hl : S.R[i].xs.length = S.R[j].xs.length) (hxL : ∀ x ∈ S.R[i].xs, ag x.natAbs <= 17592186044415) (hyL : ∀ y ∈ S.R[j].xs, ag y.natAbs <= LB) (hLab : LA + LB <= 17592186044415) (hlen : S.R[i].xs.length <= 4611686018427387903) (hG : S.jE) (hF : S.ym) (hLA2 : LA <= 13194139533312) :
 Calls Tryz.prog 130 #[.pointer (some ⟨S.lb, 0, none⟩), .int .i64 (i : Int), .int .i64 (j : Int), kv] w fun e w' => e = .returned (.tuple #[]) /\ aE w' (S.aA (iU S.R i j k hi hj)) /\ aO S.own w w' := by
 rcases hS : S.two with _ | t
 . exact yw S i j kv k LA LB w h hi hj hij hK hl hxL hyL hLab hlen hS
 . exact (hG t hS).no.elim
theorem zC (S : cC) (i j : Nat) (mp mq mr ms : P4) (a b c d : Int) (LA LB : Nat) (w : World) (h : aE w S) (hi : i < S.R.length) (hj : j < S.R.length) (hij : i ≠ j) (hA : aj w LA (av mp) a) (hB : aj w LA (av mq) b) (hC : aj w LA (av mr) c) (hD : aj w LA (av ms) d) (hl : S.R[i].xs.length = S.R[j].xs.length) (hxL : ∀ x ∈ S.R[i].xs, ag x.natAbs <= LB) (hyL : ∀ y ∈ S.R[j].xs, ag y.natAbs <= LB) (hLab : LA + LB <= 17592186044415) (hlen : S.R[i].xs.length <= 4611686018427387903) (hS : S.two = none) :
 Calls Tryz.prog 131 #[.pointer (some ⟨S.lb, 0, none⟩), .int .i64 (i : Int), .int .i64 (j : Int), .agg #[.bool mp.1, .slice mp.2.1 mp.2.2.1 mp.2.2.2, .bool mq.1, .slice mq.2.1 mq.2.2.1 mq.2.2.2, .bool mr.1, .slice mr.2.1 mr.2.2.1 mr.2.2.2, .bool ms.1, .slice ms.2.1 ms.2.2.1 ms.2.2.2]] w fun e w' => e = .returned (.tuple #[]) /\ aE w' (S.aA (jV S.R i j a b c d hi hj)) /\ aO S.own w w' := by
 have HXL := H5 hxL; clear hxL;have HYL := H5 hyL; clear hyL;have Hl := H5 hl; clear hl;have HI : Hid (aj w LA (av mp) a /\ aj w LA (av mq) b /\ aj w LA (av mr) c /\ aj w LA (av ms) d) := H5 ⟨hA, hB, hC, hD⟩;clear hA hB hC hD;have HL := H5 h; clear h;have Hso : Hid (¬ S.own w.heap.size) := H5 (fun e => absurd (HL.out.qi _ e) (Nat.lt_irrefl _));have hb0 : Below w.heap.size w (w.alloc (.cells #[.bool mp.1, .slice mp.2.1 mp.2.2.1 mp.2.2.2, .bool mq.1, .slice mq.2.1 mq.2.2.1 mq.2.2.2, .bool mr.1, .slice mr.2.1 mr.2.2.1 mr.2.2.2, .bool ms.1, .slice ms.2.1 ms.2.2.1 ms.2.2.2] 138)) := (Below.refl _ _).alloc (Nat.le_refl _) _;have hr0 := aa.new w #[.bool mp.1, .slice mp.2.1 mp.2.2.1 mp.2.2.2, .bool mq.1, .slice mq.2.1 mq.2.2.1 mq.2.2.2, .bool mr.1, .slice mr.2.1 mr.2.2.1 mr.2.2.2, .bool ms.1, .slice ms.2.1 ms.2.2.1 ms.2.2.2] 138;have HLA := H5 (HL.out.below hb0);have HCA := H5 (aO.bb (S := S.own) hb0);have HIA : Hid (aj (w.alloc (.cells #[.bool mp.1, .slice mp.2.1 mp.2.2.1 mp.2.2.2, .bool mq.1, .slice mq.2.1 mq.2.2.1 mq.2.2.2, .bool mr.1, .slice mr.2.1 mr.2.2.1 mr.2.2.2, .bool ms.1, .slice ms.2.1 ms.2.2.1 ms.2.2.2] 138)) LA (av mp) a /\ aj (w.alloc (.cells #[.bool mp.1, .slice mp.2.1 mp.2.2.1 mp.2.2.2, .bool mq.1, .slice mq.2.1 mq.2.2.1 mq.2.2.2, .bool mr.1, .slice mr.2.1 mr.2.2.1 mr.2.2.2, .bool ms.1, .slice ms.2.1 ms.2.2.1 ms.2.2.2] 138)) LA (av mq) b /\ aj (w.alloc (.cells #[.bool mp.1, .slice mp.2.1 mp.2.2.1 mp.2.2.2, .bool mq.1, .slice mq.2.1 mq.2.2.1 mq.2.2.2, .bool mr.1, .slice mr.2.1 mr.2.2.1 mr.2.2.2, .bool ms.1, .slice ms.2.1 ms.2.2.1 ms.2.2.2] 138)) LA (av mr) c /\ aj (w.alloc (.cells #[.bool mp.1, .slice mp.2.1 mp.2.2.1 mp.2.2.2, .bool mq.1, .slice mq.2.1 mq.2.2.1 mq.2.2.2, .bool mr.1, .slice mr.2.1 mr.2.2.1 mr.2.2.2, .bool ms.1, .slice ms.2.1 ms.2.2.1 ms.2.2.2] 138)) LA (av ms) d) := H5 ⟨HI.out.1.below hb0, HI.out.2.1.below hb0, HI.out.2.2.1.below hb0, HI.out.2.2.2.below hb0⟩;have HRA := H5 hr0;have c1 : (w.alloc (.cells #[.bool mp.1, .slice mp.2.1 mp.2.2.1 mp.2.2.2, .bool mq.1, .slice mq.2.1 mq.2.2.1 mq.2.2.2, .bool mr.1, .slice mr.2.1 mr.2.2.1 mr.2.2.2, .bool ms.1, .slice ms.2.1 ms.2.2.1 ms.2.2.2] 138)).cell? ⟨S.lb, 1, none⟩ = some (.slice (some ⟨S.sb, 0, none⟩) 1 1) := HLA.out.one hS;clear hb0 hr0;go_enter Tryz.func131, Tryz.ntmps131;go_wp2;generalize w.alloc (.cells #[.bool mp.1, .slice mp.2.1 mp.2.2.1 mp.2.2.2, .bool mq.1, .slice mq.2.1 mq.2.2.1 mq.2.2.2, .bool mr.1, .slice mr.2.1 mr.2.2.1 mr.2.2.2, .bool ms.1, .slice ms.2.1 ms.2.2.1 ms.2.2.2] 138) = wA at *;go_loopw [15] (fun ct_ wr => (ct_ = .int .i64 0 /\ Hid (aE wr S) /\ Hid (aO S.own w wr) /\ Hid (aj wr LA (av mp) a /\ aj wr LA (av mq) b /\ aj wr LA (av mr) c /\ aj wr LA (av ms) d) /\ Hid (aa wr w.heap.size 138 [.bool mp.1, .slice mp.2.1 mp.2.2.1 mp.2.2.2, .bool mq.1, .slice mq.2.1 mq.2.2.1 mq.2.2.2, .bool mr.1, .slice mr.2.1 mr.2.2.1 mr.2.2.2, .bool ms.1, .slice ms.2.1 ms.2.2.1 ms.2.2.2])) \/ (ct_ = .int .i64 1 /\ Hid (aE wr (S.aA (jV S.R i j a b c d hi hj))) /\ Hid (aO S.own w wr))) (fun c _ => 1 - (intOf c).toNat)
 case atStart => exact .inl ⟨rfl, HLA, HCA, HIA, HRA⟩
 case round =>
  clear c1;rcases hrel with ⟨rfl, hL, hC, hIr, hRr⟩ | ⟨rfl, hL, hC⟩
  . skip;have hfn := hL.out.fns.1;have s0 : wr.cell? ⟨S.sb, 0, none⟩ = some (.func (.func 111) #[] #[.pointer (some ⟨S.g, 0, none⟩)]) := hfn 0 (by decide);have s1 : wr.cell? ⟨S.sb, 1, none⟩ = some (.func (.func 112) #[] #[.pointer (some ⟨S.g, 0, none⟩)]) := hfn 1 (by decide);have s2 : wr.cell? ⟨S.sb, 2, none⟩ = some (.func (.func 113) #[] #[.pointer (some ⟨S.g, 0, none⟩)]) := hfn 2 (by decide);have s3 : wr.cell? ⟨S.sb, 3, none⟩ = some (.func (.func 115) #[] #[.pointer (some ⟨S.g, 0, none⟩)]) := hfn 3 (by decide);clear hfn;have hb1 : Below wr.heap.size wr (wr.alloc (.cells #[.func (.func 111) #[] #[.pointer (some ⟨S.g, 0, none⟩)], .func (.func 112) #[] #[.pointer (some ⟨S.g, 0, none⟩)], .func (.func 113) #[] #[.pointer (some ⟨S.g, 0, none⟩)], .func (.func 115) #[] #[.pointer (some ⟨S.g, 0, none⟩)]] 125)) := (Below.refl _ _).alloc (Nat.le_refl _) _;have hA1 := H5 (hIr.out.1.below hb1);have hB1 := H5 (hIr.out.2.1.below hb1);have hC1' := H5 (hIr.out.2.2.1.below hb1);have hD1 := H5 (hIr.out.2.2.2.below hb1);have hR1 := hRr.out.below hb1 hRr.out.lt;have k0 := hR1.cell 0;have k1 := hR1.cell 1;have k2 := hR1.cell 2;have k3 := hR1.cell 3;have k4 := hR1.cell 4;have k5 := hR1.cell 5;have k6 := hR1.cell 6;have k7 := hR1.cell 7;have hL1 := H5 (hL.out.below hb1);have hC1 := H5 (hC.out.below hb1);have HB1 := H5 hb1;go_wp2_with fail
    refine (vI S i j mp mq mr ms a b c d LA LB _ hL1.out.sd hi hj hij hA1.out hB1.out hC1'.out hD1.out Hl.out HXL.out HYL.out hLab hlen).mono ?_;rintro e w4 ⟨rfl, hL4, hC4⟩;have HL4 := H5 (hL1.out.bU hS hL4 hC4 (by unfold jV; rw [aB, aB]));have HC4 := H5 (hC1.out.trans hC4.qf);clear hL4 hC4 s0 s1 s2 s3;go_wp2;go_roundw
    case rel => exact .inr ⟨by go_num, HL4, HC4⟩
    case measure => simp [intOf]
  . go_wp2;refine bodyPost_end (results_none (by kernel_rfl) _ _ _) rfl ?_;exact ⟨rfl, hL.out, hC.out⟩
theorem Ao (S : cC) (i j : Nat) (mp mq mr ms : P4) (a b c d : Int) (LA LB : Nat) (w : World) (h : aE w S) (hi : i < S.R.length) (hj : j < S.R.length) (hij : i ≠ j) (hA : aj w LA (av mp) a) (hB : aj w LA (av mq) b) (hC : aj w LA (av mr) c) (hD : aj w LA (av ms) d) (hl : S.R[i].xs.length = S.R[j].xs.length) (hxL : ∀ x ∈ S.R[i].xs, ag x.natAbs <= LB) (hyL : ∀ y ∈ S.R[j].xs, ag y.natAbs <= LB) (hLab : LA + LB <= 17592186044415) (hlen : S.R[i].xs.length <= 4611686018427387903) (hG : S.jE) (hF : S.ym) (hLA2 : LA <= 13194139533312) (hdet : a * d - b * c = 1) :
 Calls Tryz.prog 131 #[.pointer (some ⟨S.lb, 0, none⟩), .int .i64 (i : Int), .int .i64 (j : Int), .agg #[.bool mp.1, .slice mp.2.1 mp.2.2.1 mp.2.2.2, .bool mq.1, .slice mq.2.1 mq.2.2.1 mq.2.2.2, .bool mr.1, .slice mr.2.1 mr.2.2.1 mr.2.2.2, .bool ms.1, .slice ms.2.1 ms.2.2.1 ms.2.2.2]] w fun e w' => e = .returned (.tuple #[]) /\ aE w' (S.aA (jV S.R i j a b c d hi hj)) /\ aO S.own w w' := by
 rcases hS : S.two with _ | t
 . exact zC S i j mp mq mr ms a b c d LA LB w h hi hj hij hA hB hC hD hl hxL hyL hLab hlen hS
 . exact (hG t hS).no.elim
end Go.Proofs.YtjjlmfmoihooiaaGreat
