/- Part 4 of 8 of the proof that the law SnfDet returns true for every input of bulk at most 1048576 and leaves its arguments as they were: here the contracts of the functions that it calls, and plain lemmas. -/
import Derived.Test.YtcpjoiffkniccaaGreatDtC
set_option linter.all false
namespace Go.Proofs.YtcpjoiffkniccaaGreat
theorem smTwo (n k l : Nat) (f : Nat -> Int) (hk : k < n) (hl : l < n) (hkl : k ≠ l) (h : ∀ i < n, i ≠ k -> i ≠ l -> f i = 0) : sm n f = f k + f l := by
 have e : sm n f = sm n (fun i => (if i = k then f i else 0) + (if i = k then 0 else f i)) := sm_congr (fun i _ => by split <;> omega);rw [e, sm_add, sm_one k hk (fun i _ hik => if_neg hik), sm_one l hl (fun i hi hil => by
  by_cases hik : i = k
  · exact if_pos hik
  · rw [if_neg hik]; exact h i hi hik hil), if_pos rfl, if_neg (fun e => hkl e.symm)]
abbrev Mx := Nat -> Nat -> Int
def skp (i a : Nat) : Nat := if a < i then a else a + 1
def minor (M : Mx) (i : Nat) : Mx := fun a b => M (skp i a) (b + 1)
def sgn (i : Nat) : Int := if i % 2 = 0 then 1 else -1
theorem sgn_succ (i : Nat) : sgn (i + 1) = - sgn i := by
 unfold sgn
 (repeat' split) <;> first | rfl | omega
def det : Nat -> Mx -> Int
 | 0, _ => 1
 | n + 1, M => sm (n + 1) fun i => sgn i * M i 0 * det n (minor M i)
theorem det_congr : ∀ (n : Nat) {M N : Mx}, (∀ i < n, ∀ j < n, M i j = N i j) -> det n M = det n N
 | 0, _, _, _ => rfl
 | n + 1, M, N, h => by
  unfold det;refine sm_congr fun i hi => ?_;rw [h i hi 0 (by omega), det_congr n (M := minor M i) (N := minor N i) fun a ha b hb => h _ (by unfold skp; split <;> omega) _ (by omega)]
def upd (M : Mx) (k : Nat) (R : Nat -> Int) : Mx := fun a b => if a = k then R b else M a b
theorem minor_upd_same (M : Mx) (k : Nat) (R : Nat -> Int) : minor (upd M k R) k = minor M k := by
 funext a b;unfold minor upd skp;split <;> rw [if_neg (by omega)]
theorem minor_upd_other (M : Mx) (k i : Nat) (R : Nat -> Int) (h : i ≠ k) : minor (upd M k R) i = upd (minor M i) (if k < i then k else k - 1) (fun b => R (b + 1)) := by
 funext a b;unfold minor upd skp;by_cases ha : a < i <;> by_cases hk : k < i <;> simp only [ha, hk, if_true, if_false] <;> split <;> split <;> first | rfl | (exfalso; omega)
theorem det_lin : ∀ (n : Nat) (M : Mx) (k : Nat) (c : Int) (U V : Nat -> Int), k < n -> det n (upd M k fun j => c * U j + V j) = c * det n (upd M k U) + det n (upd M k V)
 | n + 1, M, k, c, U, V, hk => by
  unfold det;rw [<- sm_mul, <- sm_add];refine sm_congr fun i hi => ?_;by_cases h : i = k
  · subst h;rw [minor_upd_same, minor_upd_same, minor_upd_same];simp only [upd, if_pos];generalize det n (minor M i) = d;rw [Int.mul_add, Int.add_mul, <- Int.mul_assoc, <- Int.mul_assoc, Int.mul_comm (sgn i) c];simp only [Int.mul_assoc]
  · rw [minor_upd_other M k i _ h, minor_upd_other M k i _ h, minor_upd_other M k i _ h, det_lin n (minor M i) _ c (fun b => U (b + 1)) (fun b => V (b + 1)) (by split <;> omega)];simp only [upd, if_neg h];rw [Int.mul_add, <- Int.mul_assoc, <- Int.mul_assoc, Int.mul_comm _ c, Int.mul_assoc c]
theorem det_adj : ∀ (n : Nat) (M : Mx) (k : Nat), k + 1 < n -> (∀ j < n, M k j = M (k + 1) j) -> det n M = 0
 | n + 1, M, k, hk, h => by
  unfold det;rw [smTwo (n + 1) k (k + 1) _ (by omega) (by omega) (by omega) fun i hi h1 h2 => ?_]
  · have e : minor M k = minor M (k + 1) ∨ True := .inr trivial;have e2 : det n (minor M k) = det n (minor M (k + 1)) := det_congr n fun a ha b hb => by
     unfold minor skp;by_cases h1 : a < k
     · rw [if_pos h1, if_pos (by omega)]
     · rw [if_neg h1];by_cases h3 : a = k
       · subst h3; rw [if_pos (by omega)]; exact (h (b + 1) (by omega)).symm
       · rw [if_neg (by omega)]
    rw [e2, h 0 (by omega), sgn_succ, Int.neg_mul, Int.neg_mul];omega
  · have : det n (minor M i) = 0 := by
     by_cases hik : i < k
     · refine det_adj n _ (k - 1) (by omega) fun j hj => ?_;unfold minor skp;rw [if_neg (by omega), if_neg (by omega), show k - 1 + 1 = k by omega];exact h (j + 1) (by omega)
     · refine det_adj n _ k (by omega) fun j hj => ?_;unfold minor skp;rw [if_pos (by omega), if_pos (by omega)];exact h (j + 1) (by omega)
    rw [this, Int.mul_zero]
theorem upd_self (M : Mx) (k : Nat) : upd M k (M k) = M := by
 funext a b; unfold upd; split
 · rename_i h; rw [h]
 · rfl
theorem upd_comm (M : Mx) {k l : Nat} (h : k ≠ l) (R R' : Nat -> Int) : upd (upd M k R) l R' = upd (upd M l R') k R := by
 funext a b; unfold upd; (repeat' split) <;> first | rfl | omega
theorem upd_get (M : Mx) (k : Nat) (R : Nat -> Int) : upd M k R k = R := by funext b; simp [upd]
theorem upd_get' (M : Mx) {k l : Nat} (h : l ≠ k) (R : Nat -> Int) : upd M k R l = M l := by funext b; simp [upd, h]
theorem det_add (n : Nat) (M : Mx) (k : Nat) (U V : Nat -> Int) (hk : k < n) : det n (upd M k fun j => U j + V j) = det n (upd M k U) + det n (upd M k V) := by
 have := det_lin n M k 1 U V hk;simpa using this
theorem det_smul (n : Nat) (M : Mx) (k : Nat) (c : Int) (U : Nat -> Int) (hk : k < n) : det n (upd M k fun j => c * U j) = c * det n (upd M k U) := by
 have h := det_lin n M k c U (fun _ => 0) hk;have h0 := det_lin n M k (-1) (fun _ => 0) (fun _ => 0) hk;simp at h h0;rw [h]; omega
theorem det_swap1 (n : Nat) (M : Mx) (k : Nat) (hk : k + 1 < n) (A B : Nat -> Int) : det n (upd (upd M k A) (k + 1) B) = - det n (upd (upd M k B) (k + 1) A) := by
 have z : ∀ C : Nat -> Int, det n (upd (upd M k C) (k + 1) C) = 0 := fun C => det_adj n _ k hk fun j _ => by
  rw [upd_get' _ (by omega), upd_get, upd_get]
 have s := z fun j => A j + B j;rw [det_add n _ _ _ _ hk, upd_comm M (by omega : k ≠ k + 1), upd_comm M (by omega : k ≠ k + 1), det_add n _ _ _ _ (by omega), det_add n _ _ _ _ (by omega),
  <- upd_comm M (by omega : k ≠ k + 1), <- upd_comm M (by omega : k ≠ k + 1), <- upd_comm M (by omega : k ≠ k + 1), <- upd_comm M (by omega : k ≠ k + 1), z A, z B] at s
 omega
theorem det_two : ∀ (d n : Nat) (M : Mx) (k : Nat), k + d + 1 < n -> (∀ j, M k j = M (k + d + 1) j) -> det n M = 0
 | 0, n, M, k, hk, h => det_adj n M k hk fun j _ => h j
 | d + 1, n, M, k, hk, h => by
  have e := det_swap1 n M (k + d + 1) (by omega) (M (k + d + 1)) (M (k + d + 2));rw [upd_self M (k + d + 1), upd_self M (k + d + 2)] at e;rw [e, det_two d n _ k (by omega) fun j => ?_]
  · rfl
  · rw [upd_get' _ (by omega), upd_get' _ (by omega), upd_get' _ (by omega), upd_get];exact h j
theorem det_alike (n : Nat) (M : Mx) {k l : Nat} (hk : k < n) (hl : l < n) (hkl : k ≠ l) (h : ∀ j, M k j = M l j) : det n M = 0 := by
 rcases Nat.lt_or_gt_of_ne hkl with h1 | h1
 · exact det_two (l - k - 1) n M k (by omega) fun j => by rw [show k + (l - k - 1) + 1 = l by omega]; exact h j
 · exact det_two (k - l - 1) n M l (by omega) fun j => by rw [show l + (k - l - 1) + 1 = k by omega]; exact (h j).symm
theorem det_addSum (n : Nat) (M : Mx) (k : Nat) (hk : k < n) (c : Nat -> Int) (hc : c k = 0) : ∀ (m : Nat), m <= n -> ∀ U : Nat -> Int, det n (upd M k fun j => U j + sm m fun l => c l * M l j) = det n (upd M k U)
 | 0, _, U => by simp [sm]
 | m + 1, hm, U => by
  have e : (fun j => U j + sm (m + 1) fun l => c l * M l j) = fun j => c m * M m j + (U j + sm m fun l => c l * M l j) := by
   funext j;show U j + (sm m (fun l => c l * M l j) + c m * M m j) = c m * M m j + (U j + sm m (fun l => c l * M l j));generalize c m * M m j = z;omega
  rw [e, det_lin n M k _ _ _ hk, det_addSum n M k hk c hc m (by omega) U];by_cases hmk : m = k
  · rw [hmk, hc, Int.zero_mul, Int.zero_add]
  · rw [det_alike n (upd M k (M m)) hk (by omega) (fun e => hmk e.symm) fun j => by rw [upd_get, upd_get' _ hmk]];rw [Int.mul_zero, Int.zero_add]
theorem det_swap (n : Nat) (M : Mx) {k l : Nat} (hk : k < n) (hl : l < n) (hkl : k ≠ l) (A B : Nat -> Int) : det n (upd (upd M k A) l B) = - det n (upd (upd M k B) l A) := by
 have z : ∀ C : Nat -> Int, det n (upd (upd M k C) l C) = 0 := fun C => det_alike n _ hk hl hkl fun j => by
  rw [upd_get' _ hkl, upd_get, upd_get]
 have s := z fun j => A j + B j;rw [det_add n _ _ _ _ hl, upd_comm M hkl, upd_comm M hkl, det_add n _ _ _ _ hk, det_add n _ _ _ _ hk, <- upd_comm M hkl, <- upd_comm M hkl, <- upd_comm M hkl, <- upd_comm M hkl, z A, z B] at s;omega
theorem det_sum (n : Nat) (M : Mx) (k : Nat) (hk : k < n) (c : Nat -> Int) (R : Nat -> Nat -> Int) : ∀ m, det n (upd M k fun j => sm m fun l => c l * R l j) = sm m fun l => c l * det n (upd M k (R l))
 | 0 => by
  have := det_smul n M k 0 (fun _ => 0) hk;simpa [sm] using this
 | m + 1 => by
  have e : (fun j => sm (m + 1) fun l => c l * R l j) = fun j => c m * R m j + sm m fun l => c l * R l j := by
   funext j; simp only [sm]; omega
  rw [e, det_lin n M k _ _ _ hk, det_sum n M k hk c R m];simp only [sm]; omega
theorem onto (n : Nat) (f : Nat -> Nat) (hf : ∀ i < n, f i < n) (hi : ∀ i < n, ∀ j < n, f i = f j -> i = j) (k : Nat) (hk : k < n) : ∃ i < n, f i = k := by
 refine Classical.byContradiction fun hc => ?_;have hne : ∀ i < n, f i ≠ k := fun i h e => hc ⟨i, h, e⟩;obtain ⟨m, rfl⟩ : ∃ m, n = m + 1 := ⟨n - 1, by omega⟩;obtain ⟨i, j, h1, h2, h3⟩ := pigeon m (fun i => if f i < k then f i else f i - 1) (fun i h => by
  have := hf i (by omega); have := hne i (by omega);show (if f i < k then f i else f i - 1) < m;split <;> omega)
 have h4 : f i = f j := by
  have a := hne i (by omega); have b := hne j (by omega);have h3 : (if f i < k then f i else f i - 1) = (if f j < k then f j else f j - 1) := h3;split at h3 <;> split at h3 <;> omega
 have := hi i (by omega) j (by omega) h4;omega
theorem det_pick (n : Nat) (A : Mx) : ∀ (d : Nat) (σ : Nat -> Nat), (∀ i < n, σ i < n) -> (∀ i, i + d < n -> σ i = i) -> d <= n -> det n (fun i => A (σ i)) = 0 ∨ (det n (fun i => A (σ i))).natAbs = (det n A).natAbs
 | 0, σ, _, h, _ => .inr (by rw [det_congr n (M := fun i => A (σ i)) (N := A) fun i hi j _ => by rw [h i (by omega)]])
 | d + 1, σ, h1, h2, hd => by
  by_cases hinj : ∀ i < n, ∀ j < n, σ i = σ j -> i = j
  · obtain ⟨i, hi, he⟩ := onto n σ h1 hinj (n - (d + 1)) (by omega);have hge : n - (d + 1) <= i := by
     refine Nat.le_of_not_lt fun hlt => ?_;have := h2 i (by omega); omega
    by_cases hik : i = n - (d + 1)
    · refine det_pick n A d σ h1 (fun a ha => ?_) (by omega);by_cases e : a = n - (d + 1)
      · have h5 : a = i := e.trans hik.symm;rw [h5, he]; exact hik.symm
      · exact h2 a (by omega)
    · have e : (fun a => A (σ a)) = upd (upd (fun a => A (if a = n - (d + 1) then n - (d + 1) else if a = i then σ (n - (d + 1)) else σ a)) (n - (d + 1)) (A (σ (n - (d + 1))))) i (A (σ i)) := by
       funext a b;unfold upd;by_cases h3 : a = i
       · rw [if_pos h3, h3]
       · rw [if_neg h3];by_cases h4 : a = n - (d + 1)
         · rw [if_pos h4, h4]
         · rw [if_neg h4];show A (σ a) b = A (if a = n - (d + 1) then n - (d + 1) else if a = i then σ (n - (d + 1)) else σ a) b;rw [if_neg h4, if_neg h3]
      have e2 : upd (upd (fun a => A (if a = n - (d + 1) then n - (d + 1) else if a = i then σ (n - (d + 1)) else σ a)) (n - (d + 1)) (A (σ i))) i (A (σ (n - (d + 1)))) = fun a => A (if a = n - (d + 1) then n - (d + 1) else if a = i then σ (n - (d + 1)) else σ a) := by
       funext a b;unfold upd;by_cases h3 : a = i
       · rw [if_pos h3, if_neg (by omega), if_pos h3]
       · rw [if_neg h3];by_cases h4 : a = n - (d + 1)
         · rw [if_pos h4, if_pos h4, he]
         · rw [if_neg h4]
      rw [e, det_swap n _ (by omega) hi (fun h => hik h.symm), e2];have := det_pick n A d (fun a => if a = n - (d + 1) then n - (d + 1) else if a = i then σ (n - (d + 1)) else σ a) (fun a ha => by
       split
       · omega
       · split
         · exact h1 _ (by omega)
         · exact h1 a ha) (fun a ha => by
       split
       · omega
       · rw [if_neg (by omega)]; exact h2 a (by omega)) (by omega)
      rcases this with h | h
      · exact .inl (by rw [h]; rfl)
      · exact .inr (by rw [Int.natAbs_neg]; exact h)
  · refine .inl ?_;simp only [Classical.not_forall] at hinj;obtain ⟨i, hi, j, hj, he, hne⟩ := hinj;exact det_alike n _ hi hj hne fun b => by rw [he]
theorem det_dvd (n : Nat) (A : Mx) : ∀ (k : Nat), k <= n -> ∀ B : Mx, (∀ i < k, Sp n A (B i)) -> (∀ i, k <= i -> i < n -> ∃ l < n, B i = A l) -> det n A ∣ det n B
 | 0, _, B, _, h => by
  have hs : ∀ i, ∃ l, i < n -> l < n /\ B i = A l := fun i => by
   by_cases hi : i < n
   · obtain ⟨l, hl, e⟩ := h i (Nat.zero_le _) hi; exact ⟨l, fun _ => ⟨hl, e⟩⟩
   · exact ⟨0, fun h => absurd h hi⟩
  obtain ⟨σ, hσ⟩ := Classical.axiomOfChoice hs;have e : det n B = det n (fun i => A (σ i)) := det_congr n fun i hi j _ => by rw [(hσ i hi).2]
  rw [e];rcases det_pick n A n σ (fun i hi => (hσ i hi).1) (fun i hi => by omega) (Nat.le_refl _) with h | h
  · rw [h]; exact Int.dvd_zero _
  · exact Int.natAbs_dvd_natAbs.1 (by rw [h]; exact Nat.dvd_refl _)
 | k + 1, hk, B, h1, h2 => by
  obtain ⟨c, hc⟩ := h1 k (by omega);have e : B = upd B k (fun j => sm n fun l => c l * A l j) := by
   funext a b;unfold upd;split
   · rename_i h; rw [h]; exact hc b
   · rfl
  rw [e, det_sum n B k (by omega)];have hd : ∀ l < n, det n A ∣ det n (upd B k (A l)) := fun l hl => det_dvd n A k (by omega) _ (fun i hi => by rw [upd_get' _ (by omega)]; exact h1 i (by omega)) (fun i hi hin => by
   by_cases hik : i = k
   · rw [hik, upd_get]; exact ⟨l, hl, rfl⟩
   · rw [upd_get' _ hik]; exact h2 i (by omega) hin)
  have key : ∀ m, m <= n -> det n A ∣ sm m fun l => c l * det n (upd B k (A l)) := by
   intro m;induction m with
   | zero => intro _; exact Int.dvd_zero _
   | succ m ih => intro hm; exact Int.dvd_add (ih (by omega)) (Int.dvd_mul_of_dvd_right (hd m (by omega)))
  exact key n (Nat.le_refl _)
theorem det_lattice (n : Nat) {A B : Mx} (h : SpEq n A n B) : (det n A).natAbs = (det n B).natAbs :=
 Nat.dvd_antisymm (Int.natAbs_dvd_natAbs.2 (det_dvd n A n (Nat.le_refl _) B h.2 (fun i h1 h2 => by omega))) (Int.natAbs_dvd_natAbs.2 (det_dvd n B n (Nat.le_refl _) A h.1 (fun i h1 h2 => by omega)))
def prodN : Nat -> (Nat -> Nat) -> Nat
 | 0, _ => 1
 | n + 1, f => prodN n f * f n
theorem prodN_congr : ∀ (n : Nat) {f g : Nat -> Nat}, (∀ i < n, f i = g i) -> prodN n f = prodN n g
 | 0, _, _, _ => rfl
 | n + 1, f, g, h => by unfold prodN; rw [prodN_congr n (fun i hi => h i (by omega)), h n (by omega)]
theorem prodN_skip : ∀ (n : Nat) (f : Nat -> Nat) (m : Nat), m <= n -> prodN (n + 1) f = f m * prodN n fun a => f (skp m a)
 | 0, f, m, hm => by
  obtain rfl : m = 0 := by omega
  simp [prodN]
 | n + 1, f, m, hm => by
  by_cases e : m = n + 1
  · subst e;have : prodN (n + 1) (fun a => f (skp (n + 1) a)) = prodN (n + 1) f := prodN_congr _ fun i hi => by unfold skp; rw [if_pos hi]
    rw [this, Nat.mul_comm]; rfl
  · have ih := prodN_skip n f m (by omega);show prodN (n + 1) f * f (n + 1) = f m * (prodN n (fun a => f (skp m a)) * f (skp m n));rw [ih, show skp m n = n + 1 by unfold skp; rw [if_neg (by omega)], Nat.mul_assoc]
theorem det_leads : ∀ (n : Nat) (M : Mx) (p : Nat -> Nat), (∀ i < n, p i < n) -> (∀ i < n, ∀ j < n, p i = p j -> i = j) -> (∀ i < n, ∀ j, j < p i -> M i j = 0) -> (det n M).natAbs = prodN n fun i => (M i (p i)).natAbs
 | 0, _, _, _, _, _ => rfl
 | n + 1, M, p, h1, h2, h3 => by
  obtain ⟨m, hm, he⟩ := onto (n + 1) p h1 h2 0 (by omega);have hpos : ∀ i < n + 1, i ≠ m -> 0 < p i := fun i hi hne => Nat.pos_of_ne_zero fun e => hne (h2 i hi m hm (e.trans he.symm));have hsk : ∀ a < n, skp m a < n + 1 /\ skp m a ≠ m := fun a ha => by unfold skp; split <;> constructor <;> omega
  unfold det;rw [sm_one m hm fun i hi hne => by rw [h3 i hi 0 (hpos i hi hne)]; simp];have ih := det_leads n (minor M m) (fun a => p (skp m a) - 1) (fun a ha => by have := h1 _ (hsk a ha).1; have := hpos _ (hsk a ha).1 (hsk a ha).2; omega) (fun a ha b hb e => by
   have h4 := hpos _ (hsk a ha).1 (hsk a ha).2; have h5 := hpos _ (hsk b hb).1 (hsk b hb).2;have h6 := h2 _ (hsk a ha).1 _ (hsk b hb).1 (by omega);unfold skp at h6; split at h6 <;> split at h6 <;> omega) (fun a ha j hj => h3 _ (hsk a ha).1 (j + 1) (by omega))
  rw [Int.natAbs_mul, Int.natAbs_mul, ih, prodN_skip n _ m (by omega), he];have hs : (sgn m).natAbs = 1 := by unfold sgn; split <;> rfl
  rw [hs, Nat.one_mul];congr 1;exact prodN_congr n fun a ha => by
   have h4 := hpos _ (hsk a ha).1 (hsk a ha).2;unfold minor;rw [show p (skp m a) - 1 + 1 = p (skp m a) by omega]
def prodZ : Nat -> (Nat -> Int) -> Int
 | 0, _ => 1
 | n + 1, f => prodZ n f * f n
theorem prodZ_abs : ∀ (n : Nat) (f : Nat -> Int), (prodZ n f).natAbs = prodN n fun i => (f i).natAbs
 | 0, _ => rfl
 | n + 1, f => by rw [prodZ, Int.natAbs_mul, prodZ_abs n f]; rfl
theorem prodZ_ne : ∀ (n : Nat) {f : Nat -> Int}, (∀ i < n, f i ≠ 0) -> prodZ n f ≠ 0
 | 0, _, _ => Int.one_ne_zero
 | n + 1, f, h => Int.mul_ne_zero (prodZ_ne n fun i hi => h i (by omega)) (h n (by omega))
theorem rest_det (n : Nat) (A R : Mx) (up dn : Nat -> Int) (c : Nat -> Nat -> Int) (h : ∀ i < n, ∀ j, dn i * R i j = up i * A i j + sm i fun t => c i t * R t j) : prodZ n dn * det n R = prodZ n up * det n A := by
 obtain ⟨X, hX⟩ : ∃ X : Nat -> Mx, ∀ k i, X k i = if i < k then R i else A i := ⟨fun k i => if i < k then R i else A i, fun _ _ => rfl⟩;have key : ∀ k, k <= n -> prodZ k dn * det n (X k) = prodZ k up * det n A := by
  intro k;induction k with
  | zero =>
   intro _;have : X 0 = A := by funext i; rw [hX, if_neg (Nat.not_lt_zero i)]
   rw [this]; rfl
  | succ k ih =>
   intro hk;have h1 : X (k + 1) = upd (X k) k (R k) := by
    funext i j;unfold upd;rw [hX, hX];by_cases e : i = k
    · subst e; rw [if_pos (by omega), if_pos rfl]
    · rw [if_neg e];by_cases e2 : i < k
      · rw [if_pos (by omega), if_pos e2]
      · rw [if_neg (by omega), if_neg e2]
   have h2 : dn k * det n (X (k + 1)) = up k * det n (X k) := by
    rw [h1, <- det_smul n (X k) k (dn k) (R k) hk];have e : (fun j => dn k * R k j) = fun j => (up k * A k j) + sm k fun t => (if t < k then c k t else 0) * X k t j := by
     funext j;rw [h k hk];congr 1;exact sm_congr fun t ht => by rw [if_pos ht, hX, if_pos ht]
    rw [e, det_addSum n (X k) k hk (fun t => if t < k then c k t else 0) (by rw [if_neg (Nat.lt_irrefl k)]) k (by omega) (fun j => up k * A k j), det_smul n (X k) k (up k) (A k) hk];congr 1;have : upd (X k) k (A k) = X k := by
     have := upd_self (X k) k;rw [hX k k, if_neg (Nat.lt_irrefl k)] at this; exact this
    rw [this]
   rw [prodZ, prodZ, Int.mul_assoc, h2, Int.mul_left_comm, ih (by omega), <- Int.mul_assoc, Int.mul_comm (up k)]
 have := key n (Nat.le_refl n);have e : det n (X n) = det n R := det_congr n fun i hi j _ => by rw [hX, if_pos hi]
 rw [e] at this; exact this
theorem Sp.more {n m : Nat} {E : Mx} {v : Nat -> Int} (h : Sp n E v) (hm : n <= m) : Sp m E v := by
 obtain ⟨x, hx⟩ := h;obtain ⟨d, rfl⟩ : ∃ d, m = n + d := ⟨m - n, by omega⟩;refine ⟨fun k => if k < n then x k else 0, fun j => ?_⟩;rw [hx, sm_split n d, Go.Proofs.YtcpjoiffkniccaaGreat.sm_zero (n := d) (f := fun k => (if n + k < n then x (n + k) else 0) * E (n + k) j) (fun k _ => by rw [if_neg (by omega), Int.zero_mul]), Int.add_zero];exact sm_congr fun k hk => by show x k * E k j = (if k < n then x k else 0) * E k j; rw [if_pos hk]
def tp (A : Mx) : Mx := fun i j => A j i
def updc (M : Mx) (m : Nat) (f : Nat -> Int) : Mx := fun a b => if b = m then f a else M a b
theorem det_colsum : ∀ (n : Nat) (M : Mx) (m : Nat), m < n -> ∀ (c : Nat) (y : Nat -> Int) (F : Nat -> Nat -> Int), det n (updc M m fun a => sm c fun l => y l * F l a) = sm c fun l => y l * det n (updc M m (F l))
 | n + 1, M, 0, _, c, y, F => by
  have hm : ∀ f i, minor (updc M 0 f) i = minor M i := fun f i => by funext a b; unfold minor updc; rw [if_neg (by omega)]
  unfold det;have e : (fun i => sgn i * updc M 0 (fun a => sm c fun l => y l * F l a) i 0 * det n (minor (updc M 0 fun a => sm c fun l => y l * F l a) i)) = fun i => sm c fun l => y l * (sgn i * F l i * det n (minor M i)) := by
   funext i;rw [hm];show sgn i * (if (0 : Nat) = 0 then sm c (fun l => y l * F l i) else M i 0) * det n (minor M i) = _;rw [if_pos rfl, <- sm_mul, <- sm_mul_right];exact sm_congr fun l _ => by rw [Int.mul_left_comm (sgn i), Int.mul_assoc]
  rw [e, sm_comm];refine sm_congr fun l _ => ?_;rw [sm_mul];congr 1
 | n + 1, M, m + 1, h, c, y, F => by
  have hm : ∀ f i, minor (updc M (m + 1) f) i = updc (minor M i) m fun a => f (skp i a) := fun f i => by
   funext a b; unfold minor updc;by_cases e : b = m
   · rw [if_pos (by omega), if_pos e]
   · rw [if_neg (by omega), if_neg e]
  have h0 : ∀ f i, updc M (m + 1) f i 0 = M i 0 := fun f i => if_neg (by omega);unfold det;have e : (fun i => sgn i * updc M (m + 1) (fun a => sm c fun l => y l * F l a) i 0 * det n (minor (updc M (m + 1) fun a => sm c fun l => y l * F l a) i)) = fun i => sm c fun l => y l * (sgn i * M i 0 * det n (updc (minor M i) m fun a => F l (skp i a))) := by
   funext i;rw [hm, h0, det_colsum n (minor M i) m (by omega) c y fun l a => F l (skp i a), <- sm_mul];exact sm_congr fun l _ => by rw [Int.mul_left_comm]
  rw [e, sm_comm];refine sm_congr fun l _ => ?_;rw [sm_mul];congr 1;exact sm_congr fun i _ => by rw [hm, h0]
def Mn (k : Nat) (x : Int) (r c : Nat) (A : Mx) : Prop := ∀ σ τ : Nat -> Nat, (∀ a < k, σ a < r) -> (∀ b < k, τ b < c) -> x ∣ det k fun a b => A (σ a) (τ b)
theorem dvd_sm {x : Int} {f : Nat -> Int} : ∀ m, (∀ l < m, x ∣ f l) -> x ∣ sm m f
 | 0, _ => Int.dvd_zero _
 | m + 1, h => Int.dvd_add (dvd_sm m fun l hl => h l (by omega)) (h m (by omega))
theorem dvd_rows {k r : Nat} {x : Int} {A B : Mx} (h : ∀ σ : Nat -> Nat, (∀ a < k, σ a < r) -> x ∣ det k fun a b => A (σ a) b) (hB : ∀ i < k, Sp r A (B i)) : x ∣ det k B := by
 have key : ∀ m, m <= k -> ∀ N : Mx, (∀ a < m, ∃ i < k, N a = B i) -> (∀ a, m <= a -> a < k -> ∃ i < r, N a = A i) -> x ∣ det k N := by
  intro m;induction m with
  | zero =>
   intro _ N _ h2;have hs : ∀ a, ∃ i, a < k -> i < r /\ N a = A i := fun a => by
    by_cases ha : a < k
    · obtain ⟨i, hi, e⟩ := h2 a (Nat.zero_le _) ha; exact ⟨i, fun _ => ⟨hi, e⟩⟩
    · exact ⟨0, fun q => absurd q ha⟩
   obtain ⟨ρ, hρ⟩ := Classical.axiomOfChoice hs;rw [det_congr k (N := fun a b => A (ρ a) b) fun a ha b _ => by rw [(hρ a ha).2]];exact h ρ fun a ha => (hρ a ha).1
  | succ m ih =>
   intro hm N h1 h2;obtain ⟨i, hi, e⟩ := h1 m (by omega);obtain ⟨y, hy⟩ := hB i hi;have eN : N = upd N m fun b => sm r fun l => y l * A l b := by
    funext a b;unfold upd;split
    · rename_i q; rw [q, e, hy]
    · rfl
   rw [eN, det_sum k N m (by omega) y A];refine dvd_sm r fun l hl => Int.dvd_mul_of_dvd_right (ih (by omega) _ (fun a ha => ?_) fun a ha hk => ?_)
   · obtain ⟨i', hi', e'⟩ := h1 a (by omega);exact ⟨i', hi', by rw [upd_get' N (by omega)]; exact e'⟩
   · by_cases q : a = m
     · exact ⟨l, hl, by rw [q, upd_get]⟩
     · obtain ⟨i', hi', e'⟩ := h2 a (by omega) hk;exact ⟨i', hi', by rw [upd_get' N q]; exact e'⟩
 exact key k (Nat.le_refl _) _ (fun a ha => ⟨a, ha, rfl⟩) fun a h1 h2 => by omega
theorem Mn.rows {k r s c : Nat} {x : Int} {A B : Mx} (h : Mn k x r c A) (hB : ∀ i < s, Sp r A (B i)) : Mn k x s c B := fun σ τ hσ hτ =>
 dvd_rows (A := fun i b => A i (τ b)) (fun ρ hρ => h ρ τ hρ hτ) fun i hi => by
  obtain ⟨y, hy⟩ := hB (σ i) (hσ i hi);exact ⟨y, fun b => hy (τ b)⟩
theorem Mn.cols {k r s c : Nat} {x : Int} {A B : Mx} (h : Mn k x r c A) (hB : ∀ j < s, Sp c (tp A) (tp B j)) : Mn k x r s B := fun σ τ hσ hτ => by
 have key : ∀ m, m <= k -> ∀ N : Mx, (∀ b < m, ∃ j < s, ∀ a, N a b = B (σ a) j) -> (∀ b, m <= b -> b < k -> ∃ j < c, ∀ a, N a b = A (σ a) j) -> x ∣ det k N := by
  intro m;induction m with
  | zero =>
   intro _ N _ h2;have hs : ∀ b, ∃ j, b < k -> j < c /\ ∀ a, N a b = A (σ a) j := fun b => by
    by_cases hb : b < k
    · obtain ⟨j, hj, e⟩ := h2 b (Nat.zero_le _) hb; exact ⟨j, fun _ => ⟨hj, e⟩⟩
    · exact ⟨0, fun q => absurd q hb⟩
   obtain ⟨ρ, hρ⟩ := Classical.axiomOfChoice hs;rw [det_congr k (N := fun a b => A (σ a) (ρ b)) fun a _ b hb => (hρ b hb).2 a];exact h σ ρ hσ fun b hb => (hρ b hb).1
  | succ m ih =>
   intro hm N h1 h2;obtain ⟨j, hj, e⟩ := h1 m (by omega);obtain ⟨y, hy⟩ := hB j hj;have eN : N = updc N m fun a => sm c fun l => y l * A (σ a) l := by
    funext a b;unfold updc;split
    · rename_i q; rw [q, e]; exact hy (σ a)
    · rfl
   rw [eN, det_colsum k N m (by omega) c y fun l a => A (σ a) l];refine dvd_sm c fun l hl => Int.dvd_mul_of_dvd_right (ih (by omega) _ (fun b hb => ?_) fun b hb hk => ?_)
   · obtain ⟨j', hj', e'⟩ := h1 b (by omega);exact ⟨j', hj', fun a => by unfold updc; rw [if_neg (by omega)]; exact e' a⟩
   · by_cases q : b = m
     · exact ⟨l, hl, fun a => by unfold updc; rw [if_pos q]⟩
     · obtain ⟨j', hj', e'⟩ := h2 b (by omega) hk;exact ⟨j', hj', fun a => by unfold updc; rw [if_neg q]; exact e' a⟩
 exact key k (Nat.le_refl _) _ (fun b hb => ⟨τ b, hτ b hb, fun a => rfl⟩) fun b h1 h2 => by omega
def Sm (r c : Nat) (A B : Mx) : Prop := ∀ k x, Mn k x r c A ↔ Mn k x r c B
theorem Sm.refl (r c : Nat) (A : Mx) : Sm r c A A := fun _ _ => Iff.rfl
theorem Sm.trans {r c : Nat} {A B C : Mx} (h : Sm r c A B) (h' : Sm r c B C) : Sm r c A C := fun k x => (h k x).trans (h' k x)
theorem Sm.rows {r c : Nat} {A B : Mx} (h : SpEq r A r B) : Sm r c A B := fun _ _ => ⟨fun q => q.rows h.2, fun q => q.rows h.1⟩
theorem Sm.cols {r c : Nat} {A B : Mx} (h : SpEq c (tp A) c (tp B)) : Sm r c A B := fun _ _ => ⟨fun q => q.cols h.2, fun q => q.cols h.1⟩
def Dgm (d : Nat -> Nat) : Mx := fun i j => if i = j then (d i : Int) else 0
theorem prodN_inj {d : Nat -> Nat} (hd : ∀ a b, a <= b -> d a ∣ d b) : ∀ (k : Nat) (σ : Nat -> Nat), (∀ a < k, ∀ b < k, σ a = σ b -> a = b) -> prodN k d ∣ prodN k fun a => d (σ a)
 | 0, _, _ => Nat.dvd_refl _
 | k + 1, σ, h => by
  obtain ⟨m, hm, hge⟩ : ∃ m, m < k + 1 /\ k <= σ m := by
   refine Classical.byContradiction fun hc => ?_;have hlt : ∀ a < k + 1, σ a < k := fun a ha => Nat.lt_of_not_le fun q => hc ⟨a, ha, q⟩;obtain ⟨i, j, h1, h2, h3⟩ := pigeon k σ fun a ha => hlt a (by omega);have := h i (by omega) j (by omega) h3;omega
  have ih := prodN_inj hd k (fun a => σ (skp m a)) fun a ha b hb e => by
   have := h (skp m a) (by unfold skp; split <;> omega) (skp m b) (by unfold skp; split <;> omega) e;unfold skp at this; split at this <;> split at this <;> omega
  rw [prodN_skip k (fun a => d (σ a)) m (by omega), Nat.mul_comm];exact Nat.mul_dvd_mul ih (hd _ _ hge)
theorem mn_diag {d : Nat -> Nat} (hd : ∀ a b, a <= b -> d a ∣ d b) (k r c : Nat) : Mn k (prodN k d : Nat) r c (Dgm d) := fun σ τ _ _ => by
 by_cases hinj : ∀ a < k, ∀ b < k, σ a = σ b -> a = b
 · have h1 := rest_det k (fun a b => if σ a = τ b then 1 else 0) (fun a b => Dgm d (σ a) (τ b)) (fun a => (d (σ a) : Int)) (fun _ => 1) (fun _ _ => 0) fun i _ j => by
    rw [sm_zero fun t _ => Int.zero_mul _];show 1 * (if σ i = τ j then (d (σ i) : Int) else 0) = d (σ i) * (if σ i = τ j then 1 else 0) + 0;split <;> simp
   have h2 : prodZ k (fun _ => 1) = 1 := by
    have : ∀ m, prodZ m (fun _ => (1 : Int)) = 1 := by
     intro m;induction m with
     | zero => rfl
     | succ m ih => rw [prodZ, ih]; rfl
    exact this k
   rw [h2, Int.one_mul] at h1;rw [h1];refine Int.dvd_mul_of_dvd_left (Int.natAbs_dvd_natAbs.1 ?_);rw [prodZ_abs, Int.natAbs_natCast];have := prodN_inj hd k σ hinj
   rwa [prodN_congr k (f := fun i => ((d (σ i) : Int)).natAbs) (g := fun a => d (σ a)) fun i _ => Int.natAbs_natCast _]
 · simp only [Classical.not_forall] at hinj;obtain ⟨i, hi, j, hj, he, hne⟩ := hinj;rw [det_alike k _ hi hj hne fun b => by rw [he]];exact Int.dvd_zero _
theorem diag_id (d : Nat -> Nat) (k : Nat) : (det k (Dgm d)).natAbs = prodN k d := by
 rw [det_leads k (Dgm d) (fun i => i) (fun i hi => hi) (fun i _ j _ e => e) fun i _ j hj => if_neg (by omega)];exact prodN_congr k fun i _ => by unfold Dgm; rw [if_pos rfl]; exact Int.natAbs_natCast _
theorem det_zrow (n : Nat) (M : Mx) {a : Nat} (ha : a < n) (h : ∀ j < n, M a j = 0) : det n M = 0 := by
 have e : det n M = det n (upd M a fun j => 0 * M a j) := det_congr n fun i _ j hj => by
  unfold upd;by_cases q : i = a
  · rw [if_pos q, q, h j hj]; show (0 : Int) = 0 * M a j; rw [Int.zero_mul]
  · rw [if_neg q]
 rw [e, det_smul n M a 0 (M a) ha, Int.zero_mul]
theorem det_low : ∀ (n : Nat) (M : Mx), (∀ i < n, ∀ j < n, i < j -> M i j = 0) -> (det n M).natAbs = prodN n fun i => (M i i).natAbs
 | 0, _, _ => rfl
 | n + 1, M, h => by
  unfold det;rw [sm_one 0 (by omega) fun i hi hne => by
   rw [det_zrow n (minor M i) (a := 0) (by omega) fun j hj => by
    show M (skp i 0) (j + 1) = 0;rw [show skp i 0 = 0 by unfold skp; rw [if_pos (by omega)]];exact h 0 (by omega) (j + 1) (by omega) (by omega), Int.mul_zero]]
  rw [Int.natAbs_mul, Int.natAbs_mul, det_low n (minor M 0) fun i hi j hj hij => h _ (by unfold skp; split <;> omega) _ (by omega) (by unfold skp; split <;> omega), prodN_skip n _ 0 (by omega)];have : (sgn 0).natAbs = 1 := rfl;rw [this, Nat.one_mul];congr 1
structure Upr (k : Nat) (T : Mx) : Prop where
 out : ∀ i j, k <= i ∨ k <= j -> T i j = 0
 low : ∀ i < k, ∀ j < i, T i j = 0
 pos : ∀ i < k, 0 < T i i
def Pp (T : Mx) (i : Nat) : Nat := prodN i fun a => (T a a).natAbs
theorem Upr.pp {k : Nat} {T : Mx} (h : Upr k T) : ∀ i, i <= k -> 0 < Pp T i
 | 0, _ => Nat.one_pos
 | i + 1, hi => Nat.mul_pos (h.pp i (by omega)) (by show 0 < (T i i).natAbs; have := h.pos i (by omega); omega)
def trn0 (i : Nat) (v : Nat -> Int) : Nat -> Int := fun j => if j < i then v j else 0
section
variable {k k' s w : Nat} {T H : Mx} {l : Nat -> Nat}
theorem Upr.next (h : Upr k T) (hs : k <= s) (hH : Herm k' w H l) (hz : ∀ i, k' <= i -> ∀ j, H i j = 0) (hsp : SpEq s (tp T) k' H) : k' = k /\ (∀ i < k, l i = i) /\ Upr k H := by
 have hout : ∀ i, ∀ j, k <= j -> H i j = 0 := fun i j hj => by
  rcases Nat.lt_or_ge i k' with hi | hi
  · obtain ⟨x, hx⟩ := hsp.2 i hi;rw [hx];exact sm_zero fun t _ => by show x t * T j t = 0; rw [h.out j t (.inl hj), Int.mul_zero]
  · exact hz i hi j
 have hlk : ∀ i < k', l i < k := fun i hi => Nat.lt_of_not_le fun q => by
  have := hH.pos i hi;rw [hout i _ q] at this; omega
 have hge : ∀ i, i < k' -> i <= l i := by
  intro i;induction i with
  | zero => intro _; exact Nat.zero_le _
  | succ i ih => intro hi; have := ih (by omega); have := hH.inc i (i + 1) (by omega) hi; omega
 have h1 : k' <= k := Nat.le_of_not_lt fun q => by have := hge k q; have := hlk k q; omega
 have hdet : (det k (tp T)).natAbs = Pp T k := det_low k (tp T) fun i hi j hj hij => h.low j hj i hij;have h2 : k' = k := by
  refine Classical.byContradiction fun hne => ?_;have hdv := det_dvd k H k (Nat.le_refl _) (tp T) (fun i hi => (hsp.1 i (by omega)).more h1) (fun i h1 h2 => by omega);rw [det_zrow k H (a := k') (by omega) fun j _ => hz k' (Nat.le_refl _) j] at hdv;have := h.pp k (Nat.le_refl _);rw [<- hdet, Int.zero_dvd.1 hdv] at this;exact absurd this (by decide)
 subst h2;have hle : ∀ d i, i + d + 1 = k' -> l i <= i := by
  intro d;induction d with
  | zero => intro i hi; have := hlk i (by omega); omega
  | succ d ih => intro i hi; have := ih (i + 1) (by omega); have := hH.inc i (i + 1) (by omega) (by omega); omega
 have hl : ∀ i < k', l i = i := fun i hi => Nat.le_antisymm (hle (k' - i - 1) i (by omega)) (hge i hi);exact ⟨rfl, hl, ⟨fun i j hij => hij.elim (fun q => hz i q j) (hout i j), fun i hi j hj => hH.zero i hi j (by rw [hl i hi]; exact hj), fun i hi => by have := hH.pos i hi; rwa [hl i hi] at this⟩⟩
theorem Upr.dvd (h : Upr k T) (g : Upr k H) (hs : k <= s) (hsp : SpEq s (tp T) k H) {i : Nat} (hi : i <= k) : Pp H i ∣ Pp T i := by
 obtain ⟨N, hN⟩ : ∃ N : Mx, ∀ a, N a = trn0 i (tp T a) := ⟨_, fun _ => rfl⟩;obtain ⟨K, hK⟩ : ∃ K : Mx, ∀ a, K a = trn0 i (H a) := ⟨_, fun _ => rfl⟩;have hN' : ∀ a j, N a j = if j < i then T j a else 0 := fun a j => by rw [hN]; rfl
 have hK' : ∀ a j, K a j = if j < i then H a j else 0 := fun a j => by rw [hK]; rfl
 have hdv := det_dvd i K i (Nat.le_refl _) N (fun a ha => by
  obtain ⟨x, hx⟩ := hsp.1 a (by omega);refine ⟨x, fun j => ?_⟩;rw [hN'];split
  · rename_i hj;have h1 : T j a = sm k fun t => x t * H t j := hx j;obtain ⟨d, rfl⟩ : ∃ d, k = i + d := ⟨k - i, by omega⟩;rw [h1, sm_split i d, sm_zero (n := d) fun t ht => by rw [g.low (i + t) (by omega) j (by omega), Int.mul_zero], Int.add_zero];exact sm_congr fun t ht => by rw [hK', if_pos hj]
  · rename_i hj;exact (sm_zero fun t _ => by rw [hK', if_neg hj, Int.mul_zero]).symm) (fun a h1 h2 => by omega)
 have hdv := Int.natAbs_dvd_natAbs.2 hdv;rw [det_low i N fun a ha b hb hab => by rw [hN', if_pos hb]; exact h.low b (by omega) a hab,
  det_leads i K (fun a => a) (fun a ha => ha) (fun a _ b _ e => e) fun a ha j hj => by rw [hK', if_pos (by omega)]; exact g.low a (by omega) j hj] at hdv
 rw [prodN_congr i (f := fun a => (K a a).natAbs) (g := fun a => (H a a).natAbs) fun a ha => by rw [hK', if_pos ha], prodN_congr i (f := fun a => (N a a).natAbs) (g := fun a => (T a a).natAbs) fun a ha => by rw [hN', if_pos ha]] at hdv;exact hdv
theorem Upr.diag (h : Upr k T) (g : Upr k H) (hs : k <= s) (hH : Herm k w H l) (hl : ∀ i < k, l i = i) (hsp : SpEq s (tp T) k H) (he : ∀ a < k, H a a = T a a) : ∀ a j, a ≠ j -> H a j = 0 := by
 have hred : ∀ a j, a < j -> j < k -> 0 <= H a j /\ H a j < H j j := fun a j h1 h2 => by
  have := hH.red a j h1 h2
  rwa [hl j h2] at this
 have key : ∀ a, a < k -> ∀ j, a < j -> j < k -> H a j = 0 := by
  intro a;induction a using Nat.strongRecOn with
  | _ a ih =>
   intro ha;obtain ⟨x, hx⟩ := hsp.1 a (by omega);have hx : ∀ j, T j a = sm k fun t => x t * H t j := hx;have hxa : x a = 1 := by
    have h1 := hx a;rw [sm_one a ha fun b hb hne => by
     rcases Nat.lt_or_gt_of_ne hne with q | q
     · rw [ih b q hb a q ha, Int.mul_zero]
     · rw [g.low b hb a q, Int.mul_zero], he a ha] at h1
    have h2 := h.pos a ha;have h3 : x a * T a a = 1 * T a a := by omega
    exact Int.eq_of_mul_eq_mul_right (by omega) h3
   have hj : ∀ n j, j <= n -> a < j -> j < k -> H a j = 0 /\ x j = 0 := by
    intro n;induction n with
    | zero => intro j h1 h2; omega
    | succ n ihn =>
     intro j h1 h2 h3;have h4 := hx j;rw [h.low j h3 a h2, smTwo k a j _ ha h3 (by omega) fun b hb h5 h6 => by
      rcases Nat.lt_or_ge b j with q | q
      · rcases Nat.lt_or_ge b a with q2 | q2
        · rw [ih b q2 hb j (by omega) h3, Int.mul_zero]
        · rw [(ihn b (by omega) (by omega) hb).2, Int.zero_mul]
      · rw [g.low b hb j (by omega), Int.mul_zero], hxa, Int.one_mul] at h4
     have h5 := hred a j h2 h3;have h6 := g.pos j h3;have hx0 : x j = 0 := by
      rcases Int.lt_trichotomy (x j) 0 with q | q | q
      · have : x j * H j j <= (-1) * H j j := Int.mul_le_mul_of_nonneg_right (by omega) (by omega);omega
      · exact q
      · have : 1 * H j j <= x j * H j j := Int.mul_le_mul_of_nonneg_right (by omega) (by omega);omega
     rw [hx0] at h4;exact ⟨by omega, hx0⟩
   exact fun j h1 h2 => (hj j j (Nat.le_refl _) h1 h2).1
 intro a j hne;rcases Nat.lt_or_ge a k with h1 | h1
 · rcases Nat.lt_or_ge j k with h2 | h2
   · rcases Nat.lt_or_gt_of_ne hne with q | q
     · exact key a h1 j q h2
     · exact g.low a h1 j q
   · exact g.out a j (.inr h2)
 · exact g.out a j (.inl h1)
end
def mu (k : Nat) (T : Mx) : Nat := ((List.range (k + 1)).map (Pp T)).sum
theorem sum_le {f g : Nat -> Nat} : ∀ n, (∀ i < n, f i <= g i) -> ((List.range n).map f).sum <= ((List.range n).map g).sum
 | 0, _ => Nat.le_refl _
 | n + 1, h => by
  rw [List.range_succ, List.map_append, List.map_append, List.sum_append, List.sum_append];have h1 := sum_le n fun i hi => h i (by omega);have h2 := h n (by omega);simp only [List.map_cons, List.map_nil, List.sum_cons, List.sum_nil]; omega
theorem sum_lt {f g : Nat -> Nat} {m : Nat} (hm : f m < g m) : ∀ n, m < n -> (∀ i < n, f i <= g i) -> ((List.range n).map f).sum < ((List.range n).map g).sum
 | 0, h, _ => by omega
 | n + 1, h, hle => by
  rw [List.range_succ, List.map_append, List.map_append, List.sum_append, List.sum_append];have h2 := hle n (by omega);simp only [List.map_cons, List.map_nil, List.sum_cons, List.sum_nil];by_cases e : m = n
  · subst e;have h1 := sum_le m fun i hi => hle i (by omega);omega
  · have h1 := sum_lt hm n (by omega) fun i hi => hle i (by omega);omega
theorem Upr.less {k s w : Nat} {T H : Mx} {l : Nat -> Nat} (h : Upr k T) (g : Upr k H) (hs : k <= s) (hH : Herm k w H l) (hl : ∀ i < k, l i = i) (hsp : SpEq s (tp T) k H) : mu k H < mu k T ∨ mu k H <= mu k T /\ ∀ a j, a ≠ j -> H a j = 0 := by
 have hle : ∀ i < k + 1, Pp H i <= Pp T i := fun i hi => Nat.le_of_dvd (h.pp i (by omega)) (h.dvd g hs hsp (by omega));by_cases hall : ∀ i < k + 1, Pp H i = Pp T i
 · refine .inr ⟨sum_le _ hle, h.diag g hs hH hl hsp fun a ha => ?_⟩;have h1 := hall a (by omega);have h2 := hall (a + 1) (by omega);have h2 : Pp H a * (H a a).natAbs = Pp T a * (T a a).natAbs := h2;rw [h1] at h2;have h3 := Nat.eq_of_mul_eq_mul_left (h.pp a (by omega)) h2;have h4 := h.pos a ha;have h5 := g.pos a ha;omega
 · simp only [Classical.not_forall] at hall;obtain ⟨i, hi, hne⟩ := hall;have := hle i hi;exact .inl (sum_lt (m := i) (by omega) _ hi hle)
theorem prodN_get {f : Nat -> Nat} : ∀ (n : Nat), (∀ i < n, 0 < f i) -> ∀ i < n, f i <= prodN n f
 | 0, _, i, hi => by omega
 | n + 1, h, i, hi => by
  have hp : 0 < prodN n f := by
   have : ∀ m, m <= n -> 0 < prodN m f := by
    intro m;induction m with
    | zero => intro _; exact Nat.one_pos
    | succ m ih => intro hm; exact Nat.mul_pos (ih (by omega)) (h m (by omega))
   exact this n (Nat.le_refl _)
  show f i <= prodN n f * f n;by_cases e : i = n
  · subst e; exact Nat.le_mul_of_pos_left _ hp
  · exact Nat.le_trans (prodN_get n (fun i hi => h i (by omega)) i (by omega)) (Nat.le_mul_of_pos_right _ (h n (by omega)))
theorem Upr.bound {k w : Nat} {H : Mx} {l : Nat -> Nat} (g : Upr k H) (hH : Herm k w H l) (hl : ∀ i < k, l i = i) (i j : Nat) : 0 <= H i j /\ (H i j).natAbs <= Pp H k := by
 have hp : ∀ a < k, (H a a).natAbs <= Pp H k := prodN_get k fun a ha => by have := g.pos a ha; omega
 by_cases hi : i < k
 · by_cases hj : j < k
   · rcases Nat.lt_trichotomy i j with h | h | h
     · have h1 := hH.red i j h hj;rw [hl j hj] at h1;have h2 := hp j hj;omega
     · subst h;have := g.pos i hi;exact ⟨by omega, hp i hi⟩
     · rw [g.low i hi j h]; exact ⟨Int.le_refl _, Nat.zero_le _⟩
   · rw [g.out i j (.inr (by omega))]; exact ⟨Int.le_refl _, Nat.zero_le _⟩
 · rw [g.out i j (.inl (by omega))]; exact ⟨Int.le_refl _, Nat.zero_le _⟩
theorem det_bd {B : Nat} : ∀ (n : Nat) (M : Mx), (∀ i j, (M i j).natAbs <= B) -> (det n M).natAbs <= (n * B) ^ n
 | 0, _, _ => Nat.le_refl _
 | n + 1, M, h => by
  unfold det;have h1 : (sm (n + 1) fun i => sgn i * M i 0 * det n (minor M i)).natAbs <= (n + 1) * (B * (n * B) ^ n) := sm_abs fun i _ => by
   rw [Int.natAbs_mul, Int.natAbs_mul, show (sgn i).natAbs = 1 by unfold sgn; split <;> rfl, Nat.one_mul];exact Nat.mul_le_mul (h i 0) (det_bd n (minor M i) fun a b => h _ _)
  refine Nat.le_trans h1 ?_;rw [Nat.pow_succ, Nat.mul_comm ((( n + 1) * B) ^ n), Nat.mul_assoc (n + 1) B];exact Nat.mul_le_mul_left _ (Nat.mul_le_mul_left _ (Nat.pow_le_pow_left (Nat.mul_le_mul_right _ (by omega)) n))
theorem Upr.first {r c k k' : Nat} {A H G : Mx} {l l' : Nat -> Nat} (hH : Herm k c H l) (hz : ∀ i, k <= i -> ∀ j, H i j = 0) (hsp : SpEq r A k H) (hG : Herm k' r G l') (hzG : ∀ i, k' <= i -> ∀ j, G i j = 0) (hspG : SpEq c (tp H) k' G) :
 k' = k /\ (∀ i < k, l' i = i) /\ Upr k G /\ ∃ σ : Nat -> Nat, (∀ a < k, σ a < r) /\ Pp G k <= (det k fun a b => A (σ a) (l b)).natAbs := by
 have hout : ∀ i, ∀ j, k <= j -> G i j = 0 := fun i j hj => by
  rcases Nat.lt_or_ge i k' with hi | hi
  · obtain ⟨x, hx⟩ := hspG.2 i hi;rw [hx];exact sm_zero fun t _ => by show x t * H j t = 0; rw [hz j hj, Int.mul_zero]
  · exact hzG i hi j
 have hlk : ∀ i < k', l' i < k := fun i hi => Nat.lt_of_not_le fun q => by
  have := hG.pos i hi;rw [hout i _ q] at this; omega
 have hge : ∀ i, i < k' -> i <= l' i := by
  intro i;induction i with
  | zero => intro _; exact Nat.zero_le _
  | succ i ih => intro hi; have := ih (by omega); have := hG.inc i (i + 1) (by omega) hi; omega
 have h1 : k' <= k := Nat.le_of_not_lt fun q => by have := hge k q; have := hlk k q; omega
 obtain ⟨N, hN⟩ : ∃ N : Mx, ∀ a, N a = tp H (l a) := ⟨_, fun _ => rfl⟩;have hdetN : (det k N).natAbs = prodN k fun a => (H a (l a)).natAbs := by
  rw [det_low k N fun i hi j hj hij => by rw [hN]; exact hH.zero j hj (l i) (hH.inc i j hij hj)];exact prodN_congr k fun i _ => by rw [hN]; rfl
 have hpos : 0 < prodN k fun a => (H a (l a)).natAbs := by
  have : ∀ m, m <= k -> 0 < prodN m fun a => (H a (l a)).natAbs := by
   intro m;induction m with
   | zero => intro _; exact Nat.one_pos
   | succ m ih => intro hm; exact Nat.mul_pos (ih (by omega)) (by show 0 < (H m (l m)).natAbs; have := hH.pos m (by omega); omega)
  exact this k (Nat.le_refl _)
 have hdv := det_dvd k G k (Nat.le_refl _) N (fun i hi => by rw [hN]; exact (hspG.1 (l i) (hH.lt i hi)).more h1) (fun i h1 h2 => by omega);have h2 : k' = k := by
  refine Classical.byContradiction fun hne => ?_;rw [det_zrow k G (a := k') (by omega) fun j _ => hzG k' (Nat.le_refl _) j] at hdv;rw [<- hdetN, Int.zero_dvd.1 hdv] at hpos;exact absurd hpos (by decide)
 subst h2;have hle : ∀ d i, i + d + 1 = k' -> l' i <= i := by
  intro d;induction d with
  | zero => intro i hi; have := hlk i (by omega); omega
  | succ d ih => intro i hi; have := ih (i + 1) (by omega); have := hG.inc i (i + 1) (by omega) (by omega); omega
 have hl : ∀ i < k', l' i = i := fun i hi => Nat.le_antisymm (hle (k' - i - 1) i (by omega)) (hge i hi);have hU : Upr k' G := ⟨fun i j hij => hij.elim (fun q => hzG i q j) (hout i j), fun i hi j hj => hG.zero i hi j (by rw [hl i hi]; exact hj), fun i hi => by have := hG.pos i hi; rwa [hl i hi] at this⟩;refine ⟨rfl, hl, hU, ?_⟩;obtain ⟨σ, hσ, hne⟩ : ∃ σ : Nat -> Nat, (∀ a < k', σ a < r) /\ det k' (fun a b => A (σ a) (l b)) ≠ 0 := by
  refine Classical.byContradiction fun hc => ?_;have h4 := dvd_rows (k := k') (r := r) (x := 0) (A := fun i b => A i (l b)) (B := fun i b => H i (l b)) (fun σ hσ => by
   by_cases hq : det k' (fun a b => A (σ a) (l b)) = 0
   · rw [hq]; exact Int.dvd_zero _
   · exact absurd ⟨σ, hσ, hq⟩ hc) fun i hi => by
   obtain ⟨x, hx⟩ := hsp.2 i hi;exact ⟨x, fun b => hx (l b)⟩
  have h5 : (det k' fun a b => H a (l b)).natAbs = prodN k' fun a => (H a (l a)).natAbs := det_leads k' (fun a b => H a (l b)) (fun a => a) (fun a ha => ha) (fun a _ b _ e => e) fun a ha j hj => hH.zero a ha (l j) (hH.inc j a hj ha);rw [<- h5, Int.zero_dvd.1 h4] at hpos;exact absurd hpos (by decide)
 refine ⟨σ, hσ, ?_⟩;have h3 : (det k' fun a b => H a (l b)).natAbs = prodN k' fun a => (H a (l a)).natAbs := det_leads k' (fun a b => H a (l b)) (fun a => a) (fun a ha => ha) (fun a _ b _ e => e) fun a ha j hj => hH.zero a ha (l j) (hH.inc j a hj ha);have h4 := det_dvd k' (fun a b => H a (l b)) k' (Nat.le_refl _) (fun a b => A (σ a) (l b)) (fun i hi => by
  obtain ⟨x, hx⟩ := hsp.1 (σ i) (hσ i hi);exact ⟨x, fun b => hx (l b)⟩) (fun i h1 h2 => by omega)
 have h5 : Pp G k' ∣ prodN k' fun a => (H a (l a)).natAbs := by
  have := Int.natAbs_dvd_natAbs.2 hdv
  rwa [hdetN, det_leads k' G (fun a => a) (fun a ha => ha) (fun a _ b _ e => e) fun a ha j hj => hU.low a ha j hj] at this
 have h6 := Int.natAbs_dvd_natAbs.2 h4;rw [h3] at h6;exact Nat.le_of_dvd (Int.natAbs_pos.2 hne) (Nat.dvd_trans h5 h6)
theorem sgn_par {a b : Nat} (h : a % 2 = b % 2) : sgn a = sgn b := by unfold sgn; rw [h]
theorem sgn_mul (a b : Nat) : sgn a * sgn b = sgn (a + b) := by
 unfold sgn;rcases Nat.mod_two_eq_zero_or_one a with h | h <;> rcases Nat.mod_two_eq_zero_or_one b with h' | h' <;> rw [h, h'] <;> simp <;> omega
theorem sm_skp {n p : Nat} (hp : p < n + 1) (g : Nat -> Int) : sm n (fun a => g (skp p a)) = sm (n + 1) fun q => if q = p then 0 else g q := by
 obtain ⟨m, rfl⟩ : ∃ m, n = p + m := ⟨n - p, by omega⟩;rw [sm_split p m, Nat.add_assoc, sm_split p (m + 1), Nat.add_comm m 1, sm_split 1 m];have e1 : sm p (fun a => g (skp p a)) = sm p fun q => if q = p then 0 else g q := sm_congr fun a ha => by
  rw [if_neg (by omega)]; unfold skp; rw [if_pos ha]
 have e2 : sm m (fun k => g (skp p (p + k))) = sm m fun k => if p + (1 + k) = p then 0 else g (p + (1 + k)) := sm_congr fun a ha => by
  rw [if_neg (by omega)]; unfold skp; rw [if_neg (by omega)]; congr 1; omega
 have e3 : (sm 1 fun k => if p + k = p then 0 else g (p + k)) = 0 := by simp [sm]
 rw [e1, e2, e3, Int.zero_add]
def sk2 (p q b : Nat) : Nat := if b < min p q then b else if b + 1 < max p q then b + 1 else b + 2
theorem sk2_comm (p q b : Nat) : sk2 p q b = sk2 q p b := by unfold sk2; rw [Nat.min_comm, Nat.max_comm]
theorem skp_skp (p a b : Nat) : skp p (skp a b) = sk2 p (skp p a) b := by
 unfold sk2 skp;by_cases h1 : a < p
 · simp only [h1, if_true];by_cases h2 : b < a
   · rw [if_pos h2, if_pos (by omega), if_pos (by omega)]
   · rw [if_neg h2];by_cases h3 : b + 1 < p
     · rw [if_pos h3, if_neg (by omega), if_pos (by omega)]
     · rw [if_neg h3, if_neg (by omega), if_neg (by omega)]
 · simp only [h1, if_false];by_cases h2 : b < a
   · rw [if_pos h2];by_cases h3 : b < p
     · rw [if_pos h3, if_pos (by omega)]
     · rw [if_neg h3, if_neg (by omega), if_pos (by omega)]
   · rw [if_neg h2, if_neg (by omega), if_neg (by omega), if_neg (by omega)]
def two2 (n : Nat) (M : Mx) (p q : Nat) : Int := sgn (p + q + n + if q < p then 0 else 1) * M p 0 * M q (n + 1) * det n fun a b => M (sk2 p q a) (b + 1)
theorem det_last : ∀ (n : Nat) (M : Mx), det (n + 1) M = sm (n + 1) fun i => sgn (i + n) * M i n * det n fun a b => M (skp i a) b
 | 0, M => rfl
 | n + 1, M => by
  have h1 : det (n + 2) M = sm (n + 2) fun p => sm (n + 2) fun q => if q = p then 0 else two2 n M p q := by
   rw [det];refine sm_congr fun p hp => ?_;rw [det_last n (minor M p), <- sm_mul, <- sm_skp hp];refine sm_congr fun a ha => ?_;have e : (fun a' b => minor M p (skp a a') b) = fun a' b => M (sk2 p (skp p a) a') (b + 1) := by
    funext a' b;show M (skp p (skp a a')) (b + 1) = _;rw [skp_skp]
   rw [e];unfold two2;generalize det n (fun a' b => M (sk2 p (skp p a) a') (b + 1)) = D;have e2 : sgn (p + skp p a + n + if skp p a < p then 0 else 1) = sgn p * sgn (a + n) := by
    rw [sgn_mul]; refine sgn_par ?_; unfold skp; (repeat' split) <;> omega
   rw [e2];show sgn p * M p 0 * (sgn (a + n) * M (skp p a) (n + 1) * D) = _
   ac_rfl
  have h2 : (sm (n + 2) fun i => sgn (i + (n + 1)) * M i (n + 1) * det (n + 1) fun a b => M (skp i a) b) = sm (n + 2) fun q => sm (n + 2) fun p => if p = q then 0 else two2 n M p q := by
   refine sm_congr fun q hq => ?_;rw [det, <- sm_mul, <- sm_skp hq];refine sm_congr fun a ha => ?_;have e : minor (fun a b => M (skp q a) b) a = fun a' b => M (sk2 (skp q a) q a') (b + 1) := by
    funext a' b;show M (skp q (skp a a')) (b + 1) = _;rw [skp_skp, sk2_comm]
   rw [e];unfold two2;generalize det n (fun a' b => M (sk2 (skp q a) q a') (b + 1)) = D;have e2 : sgn (skp q a + q + n + if q < skp q a then 0 else 1) = sgn (q + (n + 1)) * sgn a := by
    rw [sgn_mul]; refine sgn_par ?_; unfold skp; (repeat' split) <;> omega
   rw [e2]
   ac_rfl
  rw [h1, h2, sm_comm];refine sm_congr fun q _ => sm_congr fun p _ => ?_;by_cases h : q = p
  · rw [if_pos h, if_pos h.symm]
  · rw [if_neg h, if_neg (fun e => h e.symm)]
theorem det_colN : ∀ (n t : Nat) (M : Mx), t < n -> (∀ a, a < n + 1 -> M a t = M a n) -> det (n + 1) M = 0
 | n + 1, 0, M, _, h => by
  have h1 : det (n + 2) M = sm (n + 2) fun p => sm (n + 2) fun q => if q = p then 0 else two2 n M p q := by
   rw [det];refine sm_congr fun p hp => ?_;rw [det_last n (minor M p), <- sm_mul, <- sm_skp hp];refine sm_congr fun a ha => ?_;have e : (fun a' b => minor M p (skp a a') b) = fun a' b => M (sk2 p (skp p a) a') (b + 1) := by
    funext a' b;show M (skp p (skp a a')) (b + 1) = _;rw [skp_skp]
   rw [e];unfold two2;generalize det n (fun a' b => M (sk2 p (skp p a) a') (b + 1)) = D;have e2 : sgn (p + skp p a + n + if skp p a < p then 0 else 1) = sgn p * sgn (a + n) := by
    rw [sgn_mul]; refine sgn_par ?_; unfold skp; (repeat' split) <;> omega
   rw [e2];show sgn p * M p 0 * (sgn (a + n) * M (skp p a) (n + 1) * D) = _
   ac_rfl
  have h2 : (sm (n + 2) fun p => sm (n + 2) fun q => if q = p then 0 else two2 n M p q) = - sm (n + 2) fun p => sm (n + 2) fun q => if q = p then 0 else two2 n M p q := by
   conv => lhs; rw [sm_comm]
   have e : ∀ f : Nat -> Int, - sm (n + 2) f = sm (n + 2) fun i => (-1) * f i := fun f => by rw [sm_mul]; omega
   rw [e];refine sm_congr fun p hp => ?_;rw [<- sm_mul];refine sm_congr fun q hq => ?_;by_cases hpq : p = q
   · rw [if_pos hpq, if_pos hpq.symm]; rfl
   · rw [if_neg hpq, if_neg (fun e => hpq e.symm)];unfold two2;have eD : (fun a b => M (sk2 q p a) (b + 1)) = fun a b => M (sk2 p q a) (b + 1) := by funext a b; rw [sk2_comm]
     rw [eD];generalize det n (fun a b => M (sk2 p q a) (b + 1)) = D;have es : sgn (q + p + n + if p < q then 0 else 1) = - sgn (p + q + n + if q < p then 0 else 1) := by
      rw [<- sgn_succ]; refine sgn_par ?_; (repeat' split) <;> omega
     rw [es, <- h p (by omega), h q (by omega)];rw [Int.neg_mul, Int.neg_mul, Int.neg_mul, Int.neg_one_mul, Int.mul_assoc (sgn _) (M q _), Int.mul_comm (M q _), <- Int.mul_assoc (sgn _)]
  rw [h1]; omega
 | n + 1, t + 1, M, ht, h => by
  rw [det];refine sm_zero fun p hp => ?_;rw [det_colN n t (minor M p) (by omega) fun a ha => h _ (by unfold skp; split <;> omega), Int.mul_zero]
theorem det_block : ∀ (k m : Nat) (M : Mx), (∀ a, k <= a -> a < k + m -> ∀ b < k, M a b = 0) -> det (k + m) M = det k M * det m fun a b => M (k + a) (k + b)
 | 0, m, M, _ => by
  rw [Nat.zero_add];show det m M = 1 * _;rw [Int.one_mul];exact det_congr m fun a _ b _ => by rw [Nat.zero_add, Nat.zero_add]
 | k + 1, m, M, h => by
  rw [show k + 1 + m = k + m + 1 by omega, det, show k + m + 1 = k + 1 + m by omega, sm_split (k + 1) m];have e0 : (sm m fun i => sgn (k + 1 + i) * M (k + 1 + i) 0 * det (k + m) (minor M (k + 1 + i))) = 0 := sm_zero fun i hi => by
   rw [h (k + 1 + i) (by omega) (by omega) 0 (by omega), Int.mul_zero, Int.zero_mul]
  rw [e0, Int.add_zero, det, <- sm_mul_right];refine sm_congr fun i hi => ?_;have e : (det m fun a b => minor M i (k + a) (k + b)) = det m fun a b => M (k + 1 + a) (k + 1 + b) := det_congr m fun a _ b _ => by
   show M (skp i (k + a)) (k + b + 1) = _;unfold skp;rw [if_neg (by omega), show k + a + 1 = k + 1 + a by omega, show k + b + 1 = k + 1 + b by omega]
  rw [det_block k m (minor M i) fun a h1 h2 b hb => h _ (by unfold skp; split <;> omega) (by unfold skp; split <;> omega) _ (by omega), e]
  ac_rfl
theorem det2 (M : Mx) : det 2 M = M 0 0 * M 1 1 - M 1 0 * M 0 1 := by
 simp [det, sm, sgn, minor, skp, Int.neg_mul];omega
def mn (k : Nat) (A : Mx) (nu cs : Nat -> Nat) (i j : Nat) : Int := det (k + 1) fun a b => A (if a < k then nu a else i) (if b < k then cs b else j)
def dn (k : Nat) (A : Mx) (nu cs : Nat -> Nat) : Int := det k fun a b => A (nu a) (cs b)
section
variable {A : Mx} {nu cs : Nat -> Nat} {k : Nat}
theorem mn_lin (k : Nat) (A : Mx) (nu cs : Nat -> Nat) (i : Nat) : ∃ y : Nat -> Int, ∀ j, mn k A nu cs i j = dn k A nu cs * A i j + sm k fun t => y t * A (nu t) j := by
 refine ⟨fun t => sgn (t + k) * det k fun a b => A (if skp t a < k then nu (skp t a) else i) (cs b), fun j => ?_⟩;unfold mn;rw [det_last, sm, Int.add_comm];congr 1
 · have e : (det k fun a b => A (if skp k a < k then nu (skp k a) else i) (if b < k then cs b else j)) = dn k A nu cs := det_congr k fun a ha b hb => by
    have : skp k a = a := by unfold skp; rw [if_pos ha]
    rw [this, if_pos ha, if_pos hb]
   rw [e, if_neg (Nat.lt_irrefl k), if_neg (Nat.lt_irrefl k), show sgn (k + k) = 1 by unfold sgn; rw [if_pos (by omega)], Int.one_mul, Int.mul_comm]
 · refine sm_congr fun t ht => ?_;rw [if_pos ht, if_neg (Nat.lt_irrefl k)];have e : (det k fun a b => A (if skp t a < k then nu (skp t a) else i) (if b < k then cs b else j)) = det k fun a b => A (if skp t a < k then nu (skp t a) else i) (cs b) := det_congr k fun a _ b hb => by rw [if_pos hb]
   rw [e, Int.mul_right_comm]
theorem mn_zero {t : Nat} (ht : t < k) (i : Nat) : mn k A nu cs i (cs t) = 0 := by
 unfold mn;exact det_colN k t _ ht fun a _ => by rw [if_pos ht, if_neg (Nat.lt_irrefl k)]
theorem mn_next : dn (k + 1) A nu cs = mn k A nu cs (nu k) (cs k) := det_congr (k + 1) fun a ha b hb => by
 have e1 : (if a < k then nu a else nu k) = nu a := by split; rfl; rw [show a = k by omega]
 have e2 : (if b < k then cs b else cs k) = cs b := by split; rfl; rw [show b = k by omega]
 rw [e1, e2]
theorem mn_congr {nu' cs' : Nat -> Nat} (h1 : ∀ t < k, nu' t = nu t) (h2 : ∀ t < k, cs' t = cs t) (i j : Nat) : mn k A nu' cs' i j = mn k A nu cs i j := det_congr (k + 1) fun a _ b _ => by
 have e1 : (if a < k then nu' a else i) = if a < k then nu a else i := by split; exact h1 a ‹_›; rfl
 have e2 : (if b < k then cs' b else j) = if b < k then cs b else j := by split; exact h2 b ‹_›; rfl
 rw [e1, e2]
theorem dn_congr {nu' cs' : Nat -> Nat} (h1 : ∀ t < k, nu' t = nu t) (h2 : ∀ t < k, cs' t = cs t) : dn k A nu' cs' = dn k A nu cs := det_congr k fun a ha b hb => by rw [h1 a ha, h2 b hb]
theorem det_rowlin (n : Nat) (M : Mx) {r : Nat} (hr : r < n) (d : Int) (y : Nat -> Int) {m : Nat} (hm : m <= r) : det n (upd M r fun b => d * M r b + sm m fun t => y t * M t b) = d * det n M := by
 have e : (fun b => d * M r b + sm m fun t => y t * M t b) = fun b => d * M r b + sm m fun t => (if t < m then y t else 0) * M t b := by
  funext b; congr 1; exact sm_congr fun t ht => by rw [if_pos ht]
 rw [e, det_addSum n M r hr (fun t => if t < m then y t else 0) (if_neg (by omega)) m (by omega), det_smul n M r d _ hr, upd_self]
theorem mn_syl (h0 : dn k A nu cs ≠ 0) (i j : Nat) : dn k A nu cs * mn (k + 1) A nu cs i j = mn k A nu cs (nu k) (cs k) * mn k A nu cs i j - mn k A nu cs i (cs k) * mn k A nu cs (nu k) j := by
 obtain ⟨col, hcol⟩ : ∃ col : Nat -> Nat, ∀ b, col b = if b < k + 1 then cs b else j := ⟨fun b => if b < k + 1 then cs b else j, fun _ => rfl⟩;obtain ⟨M, hM⟩ : ∃ M : Mx, ∀ a b, M a b = A (if a < k + 1 then nu a else i) (col b) := ⟨fun a b => A (if a < k + 1 then nu a else i) (col b), fun _ _ => rfl⟩;have hN : mn (k + 1) A nu cs i j = det (k + 2) M := det_congr (k + 2) fun a _ b _ => by rw [hM, hcol]
 obtain ⟨y, hy⟩ := mn_lin k A nu cs i;obtain ⟨z, hz⟩ := mn_lin k A nu cs (nu k);have hMt : ∀ t < k, ∀ b, M t b = A (nu t) (col b) := fun t ht b => by rw [hM, if_pos (by omega)]
 have e1 : (fun b => mn k A nu cs i (col b)) = fun b => dn k A nu cs * M (k + 1) b + sm k fun t => y t * M t b := by
  funext b;rw [hy, hM (k + 1), if_neg (by omega)];congr 1;exact sm_congr fun t ht => by rw [hMt t ht]
 have d1 : det (k + 2) (upd M (k + 1) fun b => mn k A nu cs i (col b)) = dn k A nu cs * det (k + 2) M := by
  rw [e1]; exact det_rowlin (k + 2) M (by omega) _ y (by omega)
 obtain ⟨M1, hM1⟩ : ∃ M1, upd M (k + 1) (fun b => mn k A nu cs i (col b)) = M1 := ⟨_, rfl⟩;rw [hM1] at d1;have hM1t : ∀ t < k + 1, ∀ b, M1 t b = M t b := fun t ht b => by rw [<- hM1, upd_get' _ (by omega)]
 have e2 : (fun b => mn k A nu cs (nu k) (col b)) = fun b => dn k A nu cs * M1 k b + sm k fun t => z t * M1 t b := by
  funext b;rw [hz, hM1t k (by omega), hM k, if_pos (by omega)];congr 1;exact sm_congr fun t ht => by rw [hM1t t (by omega), hMt t ht]
 have d2 : det (k + 2) (upd M1 k fun b => mn k A nu cs (nu k) (col b)) = dn k A nu cs * det (k + 2) M1 := by
  rw [e2]; exact det_rowlin (k + 2) M1 (by omega) _ z (Nat.le_refl k)
 obtain ⟨M2, hM2⟩ : ∃ M2, upd M1 k (fun b => mn k A nu cs (nu k) (col b)) = M2 := ⟨_, rfl⟩;rw [hM2, d1] at d2;have r0 : ∀ b, M2 k b = mn k A nu cs (nu k) (col b) := fun b => by rw [<- hM2, upd_get]
 have r1 : ∀ b, M2 (k + 1) b = mn k A nu cs i (col b) := fun b => by rw [<- hM2, upd_get' _ (by omega), <- hM1, upd_get]
 have hb := det_block k 2 M2 fun a h1 h2 b hb => by
  have hc : col b = cs b := by rw [hcol, if_pos (by omega)]
  rcases (by omega : a = k ∨ a = k + 1) with rfl | rfl
  · rw [r0, hc]; exact mn_zero hb _
  · rw [r1, hc]; exact mn_zero hb _
 have hd : det k M2 = dn k A nu cs := det_congr k fun a ha b hb => by
  rw [<- hM2, upd_get' _ (by omega), hM1t a (by omega), hM, if_pos (by omega), hcol, if_pos (by omega)]
 have c0 : col k = cs k := by rw [hcol, if_pos (by omega)]
 have c1 : col (k + 1) = j := by rw [hcol, if_neg (by omega)]
 rw [hb, hd, det2] at d2;simp only [Nat.add_zero] at d2;rw [r0, r0, r1, r1, c0, c1] at d2;rw [hN];exact (Int.eq_of_mul_eq_mul_left h0 d2).symm
structure BrI (n m : Nat) (A : Mx) (c k : Nat) (nu cs : Nat -> Nat) (R : Mx) (d : Int) : Prop where
 kn : k <= n
 cm : c <= m
 lt : ∀ i < n, nu i < n
 inj : ∀ i < n, ∀ j < n, nu i = nu j -> i = j
 inc : ∀ a b, a < b -> b < k -> cs a < cs b
 csl : ∀ t < k, cs t < c
 dE : d = dn k A nu cs
 d0 : d ≠ 0
 row : ∀ i, k <= i -> i < n -> ∀ j < m, R i j = mn k A nu cs (nu i) j
 z : ∀ i, k <= i -> i < n -> ∀ j < c, R i j = 0
 lz : ∀ t < k, ∀ j < cs t, mn t A nu cs (nu t) j = 0
 l0 : ∀ t < k, mn t A nu cs (nu t) (cs t) ≠ 0
end
section
variable {n m : Nat} {A : Mx} {c k : Nat} {nu cs : Nat -> Nat} {R : Mx} {d : Int}
theorem BrI.start {n m : Nat} {A R : Mx} (cs : Nat -> Nat) (hR : ∀ i < n, ∀ j < m, R i j = A i j) : BrI n m A 0 0 (fun i => i) cs R 1 :=
 ⟨Nat.zero_le _, Nat.zero_le _, fun _ h => h, fun _ _ _ _ e => e, fun _ _ _ h => by omega, fun _ h => by omega, rfl, by decide, fun i _ hi j hj => by rw [hR i hi j hj]; simp [mn, det, sm, sgn], fun _ _ _ _ h => by omega, fun _ h => by omega, fun _ h => by omega⟩
theorem BrI.skip (h : BrI n m A c k nu cs R d) (hc : c < m) (h0 : ∀ i, k <= i -> i < n -> R i c = 0) : BrI n m A (c + 1) k nu cs R d :=
 ⟨h.kn, hc, h.lt, h.inj, h.inc, fun t ht => by have := h.csl t ht; omega, h.dE, h.d0, h.row, fun i h1 h2 j hj => by
  rcases (by omega : j < c ∨ j = c) with q | rfl
  · exact h.z i h1 h2 j q
  · exact h0 i h1 h2, h.lz, h.l0⟩
def bsw (k p i : Nat) : Nat := if i = k then p else if i = p then k else i
theorem bsw_lt {n k p i : Nat} (hk : k < n) (hp : p < n) (hi : i < n) : bsw k p i < n := by unfold bsw; (repeat' split) <;> omega
theorem bsw_ge {k p i : Nat} (hp : k <= p) (hi : k <= i) : k <= bsw k p i := by unfold bsw; (repeat' split) <;> omega
theorem bsw_low {k p i : Nat} (hp : k <= p) (hi : i < k) : bsw k p i = i := by unfold bsw; rw [if_neg (by omega), if_neg (by omega)]
theorem bsw_inj {k p i j : Nat} (h : bsw k p i = bsw k p j) : i = j := by unfold bsw at h; (repeat' split at h) <;> omega
theorem BrI.swap {p : Nat} {R' : Mx} (h : BrI n m A c k nu cs R d) (hp : k <= p) (hpn : p < n) (hR : ∀ i, k <= i -> i < n -> ∀ j < m, R' i j = R (bsw k p i) j) : BrI n m A c k (fun i => nu (bsw k p i)) cs R' d := by
 have hk : k < n := by omega
 have hl : ∀ t < k, nu (bsw k p t) = nu t := fun t ht => by rw [bsw_low hp ht]
 refine ⟨h.kn, h.cm, fun i hi => h.lt _ (bsw_lt hk hpn hi), fun i hi j hj e => bsw_inj (h.inj _ (bsw_lt hk hpn hi) _ (bsw_lt hk hpn hj) e), h.inc, h.csl, ?_, h.d0, fun i h1 h2 j hj => ?_, fun i h1 h2 j hj => ?_, fun t ht j hj => ?_, fun t ht => ?_⟩
 · rw [dn_congr (cs' := cs) hl (fun _ _ => rfl)]; exact h.dE
 · rw [hR i h1 h2 j hj, h.row _ (bsw_ge hp h1) (bsw_lt hk hpn h2) j hj, mn_congr (nu := nu) (cs := cs) hl (fun _ _ => rfl)]
 · have := h.cm;rw [hR i h1 h2 j (by omega)]; exact h.z _ (bsw_ge hp h1) (bsw_lt hk hpn h2) j hj
 · rw [mn_congr (nu := nu) (cs := cs) (fun s hs => hl s (by omega)) (fun _ _ => rfl), hl t ht]; exact h.lz t ht j hj
 · rw [mn_congr (nu := nu) (cs := cs) (fun s hs => hl s (by omega)) (fun _ _ => rfl), hl t ht]; exact h.l0 t ht
def nxt (cs : Nat -> Nat) (k c : Nat) : Nat -> Nat := fun t => if t = k then c else cs t
theorem nxt_low {t : Nat} (ht : t < k) : nxt cs k c t = cs t := by unfold nxt; rw [if_neg (by omega)]
theorem nxt_at : nxt cs k c k = c := by unfold nxt; rw [if_pos rfl]
theorem BrI.exact (h : BrI n m A c k nu cs R d) (hc : c < m) {i j : Nat} (hi : k < i) (hin : i < n) (hj : j < m) : R k c * R i j - R i c * R k j = d * mn (k + 1) A nu (nxt cs k c) (nu i) j := by
 have hcg : ∀ i j, mn k A nu (nxt cs k c) i j = mn k A nu cs i j := fun i j => mn_congr (fun _ _ => rfl) (fun t ht => nxt_low ht) i j;have hdg : dn k A nu (nxt cs k c) = d := by rw [h.dE]; exact dn_congr (fun _ _ => rfl) (fun t ht => nxt_low ht)
 have := mn_syl (A := A) (nu := nu) (cs := nxt cs k c) (k := k) (by rw [hdg]; exact h.d0) (nu i) j;rw [hdg, nxt_at, hcg, hcg, hcg, hcg] at this;rw [this, h.row k (Nat.le_refl _) (by omega) c hc, h.row i (by omega) hin j hj, h.row i (by omega) hin c hc, h.row k (Nat.le_refl _) (by omega) j hj]
theorem BrI.take {R' : Mx} (h : BrI n m A c k nu cs R d) (hc : c < m) (hk : k < n) (hp : R k c ≠ 0) (hR : ∀ i, k < i -> i < n -> ∀ j < m, R' i j = if c < j then mn (k + 1) A nu (nxt cs k c) (nu i) j else 0) : BrI n m A (c + 1) (k + 1) nu (nxt cs k c) R' (R k c) := by
 have hcg : ∀ i j, mn k A nu (nxt cs k c) i j = mn k A nu cs i j := fun i j => mn_congr (fun _ _ => rfl) (fun t ht => nxt_low ht) i j;have hz : ∀ i, k < i -> i < n -> ∀ j, j <= c -> mn (k + 1) A nu (nxt cs k c) (nu i) j = 0 := fun i h1 h2 j hj => by
  have e := h.exact hc h1 h2 (j := j) (by omega);rcases (by omega : j < c ∨ j = c) with q | rfl
  · rw [h.z i (by omega) h2 j q, h.z k (Nat.le_refl _) hk j q, Int.mul_zero, Int.mul_zero, Int.sub_zero] at e;exact (Int.mul_eq_zero.1 e.symm).resolve_left h.d0
  · rw [Int.mul_comm, Int.sub_self] at e;exact (Int.mul_eq_zero.1 e.symm).resolve_left h.d0
 refine ⟨hk, hc, h.lt, h.inj, fun a b hab hb => ?_, fun t ht => ?_, ?_, hp, fun i h1 h2 j hj => ?_, fun i h1 h2 j hj => ?_, fun t ht j hj => ?_, fun t ht => ?_⟩
 · rcases (by omega : b < k ∨ b = k) with q | rfl
   · rw [nxt_low (by omega), nxt_low q]; exact h.inc a b hab q
   · rw [nxt_low hab, nxt_at]; exact h.csl a hab
 · rcases (by omega : t < k ∨ t = k) with q | rfl
   · rw [nxt_low q]; have := h.csl t q; omega
   · rw [nxt_at]; omega
 · rw [mn_next, nxt_at, hcg]; exact h.row k (Nat.le_refl _) hk c hc
 · rw [hR i (by omega) h2 j hj];split
   · rfl
   · exact (hz i (by omega) h2 j (by omega)).symm
 · rw [hR i (by omega) h2 j (by omega), if_neg (by omega)]
 · rcases (by omega : t < k ∨ t = k) with q | rfl
   · rw [nxt_low q] at hj;rw [mn_congr (nu := nu) (cs := cs) (fun _ _ => rfl) (fun s hs => nxt_low (by omega))]; exact h.lz t q j hj
   · rw [nxt_at] at hj;rw [hcg, <- h.row t (Nat.le_refl _) hk j (by omega)]; exact h.z t (Nat.le_refl _) hk j hj
 · rcases (by omega : t < k ∨ t = k) with q | rfl
   · rw [nxt_low q, mn_congr (nu := nu) (cs := cs) (fun _ _ => rfl) (fun s hs => nxt_low (by omega))]; exact h.l0 t q
   · rw [nxt_at, hcg, <- h.row t (Nat.le_refl _) hk c hc]; exact hp
theorem mn_bd {B : Nat} (hA : ∀ i j, (A i j).natAbs <= B) (k i j : Nat) : (mn k A nu cs i j).natAbs <= ((k + 1) * B) ^ (k + 1) := det_bd (k + 1) _ fun _ _ => hA _ _
theorem BrI.det {s : Int} (h : BrI n n A n n nu cs R d) : d = Go.Proofs.YtcpjoiffkniccaaGreat.det n fun a b => A (nu a) b := by
 have hc : ∀ t < n, cs t = t := by
  intro t ht;have h1 : ∀ s, s < n -> s <= cs s := by
   intro s;induction s with
   | zero => intro _; exact Nat.zero_le _
   | succ s ih => intro hs; have := ih (by omega); have := h.inc s (s + 1) (by omega) hs; omega
  have h2 : ∀ e s, s + e + 1 = n -> cs s <= s := by
   intro e;induction e with
   | zero => intro s hs; have := h.csl s (by omega); omega
   | succ e ih => intro s hs; have := ih (s + 1) (by omega); have := h.inc s (s + 1) (by omega) (by omega); omega
  have := h1 t ht;have := h2 (n - t - 1) t (by omega);omega
 rw [h.dE];exact det_congr n fun a _ b hb => by rw [hc b hb]
theorem BrI.det0 (h : BrI n n A k k nu cs R d) (hk : k < n) (h0 : ∀ i, k <= i -> i < n -> R i k = 0) : (Go.Proofs.YtcpjoiffkniccaaGreat.det n fun a b => A (nu a) b) = 0 := by
 have hc : ∀ t < k, cs t = t := by
  intro t ht;have h1 : ∀ s, s < k -> s <= cs s := by
   intro s;induction s with
   | zero => intro _; exact Nat.zero_le _
   | succ s ih => intro hs; have := ih (by omega); have := h.inc s (s + 1) (by omega) hs; omega
  have h2 : ∀ e s, s + e + 1 = k -> cs s <= s := by
   intro e;induction e with
   | zero => intro s hs; have := h.csl s (by omega); omega
   | succ e ih => intro s hs; have := ih (s + 1) (by omega); have := h.inc s (s + 1) (by omega) (by omega); omega
  have := h1 t ht;have := h2 (k - t - 1) t (by omega);omega
 have hch : ∀ i, ∃ y : Nat -> Int, ∀ j, mn k A nu cs (nu i) j = dn k A nu cs * A (nu i) j + sm k fun t => y t * A (nu t) j := fun i => mn_lin k A nu cs (nu i);obtain ⟨y, hy⟩ := Classical.axiomOfChoice hch;obtain ⟨B, hB⟩ : ∃ B : Mx, ∀ i j, B i j = if i < k then A (nu i) j else mn k A nu cs (nu i) j := ⟨fun i j => if i < k then A (nu i) j else mn k A nu cs (nu i) j, fun _ _ => rfl⟩;have hr := rest_det n (fun a b => A (nu a) b) B (fun i => if i < k then 1 else d) (fun _ => 1) (fun i t => if i < k then 0 else if t < k then y i t else 0) fun i hi j => by
  by_cases q : i < k
  · simp only [q, if_true];rw [hB, if_pos q, sm_zero fun t _ => Int.zero_mul _, Int.add_zero]
  · simp only [q, if_false];rw [hB, if_neg q, hy, Int.one_mul, <- h.dE];congr 1;obtain ⟨e, rfl⟩ : ∃ e, i = k + e := ⟨i - k, by omega⟩;rw [sm_split k e, sm_zero (n := e) fun t _ => by rw [if_neg (by omega), Int.zero_mul], Int.add_zero];exact sm_congr fun t ht => by rw [if_pos ht, hB, if_pos ht]
 obtain ⟨e, rfl⟩ : ∃ e, n = k + (e + 1) := ⟨n - k - 1, by omega⟩;have hb := det_block k (e + 1) B fun a h1 h2 b hb => by rw [hB, if_neg (by omega), <- h.row a h1 h2 b (by omega)]; exact h.z a h1 h2 b hb
 have hz : (Go.Proofs.YtcpjoiffkniccaaGreat.det (e + 1) fun a b => B (k + a) (k + b)) = 0 := by
  rw [Go.Proofs.YtcpjoiffkniccaaGreat.det];exact sm_zero fun a ha => by
   show sgn a * B (k + a) (k + 0) * _ = 0;rw [Nat.add_zero, hB, if_neg (by omega), <- h.row (k + a) (by omega) (by omega) k (by omega), h0 (k + a) (by omega) (by omega), Int.mul_zero, Int.zero_mul]
 rw [hb, hz, Int.mul_zero, Int.mul_zero] at hr;refine (Int.mul_eq_zero.1 hr.symm).resolve_left (prodZ_ne _ fun i hi => ?_);split
 · decide
 · exact h.d0
theorem det_swp {k p : Nat} (hk : k < n) (hp : p < n) (hkp : k ≠ p) (B : Mx) : (Go.Proofs.YtcpjoiffkniccaaGreat.det n fun a b => B (bsw k p a) b) = - Go.Proofs.YtcpjoiffkniccaaGreat.det n B := by
 have e1 : (fun a b => B (bsw k p a) b) = upd (upd B k (B p)) p (B k) := by
  funext a b;unfold bsw upd;by_cases h1 : a = k
  · subst h1; rw [if_pos rfl, if_neg hkp, if_pos rfl]
  · rw [if_neg h1];by_cases h2 : a = p
    · rw [if_pos h2, if_pos h2]
    · rw [if_neg h2, if_neg h2, if_neg h1]
 have e2 : upd (upd B k (B k)) p (B p) = B := by rw [upd_self, upd_self]
 rw [e1, det_swap n B hk hp hkp, e2]
end
theorem br_words {mw k : Nat} (hk : k <= 64) : (k * W ^ mw) ^ k < W ^ (64 * (mw + 1)) := by
 have h1 : k * W ^ mw < W ^ (mw + 1) := by
  rw [Nat.pow_succ, Nat.mul_comm (W ^ mw)];exact Nat.mul_lt_mul_of_pos_right (Nat.lt_of_le_of_lt hk (by unfold W; omega)) (Nat.pow_pos (by unfold W; omega))
 rcases Nat.eq_zero_or_pos k with rfl | h0
 · exact Nat.one_lt_pow (by omega) (by unfold W; omega)
 · refine Nat.lt_of_lt_of_le (Nat.pow_lt_pow_left h1 (by omega)) ?_;rw [<- Nat.pow_mul];exact Nat.pow_le_pow_right (by unfold W; omega) (by rw [Nat.mul_comm]; exact Nat.mul_le_mul_right _ hk)
end Go.Proofs.YtcpjoiffkniccaaGreat
namespace Go.Proofs.YtcpjoiffkniccaaGreat
open Go.RowKit
structure Fld where
 ro : Option Addr
 rc : Nat
 no : Option Addr
 nc : Nat
 gs : List Nat
 E : List (List Int)
 nu : List Nat
 tn : Bool
 lp : P4
 ls : Int
 tk : Nat
def fldC (z : Fld) : List Value := [.slice z.ro z.E.length z.rc, .slice z.no z.E.length z.nc, .bool z.tn, .bool z.lp.1, .slice z.lp.2.1 z.lp.2.2.1 z.lp.2.2.2, .int .i64 (z.tk : Int)]
def inj2 (gs : List Nat) (n : Nat) : Prop := ∀ a b, a < n -> b < n -> gs.getD a 0 = gs.getD b 0 -> a = b
theorem inj2_snoc {gs : List Nat} {n g : Nat} (hl : gs.length = n) (h : inj2 gs n) (hg : ∀ t, t < n -> gs.getD t 0 ≠ g) : inj2 (gs ++ [g]) (n + 1) := fun a b ha hb e => by
 rw [getD_snoc, getD_snoc, hl] at e;by_cases h1 : a < n <;> by_cases h2 : b < n
 · rw [if_pos h1, if_pos h2] at e; exact h a b h1 h2 e
 · rw [if_pos h1, if_neg h2, if_pos (by omega)] at e; exact absurd e (hg a h1)
 · rw [if_neg h1, if_pos (by omega), if_pos h2] at e; exact absurd e.symm (hg b h2)
 · omega
abbrev fldX (gF m : Nat) (z : Fld) : List En := [.row gF 62 (fldC z), .lg 22 1 z.ro z.E.length z.rc (hG m z.gs), .lg 3 1 z.no z.E.length z.nc (iL z.nu), .rwx z.E.length z.gs z.E, .num (av z.lp) z.ls]
def FldF (gF m : Nat) (z : Fld) (w : World) : Prop := (RowAt w gF 62 (fldC z) /\ LgF 22 1 z.ro z.E.length z.rc (hG m z.gs) w /\ LgF 3 1 z.no z.E.length z.nc (iL z.nu) w /\ RwF z.E.length z.gs z.E w /\ NumAt w (av z.lp) z.ls) /\ z.gs.length = z.E.length /\ inj2 z.gs z.E.length
def FldS (gF : Nat) (z : Fld) (g : Nat) : Prop := g = gF ∨ (∃ o, z.ro = some ⟨g, o, none⟩) ∨ (∃ o, z.no = some ⟨g, o, none⟩) ∨ ∃ t, t < z.E.length /\ t ≠ z.E.length /\ g = z.gs.getD t 0
theorem lg_row {te : TypeId} {sz : Nat} {ao : Option Addr} {k cap : Nat} {cs : List Value} {w : World} (h : LgF te sz ao k cap cs w) {b : Nat} (hb : ∃ o, ao = some ⟨b, o, none⟩) : ∃ tl, NoW tl /\ RowAt w b te (cs ++ tl) := by
 obtain ⟨o, hb⟩ := hb;obtain ⟨_, _, ⟨e, _⟩ | ⟨b', tl, e, hn, hr, _⟩⟩ := h
 · rw [hb] at e; cases e
 · rw [hb] at e; cases e; exact ⟨tl, hn, hr⟩
theorem FldF.rows {gF m : Nat} {z : Fld} {w : World} (h : FldF gF m z w) {g : Nat} (hg : FldS gF z g) : ∃ t cs, RowAt w g t cs /\ NoW cs /\ t ≠ 52 := by
 obtain ⟨⟨h1, h2, h3, h4, h5⟩, _⟩ := h;rcases hg with rfl | hg | hg | ⟨t, ht, hx, rfl⟩
 · exact ⟨_, _, h1, NoW.slice (NoW.slice (NoW.bool (NoW.bool (NoW.slice (NoW.i64 NoW.nil))))), by decide⟩
 · obtain ⟨tl, hn, hr⟩ := lg_row h2 hg;exact ⟨_, _, hr, (hG_now m z.gs).append hn, by decide⟩
 · obtain ⟨tl, hn, hr⟩ := lg_row h3 hg;exact ⟨_, _, hr, (iL_now z.nu).append hn, by decide⟩
 · obtain ⟨ps, tl, hn, hr, _⟩ := h4 t ht hx;exact ⟨_, _, hr, NoW.rn hn, by decide⟩
abbrev En.fld (gF m : Nat) (z : Fld) : En := .fact true true (FldS gF z) (FldF gF m z) (fun h g hg => by obtain ⟨t, cs, hr, _⟩ := h.rows hg; exact hr.lt)
 (fun {w w' T} ⟨⟨h1, h2, h3, h4, h5⟩, h6, h7⟩ hc hT hs => by
  refine ⟨⟨hc.row h1 (hs _ (.inl rfl)), ?_, ?_, fun t ht hx => ?_, hc.num (hT rfl).wordless h5⟩, h6, h7⟩
  · exact ⟨h2.1, h2.2.1, h2.2.2.imp id fun ⟨b, tl, e, hn, hr, hl⟩ => ⟨b, tl, e, hn, hc.row hr (hs _ (.inr (.inl ⟨0, e⟩))), hl⟩⟩
  · exact ⟨h3.1, h3.2.1, h3.2.2.imp id fun ⟨b, tl, e, hn, hr, hl⟩ => ⟨b, tl, e, hn, hc.row hr (hs _ (.inr (.inr (.inl ⟨0, e⟩)))), hl⟩⟩
  · obtain ⟨ps, tl, hn, hr, h1', h2'⟩ := h4 t ht hx;exact ⟨ps, tl, hn, hc.row hr (hs _ (.inr (.inr (.inr ⟨t, ht, hx, rfl⟩)))), h1', fun i a => hc.num (hT rfl).wordless (h2' i a)⟩)
theorem Fr.fldO {S0 : Nat -> Prop} {w0 w : World} {es : List En} {gF m : Nat} {z : Fld} (h : Fr S0 w0 w (.fld gF m z :: es)) : Fr S0 w0 w (fldX gF m z ++ es) /\ z.gs.length = z.E.length /\ inj2 z.gs z.E.length := by
 obtain ⟨⟨h1, h2, h3, h4, h5⟩, h6, h7⟩ := (h.m0 : FldF gF m z w);have q12 : ∀ b, (∃ o, z.ro = some ⟨b, o, none⟩) -> b ≠ gF := fun b hb e => by
  obtain ⟨tl, _, hr⟩ := lg_row h2 hb; subst e; exact absurd rfl (hr.ne h1 (by decide))
 have q13 : ∀ b, (∃ o, z.no = some ⟨b, o, none⟩) -> b ≠ gF := fun b hb e => by
  obtain ⟨tl, _, hr⟩ := lg_row h3 hb; subst e; exact absurd rfl (hr.ne h1 (by decide))
 have q14 : ∀ b, (∃ t, t < z.E.length /\ t ≠ z.E.length /\ b = z.gs.getD t 0) -> b ≠ gF := fun b ⟨t, ht, hx, e'⟩ e => by
  obtain ⟨ps, tl, _, hr, _⟩ := h4 t ht hx; rw [<- e', e] at hr; exact absurd rfl (hr.ne h1 (by decide))
 have q23 : ∀ b, (∃ o, z.ro = some ⟨b, o, none⟩) -> ¬ ∃ o, z.no = some ⟨b, o, none⟩ := fun b hb hb' => by
  obtain ⟨tl, _, hr⟩ := lg_row h2 hb; obtain ⟨tl', _, hr'⟩ := lg_row h3 hb'; exact absurd rfl (hr.ne hr' (by decide))
 have q24 : ∀ b, (∃ o, z.ro = some ⟨b, o, none⟩) -> ¬ ∃ t, t < z.E.length /\ t ≠ z.E.length /\ b = z.gs.getD t 0 := fun b hb ⟨t, ht, hx, e'⟩ => by
  obtain ⟨tl, _, hr⟩ := lg_row h2 hb; obtain ⟨ps, tl', _, hr', _⟩ := h4 t ht hx; rw [<- e'] at hr'; exact absurd rfl (hr.ne hr' (by decide))
 have q34 : ∀ b, (∃ o, z.no = some ⟨b, o, none⟩) -> ¬ ∃ t, t < z.E.length /\ t ≠ z.E.length /\ b = z.gs.getD t 0 := fun b hb ⟨t, ht, hx, e'⟩ => by
  obtain ⟨tl, _, hr⟩ := lg_row h3 hb; obtain ⟨ps, tl', _, hr', _⟩ := h4 t ht hx; rw [<- e'] at hr'; exact absurd rfl (hr.ne hr' (by decide))
 refine ⟨h.openE rfl (fun x hx => ?_) ?_, h6, h7⟩
 · simp only [fldX, List.mem_cons, List.mem_nil_iff, or_false] at hx;rcases hx with rfl | rfl | rfl | rfl | rfl
   · exact ⟨h1, fun b e => .inl e⟩
   · exact ⟨h2, fun b e => .inr (.inl e)⟩
   · exact ⟨h3, fun b e => .inr (.inr (.inl e))⟩
   · exact ⟨h4, fun b e => .inr (.inr (.inr e))⟩
   · exact ⟨h5, fun b e => e.elim⟩
 · refine .cons (fun x hx => ?_) (.cons (fun x hx => ?_) (.cons (fun x hx => ?_) (.cons (fun x hx => ?_) (.cons (fun x hx => (List.not_mem_nil hx).elim) .nil))))
   · simp only [List.mem_cons, List.mem_nil_iff, or_false] at hx;rcases hx with rfl | rfl | rfl | rfl
     · exact ⟨fun _ b hb hb' => q12 b hb' hb, fun _ b hb' hb => q12 b hb' hb⟩
     · exact ⟨fun _ b hb hb' => q13 b hb' hb, fun _ b hb' hb => q13 b hb' hb⟩
     · exact ⟨fun _ b hb hb' => q14 b hb' hb, fun _ b hb' hb => q14 b hb' hb⟩
     · exact ⟨fun _ _ _ h => h, fun q => nomatch q⟩
   · simp only [List.mem_cons, List.mem_nil_iff, or_false] at hx;rcases hx with rfl | rfl | rfl
     · exact ⟨fun _ b hb hb' => q23 b hb hb', fun _ b hb' hb => q23 b hb hb'⟩
     · exact ⟨fun _ b hb hb' => q24 b hb hb', fun _ b hb' hb => q24 b hb hb'⟩
     · exact ⟨fun _ _ _ h => h, fun q => nomatch q⟩
   · simp only [List.mem_cons, List.mem_nil_iff, or_false] at hx;rcases hx with rfl | rfl
     · exact ⟨fun _ b hb hb' => q34 b hb hb', fun _ b hb' hb => q34 b hb hb'⟩
     · exact ⟨fun _ _ _ h => h, fun q => nomatch q⟩
   · simp only [List.mem_cons, List.mem_nil_iff, or_false] at hx;rcases hx with rfl;exact ⟨fun _ _ _ h => h, fun q => nomatch q⟩
def rowsE (k c : Nat) (xs : List Int) : List (List Int) := (List.range k).map (rowOf xs c)
theorem rowsE_len (k c : Nat) (xs : List Int) : (rowsE k c xs).length = k := by simp [rowsE]
theorem rowsE_succ (k c : Nat) (xs : List Int) : rowsE (k + 1) c xs = rowsE k c xs ++ [rowOf xs c k] := by simp [rowsE, List.range_succ]
theorem factI {l N : Nat} {P : Program} {n : Nat} {S0 : Nat -> Prop} {w0 : World} {c : Code} {Q : Exit -> Act -> World -> Prop} {ls : List (Nat × Value)} {es : List En} {A : Prop} (hA : ∀ w, Fr S0 w0 w es -> A) (k : A -> CI l N P n S0 w0 c Q ls es) : CI l N P n S0 w0 c Q ls es := fun a w ha hw => k (hA w hw) a w ha hw
structure OfX where
 k : Nat
 ro : Option Addr
 rc : Nat
 no : Option Addr
 nc : Nat
 gs : List Nat
structure OfI (k : Nat) (x : OfX) : Prop where
 hk : x.k = k
 hl : x.gs.length = k
 hi : inj2 x.gs k
set_option maxRecDepth 100000 in
set_option maxHeartbeats 4000000 in
theorem BOf_c (r c nm L cap : Nat) (ao : Option Addr) (xs : List Int) (w : World) (hr : r <= 64) (hc : c <= 64) (hA : LsAt w L ao xs) (hL : L <= 17592186044415) (hs : xs.length = r * c) (hnm : xs.length = nm) (hb : ∀ x ∈ xs, wlen x.natAbs <= 17592186044415) :
 Calls Tryz.prog 26 #[.agg #[.int .i64 (r : Int), .int .i64 (c : Int), .slice ao nm cap]] w fun e w' => ∃ q : Nat × Fld, e = .returned (.pointer (some ⟨q.1, 0, none⟩)) /\ Nw w w' [.fld q.1 c q.2] /\ q.2.E = rowsE r c xs /\ q.2.ls = 1 /\ q.2.tn = false /\ q.2.tk = 0 /\ q.2.nu.length = r := by
 have cL := fun w' (h : LsAt w' L ao xs) => MLines_n r c nm ao cap xs w' hr hc (fun hl => by
  obtain ⟨b, o, e, hlt, hc⟩ := h hl;exact ⟨b, o, e, hlt, fun i hi => by obtain ⟨p, h0, h1, hn⟩ := hc i hi; exact ⟨p, h0, h1, hn.mono hL⟩⟩) hs hnm
 have HC := Lib.hid cL;have HS := Lib.hid (And.intro hs (And.intro hnm hb));clear cL hs hnm hb;refine funMW (S0 := fun _ => False) Tryz.func26 ((Fr.nil _ w).l hA (by simp)) ?_;refine goW ?_;refine rW [] ?_;refine aW fun g1 => ?_;refine dW ?_;refine eW ?_;refine goW ?_;refine rW [] ?_;refine cN (fun w' H => IOf_c 1 w' (by omega) (by omega)) fun p6 => ?_;refine dW ?_;refine aW fun g8 => ?_;refine aW fun g3 => ?_;refine sG ?_;refine eW ?_;refine goW ?_;refine rW [] ?_;refine dW ?_;refine cG (α := (Nat × Nat) × List P4 × List Value) (mk := fun q => .func (.func 60) #[] #[.pointer (some ⟨q.1.1, 0, none⟩)]) (ens := fun q => [.row q.1.1 24 [.int .i64 (r : Int), .int .i64 (c : Int), .slice (some ⟨q.1.2, 0, none⟩) nm nm], .row q.1.2 33 (rn q.2.1 q.2.2), .ns q.2.1 xs, .pr (NoW q.2.2)]) (fun w' H => HC.out w' (H.all (.ls L ao xs) (by simp))) fun q => ?_;refine eW ?_;refine goW ?_;refine prW (A := NoW q.2.2) (by simp) fun hq => ?_;refine lg0W (te := 22) (sz := 1) ?_;refine lg0W (te := 3) (sz := 1) ?_;refine rws0W ?_;refine rangeLW (X := OfX) (gb := q.1.1) (b := q.1.2) (r := r) (c := c) (m := nm) (ps := q.2.1) (tl := q.2.2) (xs := xs) OfI
  (fun x => [.row g8 62 [.slice x.ro x.k x.rc, .slice x.no x.k x.nc, .bool false, .bool p6.1, .slice p6.2.1 p6.2.2.1 p6.2.2.2, .int .i64 0], .lg 22 1 x.ro x.k x.rc (hG c x.gs), .lg 3 1 x.no x.k x.nc (iL (List.range x.k)), .rwx x.k x.gs (rowsE x.k c xs), .row g3 57 [.pointer (some ⟨g8, 0, none⟩)], .own w.heap.size (av p6) 1])
  (fun D x => [.row g8 62 [.slice x.ro x.k x.rc, .slice x.no x.k x.nc, .bool false, .bool p6.1, .slice p6.2.1 p6.2.2.1 p6.2.2.2, .int .i64 0], .lg 22 1 x.ro x.k x.rc (hG c x.gs), .lg 3 1 x.no x.k x.nc (iL (List.range x.k)), .rwx x.k x.gs (rowsE x.k c xs), .row g3 57 [.pointer (some ⟨g8, 0, none⟩)], .own w.heap.size (av p6) 1, .dfr w.heap.size D])
  ⟨0, none, 0, none, 0, []⟩ (fun k g => [(4, .int .i64 (k : Int)), (5, .slice (some ⟨g, 0, none⟩) c c), (3, .pointer (some ⟨g3, 0, none⟩))]) hr hc HS.out.1 HS.out.2.1 HS.out.2.2 hq ⟨rfl, rfl, fun a b ha => absurd ha (Nat.not_lt_zero _)⟩ (fun l k g W => ?_) (fun l k x g qs tk S' W hx hk htk => ?_) (fun D x hx => ?_)
  (fun x => .cons .row .row (.cons .lg (.lg (hG_now _ _)) (.cons .lg (.lg (iL_now _)) (.cons .rwx .rwx (.cons .row .row (.cons .own (.no rfl) .nil))))))
 · refine goI ?_;refine rI [] ?_;refine dW ?_;refine eW ?_;refine goI ?_;refine rI [] ?_;refine dW ?_;refine eW ?_;refine goI ?_;exact asgE
 · obtain ⟨k0, ro, rc, no, nc, gs⟩ := x;obtain ⟨hk0, hgl, hgi⟩ := hx;obtain rfl : k0 = k := hk0
   replace hgl : gs.length = k0 := hgl
   replace hgi : inj2 gs k0 := hgi
   have hk64 : k0 <= 64 := by omega
   have HG := Lib.hid (And.intro hgl hgi);clear hgl hgi;refine goI ?_;refine factI (A := ∀ t, t < k0 -> gs.getD t 0 ≠ g) (fun w' h => by
    have h2 : Fr S' W w' (.row g 33 (rn qs tk) :: .ns qs (rowOf xs c k0) :: .rwx k0 gs (rowsE k0 c xs) :: []) := h.pick (by repeat (first | exact Pk.n | refine Pk.c (by repeat (first | exact Rm.z | apply Rm.s)) ?_));have h3 := (h2.rwsAdd (x' := k0 + 1) (by rw [rowsE_len]; exact HG.out.1) (by rw [rowsE_len]; exact Nat.le_refl _) (by rw [rowsE_len]; omega) htk).2;rw [rowsE_len] at h3; exact h3) fun hne => ?_
   have HN := Lib.hid hne;clear hne;refine rI [[3]] ?_;refine dH ?_;refine dH ?_;refine dH ?_;refine dH ?_;refine dH ?_;refine dH ?_;refine bW (m := 1) fun g19 => ?_;refine appG (k := k0) (cap := rc) (g := g19) (c := 1) (ao := ro) (cs := hG c gs) (v := .slice (some ⟨g, 0, none⟩) c c) Tryz.underlying60 info_S rfl (zc_one (.slice none 0 0) rfl (fun n h => nomatch h)) (by omega) (by omega) rfl ⟨hG_now c gs, by decide⟩ (by simp) fun u => ?_;refine dH ?_;refine dH ?_;refine sW ?_;refine eW ?_;refine goI ?_;refine rI [[5]] ?_;refine dH ?_;refine dH ?_;refine dH ?_;refine dH ?_;refine dH ?_;refine dH ?_;refine bW (m := 1) fun g29 => ?_;refine appG (k := k0) (cap := nc) (g := g29) (c := 1) (ao := no) (cs := iL (List.range k0)) (v := .int .i64 (k0 : Int)) Tryz.underlying47 info_I rfl (zc_one (.int .i64 0) rfl (fun n h => nomatch h)) (by omega) (by omega) rfl ⟨iL_now _, by decide⟩ (by simp) fun v => ?_;refine dH ?_;refine dH ?_;refine sW ?_;refine eW ?_;refine goI ?_;exact rdE (⟨k0 + 1, u.1, u.2, v.1, v.2, gs ++ [g]⟩ : OfX) ⟨rfl, by show (gs ++ [g]).length = _; rw [List.length_append, HG.out.1]; rfl, inj2_snoc HG.out.1 HG.out.2 HN.out⟩ (he := by
    intro w' h;rw [hG_snoc, iL_snoc, show List.range k0 ++ [k0] = List.range (k0 + 1) from List.range_succ.symm] at h;have h2 := h.pick (es' := .row g 33 (rn qs tk) :: .ns qs (rowOf xs c k0) :: .rwx k0 gs (rowsE k0 c xs) :: [.row g8 62 [.slice u.1 (k0 + 1) u.2, .slice v.1 (k0 + 1) v.2, .bool false, .bool p6.1, .slice p6.2.1 p6.2.2.1 p6.2.2.2, .int .i64 0], .lg 22 1 u.1 (k0 + 1) u.2 (hG c (gs ++ [g])), .lg 3 1 v.1 (k0 + 1) v.2 (iL (List.range (k0 + 1))), .row g3 57 [.pointer (some ⟨g8, 0, none⟩)], .own w.heap.size (av p6) 1]) (by repeat (first | exact Pk.n | refine Pk.c (by repeat (first | exact Rm.z | apply Rm.s)) ?_));have h3 := (h2.rwsAdd (x' := k0 + 1) (by rw [rowsE_len]; exact HG.out.1) (by rw [rowsE_len]; exact Nat.le_refl _) (by rw [rowsE_len]; omega) htk).1;rw [<- rowsE_succ] at h3;exact h3.pick (by repeat (first | exact Pk.n | refine Pk.c (by repeat (first | exact Rm.z | apply Rm.s)) ?_)))
 obtain ⟨k0, ro, rc, no, nc, gs⟩ := x;obtain ⟨hk0, hgl, hgi⟩ := hx;obtain rfl : k0 = r := hk0;have HG : Hid (gs.length = k0 /\ inj2 gs k0) := Lib.hid ⟨hgl, hgi⟩;clear hgl hgi;refine goW ?_;refine rW [] ?_;refine dW ?_;refine dW ?_;refine eW ?_;refine goW ?_;refine fin1M (D := D) (es' := [.row g8 62 [.slice ro k0 rc, .slice no k0 nc, .bool false, .bool p6.1, .slice p6.2.1 p6.2.2.1 p6.2.2.2, .int .i64 0], .lg 22 1 ro k0 rc (hG c gs), .lg 3 1 no k0 nc (iL (List.range k0)), .rwx k0 gs (rowsE k0 c xs), .own w.heap.size (av p6) 1]) (fun w' H => ?_) (.cons .row .row (.cons .lg (.lg (hG_now _ _)) (.cons .lg (.lg (iL_now _)) (.cons .rwx .rwx (.cons .own (.no rfl) .nil))))) (by simp);have hE : (rowsE k0 c xs).length = k0 := rowsE_len ..;have hF : FldF g8 c ⟨ro, rc, no, nc, gs, rowsE k0 c xs, List.range k0, false, p6, 1, 0⟩ w' := by
  refine ⟨⟨?_, ?_, ?_, ?_, OwnI.num H.m4⟩, HG.out.1.trans hE.symm, by show inj2 gs (rowsE k0 c xs).length; rw [hE]; exact HG.out.2⟩
  · show RowAt w' g8 _ [.slice ro (rowsE k0 c xs).length rc, .slice no (rowsE k0 c xs).length nc, _, _, _, _];rw [hE]; exact H.m0
  · show LgF _ 1 ro (rowsE k0 c xs).length rc (hG c gs) w';rw [hE]; exact H.m1
  · show LgF _ 1 no (rowsE k0 c xs).length nc (iL (List.range k0)) w';rw [hE]; exact H.m2
  · show RwF (rowsE k0 c xs).length gs _ w';rw [hE]; exact H.m3
 have hS : ∀ b, FldS g8 ⟨ro, rc, no, nc, gs, rowsE k0 c xs, List.range k0, false, p6, 1, 0⟩ b -> w.heap.size <= b := by
  rintro b (e | e | e | ⟨t, ht, _, e⟩)
  · exact (H.own _ (List.mem_cons_self ..) rfl b e).elim (fun h => h.elim) id
  · exact (H.own _ (List.mem_cons_of_mem _ (List.mem_cons_self ..)) rfl b e).elim (fun h => h.elim) id
  · exact (H.own _ (List.mem_cons_of_mem _ (List.mem_cons_of_mem _ (List.mem_cons_self ..))) rfl b e).elim (fun h => h.elim) id
  · exact (H.own _ (List.mem_cons_of_mem _ (List.mem_cons_of_mem _ (List.mem_cons_of_mem _ (List.mem_cons_self ..)))) rfl b ⟨t, ht, by rw [show t = t from rfl]; have := hE; have h : t < (rowsE k0 c xs).length := ht; omega, e⟩).elim (fun h => h.elim) id
 exact ⟨_, rvT, (g8, ⟨ro, rc, no, nc, gs, rowsE k0 c xs, List.range k0, false, p6, 1, 0⟩), rfl, ⟨H.below, fun e he => by rcases List.mem_singleton.1 he with rfl; exact ⟨hF, hS⟩, List.pairwise_singleton ..⟩, rfl, rfl, rfl, rfl, by simp⟩
section
variable {ops : Array Oper} {Q : Exit -> Act -> World -> Prop} {ds : List Deferred} {S0 : Nat -> Prop} {w0 : World} {E0 : List En} {n j s : Nat} {l : List Nat} {G E : List En} {ls : List (Nat × Value)} {ty : TypeId} {pos : String} {af : Array Edge}
set_option maxRecDepth 100000 in
theorem slL {sx sl : Operand} (a : Option Addr) (len cap x : Nat) (v : Value) (hx : x <= len) (hv : sliced a x len cap 1 = v) (k : RWm ds ⟨Tryz.prog, ops, Q, S0, w0, E0, []⟩ n l G E ((s, v) :: ls))
 (ho : ops[j]? = some ⟨some s, .slice 60 sx (some sl) none none, ty, pos, af, none⟩ := by rfl) (hk : (isDet (.slice 60 sx (some sl) none none) && chkO ls (.slice 60 sx (some sl) none none) && Nat.blt s n) = true := by kernel_rfl)
 (h1 : evl ls sx = .slice a len cap := by (simp only [evlN, Nat.reduceEqDiff, ↓reduceIte]) <;> rfl) (h2 : evl ls sl = .int .i64 (x : Int) := by (simp only [evlN, Nat.reduceEqDiff, ↓reduceIte]) <;> rfl) : RWm ds ⟨Tryz.prog, ops, Q, S0, w0, E0, []⟩ n (j :: l) G E ls := by
 refine dW k ho hk fun w _ => ?_;subst hv;have e := run_slice_l (P := Tryz.prog) w 60 a len cap Tryz.underlying60 .i64 (x : Int) (by omega) (by omega);have e2 := run_sliceAt_slice (P := Tryz.prog) w 60 (.slice a len cap) (some (.int .i64 (x : Int))) none none Tryz.underlying60;have e3 : (sizeOf (Tryz.prog.elem 60)).run Tryz.prog w = .ok 1 w := by go_simp <;> rfl
 rw [e3] at e;simp only [Int.toNat_natCast, Result.andThen] at e;simp [execOp, h1, h2, e2, e, Result.andThen]
end
theorem getD_set {α : Type} {l : List α} {i t : Nat} {x d : α} (hi : i < l.length) : (l.set i x).getD t d = if t = i then x else l.getD t d := by
 by_cases h : t = i
 · subst h; simp [hi]
 · rw [if_neg h]; simp [List.getElem?_set_ne (fun e => h e.symm)]
theorem lsw_get {α : Type} {l : List α} {k p t : Nat} {d : α} (hk : k < l.length) (hp : p < l.length) : (lsw l k p d).getD t d = l.getD (bsw k p t) d := by
 unfold lsw bsw;rw [getD_set (by simpa using hk), getD_set hp];by_cases h1 : t = k
 · rw [if_pos h1, if_pos h1]
 · rw [if_neg h1, if_neg h1];by_cases h2 : t = p
   · rw [if_pos h2, if_pos h2]
   · rw [if_neg h2, if_neg h2]
theorem map_lsw {α β : Type} (f : α -> β) {l : List α} {k p : Nat} {d : α} (hk : k < l.length) (hp : p < l.length) (tl : List β) : (((l.map f ++ tl).set p (f (l.getD k d))).set k (f (l.getD p d))) = (lsw l k p d).map f ++ tl := by
 rw [List.set_append_left _ _ (by simpa using hp), List.set_append_left _ _ (by simpa using hk)];congr 1;unfold lsw;rw [List.map_set, List.map_set]
theorem set_self {α : Type} {l : List α} {t : Nat} {d : α} (h : t < l.length) : l.set t (l.getD t d) = l := by
 rw [show l.getD t d = l[t] by simp [h]]; exact List.set_getElem_self h
def mxE (E : List (List Int)) (i j : Nat) : Int := gi (E.getD i []) j
structure StP (n m mw : Nat) (A : Mx) (c k : Nat) (nu cs : Nat -> Nat) (z : Fld) : Prop where
 El : z.E.length = n
 rl : ∀ t < n, (z.E.getD t []).length = m
 nl : z.nu.length = n
 tk : z.tk = k
 br : BrI n m A c k nu cs (mxE z.E) z.ls
 Ab : ∀ i j, (A i j).natAbs <= W ^ mw
 eb : ∀ t < n, ∀ j, wlen (mxE z.E t j).natAbs <= 64 * (mw + 1)
 lb : wlen z.ls.natAbs <= 64 * (mw + 1)
def StR (n m mw : Nat) (A : Mx) (c k : Nat) (nu cs : Nat -> Nat) (z : Fld) (b : Bool) (z' : Fld) : Prop :=
 (b = false /\ z' = z /\ StP n m mw A (c + 1) k nu cs z' /\ ∀ i, k <= i -> i < n -> mxE z.E i c = 0) ∨
 (b = true /\ k < n /\ ∃ nu', StP n m mw A (c + 1) (k + 1) nu' (nxt cs k c) z' /\ ((z'.tn = z.tn /\ nu' = nu) ∨ (z'.tn = !z.tn /\ ∃ p, k < p /\ p < n /\ nu' = fun i => nu (bsw k p i))))
theorem StP.skip {n m mw c k : Nat} {A : Mx} {nu cs : Nat -> Nat} {z : Fld} (h : StP n m mw A c k nu cs z) (hc : c < m) (h0 : ∀ i, k <= i -> i < n -> mxE z.E i c = 0) : StP n m mw A (c + 1) k nu cs z :=
 ⟨h.El, h.rl, h.nl, h.tk, h.br.skip hc h0, h.Ab, h.eb, h.lb⟩
theorem Fr.fldS {gF m : Nat} {z : Fld} {w : World} (h : FldF gF m z w) : Fr (FldS gF z) w w [.fld gF m z] :=
 ⟨Chg.refl _ _, fun e he => by rcases List.mem_singleton.1 he with rfl; exact h, List.pairwise_singleton .., fun e he _ b hb => by rcases List.mem_singleton.1 he with rfl; exact .inl hb⟩
theorem zs0 {x : Int} (h : x = 0) : zsign x = 0 := by subst h; rfl
theorem zs1 {x : Int} (h : x ≠ 0) : ¬ zsign x = 0 := fun e => h (by unfold zsign at e; (repeat' split at e) <;> omega)
set_option maxRecDepth 100000 in
set_option maxHeartbeats 1000000 in
theorem BStep_0 (gF m c k mw : Nat) (z : Fld) (A : Mx) (nu cs : Nat -> Nat) (w : World) (hc : c < m) (hI : StP 0 m mw A c k nu cs z) (h : FldF gF m z w) :
 Calls Tryz.prog 27 #[.pointer (some ⟨gF, 0, none⟩), .int .i64 (c : Int)] w fun e w' => ∃ (b : Bool) (z' : Fld), e = .returned (.bool b) /\ Chg (FldS gF z) w w' /\ FldF gF m z' w' /\ (∀ g, FldS gF z' g -> FldS gF z g ∨ w.heap.size <= g) /\ StR 0 m mw A c k nu cs z b z' := by
 have HR : Hid (StR 0 m mw A c k nu cs z false z) := Lib.hid (.inl ⟨rfl, rfl, hI.skip hc fun i _ h => absurd h (Nat.not_lt_zero _), fun i _ h => absurd h (Nat.not_lt_zero _)⟩);have hk : k = 0 := by have := hI.br.kn; omega
 have El := hI.El;have tk := hI.tk;have HF := Lib.hid h;obtain ⟨ro, rc, no, nc, gs, E, nul, tn, lp, ls, tk'⟩ := z
 replace El : E.length = 0 := El
 replace tk : tk' = k := tk
 subst hk tk;have hcl : ∀ i v, (fldC ⟨ro, rc, no, nc, gs, E, nul, tn, lp, ls, 0⟩)[i]? = some v -> w.cell? ⟨gF, i, none⟩ = some v := fun i v hv => by rw [h.1.1.cell]; exact hv
 have c0 : w.cell? ⟨gF, 0, none⟩ = some (.slice ro 0 rc) := hcl 0 _ (by show some (Value.slice ro E.length rc) = _; rw [El]);have c5 : w.cell? ⟨gF, 5, none⟩ = some (.int .i64 0) := hcl 5 _ rfl;clear hI h hcl;have HA : Fr (fun _ => False) w w [.cell ⟨gF, 0, none⟩ (.slice ro 0 rc), .cell ⟨gF, 5, none⟩ (.int .i64 0)] := Fr.cl (Fr.cl (Fr.nil _ w) c5 (by simp [En.wr])) c0 (by simp [En.wr]);have fin : ∀ w', Below w.heap.size w w' -> ∃ (z' : Fld), Chg (FldS gF ⟨ro, rc, no, nc, gs, E, nul, tn, lp, ls, 0⟩) w w' /\ FldF gF m z' w' /\ (∀ g, FldS gF z' g -> FldS gF ⟨ro, rc, no, nc, gs, E, nul, tn, lp, ls, 0⟩ g ∨ w.heap.size <= g) /\ StR 0 m mw A c 0 nu cs ⟨ro, rc, no, nc, gs, E, nul, tn, lp, ls, 0⟩ false z' := fun w' hb =>
  ⟨_, Chg.of_below hb, En.keep (e := .fld gF m ⟨ro, rc, no, nc, gs, E, nul, tn, lp, ls, 0⟩) HF.out (Chg.of_below (S := fun _ => False) hb) (fun _ => Wl.none _) (fun _ _ h => h), fun g h => .inl h, HR.out⟩
 have HN := Lib.hid fin;clear fin c0 c5;refine funW (S0 := fun _ => False) Tryz.func27 HA ?_;clear HA;refine goW ?_;refine rW [] ?_;refine dW ?_;refine eW ?_;refine goW ?_;refine rW [] ?_;refine dW ?_;refine dW ?_;refine dW ?_;refine dW ?_;refine dW ?_;refine eW ?_;refine goW ?_;refine rW [] ?_;refine dW ?_;refine dW ?_;refine eW ?_;refine goW ?_;refine loopW (X := Unit) (fun _ => True) (fun _ => 0) (fun _ => [(6, .int .i64 0), (5, .int .i64 0), (1, .int .i64 (c : Int)), (0, .pointer (some ⟨gF, 0, none⟩)), (4, .bool false)]) (fun _ => [.cell ⟨gF, 0, none⟩ (.slice ro 0 rc), .cell ⟨gF, 5, none⟩ (.int .i64 0)]) () trivial fun _ _ => ?_;refine goW ?_;refine rW [] ?_;refine dW ?_;refine dW ?_;refine dW ?_;refine dW ?_;refine dW ?_;refine dW ?_;refine dB false ?_;refine dW ?_;refine uG ?_;refine uG ?_;refine uG ?_;refine uG ?_;refine uG ?_;refine uG ?_;refine uG ?_;refine uG ?_;refine uG ?_;refine uG ?_;refine uC ?_;refine uG ?_;refine dW ?_;refine eW ?_;refine goW ?_;refine cfW ?_;refine goW ?_;refine rW [] ?_;refine dW ?_;refine dW ?_;refine dW ?_;refine dW ?_;refine dW ?_;refine dW ?_;refine dB true ?_;refine eW ?_;refine goW ?_;refine ctW ?_;refine goW ?_;refine rW [] ?_;refine dW ?_;refine eW ?_;refine goW ?_;refine fin1 fun w' H => ?_;obtain ⟨z', h1, h2, h3, h4⟩ := HN.out w' H.below;exact ⟨_, rvT, false, z', rfl, h1, h2, h3, h4⟩
end Go.Proofs.YtcpjoiffkniccaaGreat
