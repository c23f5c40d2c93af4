/- Part 3 of 7 of the proof that the law ModhnfFollows returns true for every input of bulk at most 1048576 and leaves its arguments as they were: here the contracts of the functions that it calls, and plain lemmas. -/
import Derived.RangeFuncNested
import Derived.RangeFuncBound
import Derived.RangeFuncCalls
import Derived.RangeFuncLeaves
import Derived.Shelf.Abstract
import Derived.Shelf.RegionOpen
import Derived.WalkKit
import Derived.OwnWalkIn
import Derived.TacticsInMore
import Derived.LoopNIn
import Derived.LoopIn
import Derived.Maps.AppendAt
import Derived.Deep.RegionLaw
import Derived.Deep.Onto
import Derived.Deep.AppendSrc
import Derived.Deep.Upon
import Derived.Test.YtjjlmfmoihooiaaFoB
set_option linter.all false
namespace Go.Proofs.Ytjjlmfmoihooiaa
theorem smTwo (n k l : Nat) (f : Nat -> Int) (hk : k < n) (hl : l < n) (hkl : k ≠ l) (h : ∀ i < n, i ≠ k -> i ≠ l -> f i = 0) : sm n f = f k + f l := by
 have e : sm n f = sm n (fun i => (if i = k then f i else 0) + (if i = k then 0 else f i)) := aj (fun i _ => by split <;> omega);rw [e, fv, du k hk (fun i _ hik => if_neg hik), du l hl (fun i hi hil => by
  by_cases hik : i = k
  · exact if_pos hik
  · rw [if_neg hik]; exact h i hi hik hil), if_pos rfl, if_neg (fun e => hkl e.symm)]
abbrev Mx := Nat -> Nat -> Int
def bF (i a : Nat) : Nat := if a < i then a else a + 1
def minor (M : Mx) (i : Nat) : Mx := fun a b => M (bF i a) (b + 1)
def dj (i : Nat) : Int := if i % 2 = 0 then 1 else -1
theorem jf (i : Nat) : dj (i + 1) = - dj i := by
 unfold dj
 (repeat' split) <;> first | rfl | omega
def aF : Nat -> Mx -> Int
 | 0, _ => 1
 | n + 1, M => sm (n + 1) fun i => dj i * M i 0 * aF n (minor M i)
theorem aH : ∀ (n : Nat) {M N : Mx}, (∀ i < n, ∀ j < n, M i j = N i j) -> aF n M = aF n N
 | 0, _, _, _ => rfl
 | n + 1, M, N, h => by
  unfold aF;refine aj fun i hi => ?_;rw [h i hi 0 (by omega), aH n (M := minor M i) (N := minor N i) fun a ha b hb => h _ (by unfold bF; split <;> omega) _ (by omega)]
def bD (M : Mx) (k : Nat) (R : Nat -> Int) : Mx := fun a b => if a = k then R b else M a b
theorem eU (M : Mx) (k : Nat) (R : Nat -> Int) : minor (bD M k R) k = minor M k := by
 funext a b;unfold minor bD bF;split <;> rw [if_neg (by omega)]
theorem eA (M : Mx) (k i : Nat) (R : Nat -> Int) (h : i ≠ k) : minor (bD M k R) i = bD (minor M i) (if k < i then k else k - 1) (fun b => R (b + 1)) := by
 funext a b;unfold minor bD bF;by_cases ha : a < i <;> by_cases hk : k < i <;> simp only [ha, hk, if_true, if_false] <;> split <;> split <;> first | rfl | (exfalso; omega)
theorem fY : ∀ (n : Nat) (M : Mx) (k : Nat) (c : Int) (U V : Nat -> Int), k < n -> aF n (bD M k fun j => c * U j + V j) = c * aF n (bD M k U) + aF n (bD M k V)
 | n + 1, M, k, c, U, V, hk => by
  unfold aF;rw [<- bg, <- fv];refine aj fun i hi => ?_;by_cases h : i = k
  · subst h;rw [eU, eU, eU];simp only [bD, if_pos];generalize aF n (minor M i) = d;rw [Int.mul_add, Int.add_mul, <- Int.mul_assoc, <- Int.mul_assoc, Int.mul_comm (dj i) c];simp only [Int.mul_assoc]
  · rw [eA M k i _ h, eA M k i _ h, eA M k i _ h, fY n (minor M i) _ c (fun b => U (b + 1)) (fun b => V (b + 1)) (by split <;> omega)];simp only [bD, if_neg h];rw [Int.mul_add, <- Int.mul_assoc, <- Int.mul_assoc, Int.mul_comm _ c, Int.mul_assoc c]
theorem ky : ∀ (n : Nat) (M : Mx) (k : Nat), k + 1 < n -> (∀ j < n, M k j = M (k + 1) j) -> aF n M = 0
 | n + 1, M, k, hk, h => by
  unfold aF;rw [smTwo (n + 1) k (k + 1) _ (by omega) (by omega) (by omega) fun i hi h1 h2 => ?_]
  · have e : minor M k = minor M (k + 1) ∨ True := .inr trivial;have e2 : aF n (minor M k) = aF n (minor M (k + 1)) := aH n fun a ha b hb => by
     unfold minor bF;by_cases h1 : a < k
     · rw [if_pos h1, if_pos (by omega)]
     · rw [if_neg h1];by_cases h3 : a = k
       · subst h3; rw [if_pos (by omega)]; exact (h (b + 1) (by omega)).symm
       · rw [if_neg (by omega)]
    rw [e2, h 0 (by omega), jf, Int.neg_mul, Int.neg_mul];omega
  · have : aF n (minor M i) = 0 := by
     by_cases hik : i < k
     · refine ky n _ (k - 1) (by omega) fun j hj => ?_;unfold minor bF;rw [if_neg (by omega), if_neg (by omega), show k - 1 + 1 = k by omega];exact h (j + 1) (by omega)
     · refine ky n _ k (by omega) fun j hj => ?_;unfold minor bF;rw [if_pos (by omega), if_pos (by omega)];exact h (j + 1) (by omega)
    rw [this, Int.mul_zero]
theorem eo (M : Mx) (k : Nat) : bD M k (M k) = M := by
 funext a b; unfold bD; split
 · rename_i h; rw [h]
 · rfl
theorem cJ (M : Mx) {k l : Nat} (h : k ≠ l) (R R' : Nat -> Int) : bD (bD M k R) l R' = bD (bD M l R') k R := by
 funext a b; unfold bD; (repeat' split) <;> first | rfl | omega
theorem bf (M : Mx) (k : Nat) (R : Nat -> Int) : bD M k R k = R := by funext b; simp [bD]
theorem aK (M : Mx) {k l : Nat} (h : l ≠ k) (R : Nat -> Int) : bD M k R l = M l := by funext b; simp [bD, h]
theorem iB (n : Nat) (M : Mx) (k : Nat) (U V : Nat -> Int) (hk : k < n) : aF n (bD M k fun j => U j + V j) = aF n (bD M k U) + aF n (bD M k V) := by
 have := fY n M k 1 U V hk;simpa using this
theorem fH (n : Nat) (M : Mx) (k : Nat) (c : Int) (U : Nat -> Int) (hk : k < n) : aF n (bD M k fun j => c * U j) = c * aF n (bD M k U) := by
 have h := fY n M k c U (fun _ => 0) hk;have h0 := fY n M k (-1) (fun _ => 0) (fun _ => 0) hk;simp at h h0;rw [h]; omega
theorem sA (n : Nat) (M : Mx) (k : Nat) (hk : k + 1 < n) (A B : Nat -> Int) : aF n (bD (bD M k A) (k + 1) B) = - aF n (bD (bD M k B) (k + 1) A) := by
 have z : ∀ C : Nat -> Int, aF n (bD (bD M k C) (k + 1) C) = 0 := fun C => ky n _ k hk fun j _ => by
  rw [aK _ (by omega), bf, bf]
 have s := z fun j => A j + B j;rw [iB n _ _ _ _ hk, cJ M (by omega : k ≠ k + 1), cJ M (by omega : k ≠ k + 1), iB n _ _ _ _ (by omega), iB n _ _ _ _ (by omega),
  <- cJ M (by omega : k ≠ k + 1), <- cJ M (by omega : k ≠ k + 1), <- cJ M (by omega : k ≠ k + 1), <- cJ M (by omega : k ≠ k + 1), z A, z B] at s
 omega
theorem nA : ∀ (d n : Nat) (M : Mx) (k : Nat), k + d + 1 < n -> (∀ j, M k j = M (k + d + 1) j) -> aF n M = 0
 | 0, n, M, k, hk, h => ky n M k hk fun j _ => h j
 | d + 1, n, M, k, hk, h => by
  have e := sA n M (k + d + 1) (by omega) (M (k + d + 1)) (M (k + d + 2));rw [eo M (k + d + 1), eo M (k + d + 2)] at e;rw [e, nA d n _ k (by omega) fun j => ?_]
  · rfl
  · rw [aK _ (by omega), aK _ (by omega), aK _ (by omega), bf];exact h j
theorem eQ (n : Nat) (M : Mx) {k l : Nat} (hk : k < n) (hl : l < n) (hkl : k ≠ l) (h : ∀ j, M k j = M l j) : aF n M = 0 := by
 rcases Nat.lt_or_gt_of_ne hkl with h1 | h1
 · exact nA (l - k - 1) n M k (by omega) fun j => by rw [show k + (l - k - 1) + 1 = l by omega]; exact h j
 · exact nA (k - l - 1) n M l (by omega) fun j => by rw [show l + (k - l - 1) + 1 = k by omega]; exact (h j).symm
theorem j4 (n : Nat) (M : Mx) (k : Nat) (hk : k < n) (c : Nat -> Int) (hc : c k = 0) : ∀ (m : Nat), m <= n -> ∀ U : Nat -> Int, aF n (bD M k fun j => U j + sm m fun l => c l * M l j) = aF n (bD M k U)
 | 0, _, U => by simp [sm]
 | m + 1, hm, U => by
  have e : (fun j => U j + sm (m + 1) fun l => c l * M l j) = fun j => c m * M m j + (U j + sm m fun l => c l * M l j) := by
   funext j;show U j + (sm m (fun l => c l * M l j) + c m * M m j) = c m * M m j + (U j + sm m (fun l => c l * M l j));generalize c m * M m j = z;omega
  rw [e, fY n M k _ _ _ hk, j4 n M k hk c hc m (by omega) U];by_cases hmk : m = k
  · rw [hmk, hc, Int.zero_mul, Int.zero_add]
  · rw [eQ n (bD M k (M m)) hk (by omega) (fun e => hmk e.symm) fun j => by rw [bf, aK _ hmk]];rw [Int.mul_zero, Int.zero_add]
theorem pM (n : Nat) (M : Mx) {k l : Nat} (hk : k < n) (hl : l < n) (hkl : k ≠ l) (A B : Nat -> Int) : aF n (bD (bD M k A) l B) = - aF n (bD (bD M k B) l A) := by
 have z : ∀ C : Nat -> Int, aF n (bD (bD M k C) l C) = 0 := fun C => eQ n _ hk hl hkl fun j => by
  rw [aK _ hkl, bf, bf]
 have s := z fun j => A j + B j;rw [iB n _ _ _ _ hl, cJ M hkl, cJ M hkl, iB n _ _ _ _ hk, iB n _ _ _ _ hk, <- cJ M hkl, <- cJ M hkl, <- cJ M hkl, <- cJ M hkl, z A, z B] at s;omega
theorem kB (n : Nat) (M : Mx) (k : Nat) (hk : k < n) (c : Nat -> Int) (R : Nat -> Nat -> Int) : ∀ m, aF n (bD M k fun j => sm m fun l => c l * R l j) = sm m fun l => c l * aF n (bD M k (R l))
 | 0 => by
  have := fH n M k 0 (fun _ => 0) hk;simpa [sm] using this
 | m + 1 => by
  have e : (fun j => sm (m + 1) fun l => c l * R l j) = fun j => c m * R m j + sm m fun l => c l * R l j := by
   funext j; simp only [sm]; omega
  rw [e, fY n M k _ _ _ hk, kB n M k hk c R m];simp only [sm]; omega
theorem uN (n : Nat) (f : Nat -> Nat) (hf : ∀ i < n, f i < n) (hi : ∀ i < n, ∀ j < n, f i = f j -> i = j) (k : Nat) (hk : k < n) : ∃ i < n, f i = k := by
 refine Classical.byContradiction fun hc => ?_;have hne : ∀ i < n, f i ≠ k := fun i h e => hc ⟨i, h, e⟩;obtain ⟨m, rfl⟩ : ∃ m, n = m + 1 := ⟨n - 1, by omega⟩;obtain ⟨i, j, h1, h2, h3⟩ := nn m (fun i => if f i < k then f i else f i - 1) (fun i h => by
  have := hf i (by omega); have := hne i (by omega);show (if f i < k then f i else f i - 1) < m;split <;> omega)
 have h4 : f i = f j := by
  have a := hne i (by omega); have b := hne j (by omega);have h3 : (if f i < k then f i else f i - 1) = (if f j < k then f j else f j - 1) := h3;split at h3 <;> split at h3 <;> omega
 have := hi i (by omega) j (by omega) h4;omega
theorem jd (n : Nat) (A : Mx) : ∀ (d : Nat) (σ : Nat -> Nat), (∀ i < n, σ i < n) -> (∀ i, i + d < n -> σ i = i) -> d <= n -> aF n (fun i => A (σ i)) = 0 ∨ (aF n (fun i => A (σ i))).natAbs = (aF n A).natAbs
 | 0, σ, _, h, _ => .inr (by rw [aH n (M := fun i => A (σ i)) (N := A) fun i hi j _ => by rw [h i (by omega)]])
 | d + 1, σ, h1, h2, hd => by
  by_cases hinj : ∀ i < n, ∀ j < n, σ i = σ j -> i = j
  · obtain ⟨i, hi, he⟩ := uN n σ h1 hinj (n - (d + 1)) (by omega);have hge : n - (d + 1) <= i := by
     refine Nat.le_of_not_lt fun hlt => ?_;have := h2 i (by omega); omega
    by_cases hik : i = n - (d + 1)
    · refine jd n A d σ h1 (fun a ha => ?_) (by omega);by_cases e : a = n - (d + 1)
      · have h5 : a = i := e.trans hik.symm;rw [h5, he]; exact hik.symm
      · exact h2 a (by omega)
    · have e : (fun a => A (σ a)) = bD (bD (fun a => A (if a = n - (d + 1) then n - (d + 1) else if a = i then σ (n - (d + 1)) else σ a)) (n - (d + 1)) (A (σ (n - (d + 1))))) i (A (σ i)) := by
       funext a b;unfold bD;by_cases h3 : a = i
       · rw [if_pos h3, h3]
       · rw [if_neg h3];by_cases h4 : a = n - (d + 1)
         · rw [if_pos h4, h4]
         · rw [if_neg h4];show A (σ a) b = A (if a = n - (d + 1) then n - (d + 1) else if a = i then σ (n - (d + 1)) else σ a) b;rw [if_neg h4, if_neg h3]
      have e2 : bD (bD (fun a => A (if a = n - (d + 1) then n - (d + 1) else if a = i then σ (n - (d + 1)) else σ a)) (n - (d + 1)) (A (σ i))) i (A (σ (n - (d + 1)))) = fun a => A (if a = n - (d + 1) then n - (d + 1) else if a = i then σ (n - (d + 1)) else σ a) := by
       funext a b;unfold bD;by_cases h3 : a = i
       · rw [if_pos h3, if_neg (by omega), if_pos h3]
       · rw [if_neg h3];by_cases h4 : a = n - (d + 1)
         · rw [if_pos h4, if_pos h4, he]
         · rw [if_neg h4]
      rw [e, pM n _ (by omega) hi (fun h => hik h.symm), e2];have := jd n A d (fun a => if a = n - (d + 1) then n - (d + 1) else if a = i then σ (n - (d + 1)) else σ a) (fun a ha => by
       split
       · omega
       · split
         · exact h1 _ (by omega)
         · exact h1 a ha) (fun a ha => by
       split
       · omega
       · rw [if_neg (by omega)]; exact h2 a (by omega)) (by omega)
      rcases this with h | h
      · exact .inl (by rw [h]; rfl)
      · exact .inr (by rw [Int.natAbs_neg]; exact h)
  · refine .inl ?_;simp only [Classical.not_forall] at hinj;obtain ⟨i, hi, j, hj, he, hne⟩ := hinj;exact eQ n _ hi hj hne fun b => by rw [he]
theorem kD (n : Nat) (A : Mx) : ∀ (k : Nat), k <= n -> ∀ B : Mx, (∀ i < k, Sp n A (B i)) -> (∀ i, k <= i -> i < n -> ∃ l < n, B i = A l) -> aF n A ∣ aF n B
 | 0, _, B, _, h => by
  have hs : ∀ i, ∃ l, i < n -> l < n /\ B i = A l := fun i => by
   by_cases hi : i < n
   · obtain ⟨l, hl, e⟩ := h i (Nat.zero_le _) hi; exact ⟨l, fun _ => ⟨hl, e⟩⟩
   · exact ⟨0, fun h => absurd h hi⟩
  obtain ⟨σ, hσ⟩ := Classical.axiomOfChoice hs;have e : aF n B = aF n (fun i => A (σ i)) := aH n fun i hi j _ => by rw [(hσ i hi).2]
  rw [e];rcases jd n A n σ (fun i hi => (hσ i hi).1) (fun i hi => by omega) (Nat.le_refl _) with h | h
  · rw [h]; exact Int.dvd_zero _
  · exact Int.natAbs_dvd_natAbs.1 (by rw [h]; exact Nat.dvd_refl _)
 | k + 1, hk, B, h1, h2 => by
  obtain ⟨c, hc⟩ := h1 k (by omega);have e : B = bD B k (fun j => sm n fun l => c l * A l j) := by
   funext a b;unfold bD;split
   · rename_i h; rw [h]; exact hc b
   · rfl
  rw [e, kB n B k (by omega)];have hd : ∀ l < n, aF n A ∣ aF n (bD B k (A l)) := fun l hl => kD n A k (by omega) _ (fun i hi => by rw [aK _ (by omega)]; exact h1 i (by omega)) (fun i hi hin => by
   by_cases hik : i = k
   · rw [hik, bf]; exact ⟨l, hl, rfl⟩
   · rw [aK _ hik]; exact h2 i (by omega) hin)
  have key : ∀ m, m <= n -> aF n A ∣ sm m fun l => c l * aF n (bD B k (A l)) := by
   intro m;induction m with
   | zero => intro _; exact Int.dvd_zero _
   | succ m ih => intro hm; exact Int.dvd_add (ih (by omega)) (Int.dvd_mul_of_dvd_right (hd m (by omega)))
  exact key n (Nat.le_refl _)
theorem pE (n : Nat) {A B : Mx} (h : aO n A n B) : (aF n A).natAbs = (aF n B).natAbs :=
 Nat.dvd_antisymm (Int.natAbs_dvd_natAbs.2 (kD n A n (Nat.le_refl _) B h.2 (fun i h1 h2 => by omega))) (Int.natAbs_dvd_natAbs.2 (kD n B n (Nat.le_refl _) A h.1 (fun i h1 h2 => by omega)))
def et : Nat -> (Nat -> Nat) -> Nat
 | 0, _ => 1
 | n + 1, f => et n f * f n
theorem fp : ∀ (n : Nat) {f g : Nat -> Nat}, (∀ i < n, f i = g i) -> et n f = et n g
 | 0, _, _, _ => rfl
 | n + 1, f, g, h => by unfold et; rw [fp n (fun i hi => h i (by omega)), h n (by omega)]
theorem lJ : ∀ (n : Nat) (f : Nat -> Nat) (m : Nat), m <= n -> et (n + 1) f = f m * et n fun a => f (bF m a)
 | 0, f, m, hm => by
  obtain rfl : m = 0 := by omega
  simp [et]
 | n + 1, f, m, hm => by
  by_cases e : m = n + 1
  · subst e;have : et (n + 1) (fun a => f (bF (n + 1) a)) = et (n + 1) f := fp _ fun i hi => by unfold bF; rw [if_pos hi]
    rw [this, Nat.mul_comm]; rfl
  · have ih := lJ n f m (by omega);show et (n + 1) f * f (n + 1) = f m * (et n (fun a => f (bF m a)) * f (bF m n));rw [ih, show bF m n = n + 1 by unfold bF; rw [if_neg (by omega)], Nat.mul_assoc]
theorem iw : ∀ (n : Nat) (M : Mx) (p : Nat -> Nat), (∀ i < n, p i < n) -> (∀ i < n, ∀ j < n, p i = p j -> i = j) -> (∀ i < n, ∀ j, j < p i -> M i j = 0) -> (aF n M).natAbs = et n fun i => (M i (p i)).natAbs
 | 0, _, _, _, _, _ => rfl
 | n + 1, M, p, h1, h2, h3 => by
  obtain ⟨m, hm, he⟩ := uN (n + 1) p h1 h2 0 (by omega);have hpos : ∀ i < n + 1, i ≠ m -> 0 < p i := fun i hi hne => Nat.pos_of_ne_zero fun e => hne (h2 i hi m hm (e.trans he.symm));have hsk : ∀ a < n, bF m a < n + 1 /\ bF m a ≠ m := fun a ha => by unfold bF; split <;> constructor <;> omega
  unfold aF;rw [du m hm fun i hi hne => by rw [h3 i hi 0 (hpos i hi hne)]; simp];have ih := iw n (minor M m) (fun a => p (bF m a) - 1) (fun a ha => by have := h1 _ (hsk a ha).1; have := hpos _ (hsk a ha).1 (hsk a ha).2; omega) (fun a ha b hb e => by
   have h4 := hpos _ (hsk a ha).1 (hsk a ha).2; have h5 := hpos _ (hsk b hb).1 (hsk b hb).2;have h6 := h2 _ (hsk a ha).1 _ (hsk b hb).1 (by omega);unfold bF at h6; split at h6 <;> split at h6 <;> omega) (fun a ha j hj => h3 _ (hsk a ha).1 (j + 1) (by omega))
  rw [Int.natAbs_mul, Int.natAbs_mul, ih, lJ n _ m (by omega), he];have hs : (dj m).natAbs = 1 := by unfold dj; split <;> rfl
  rw [hs, Nat.one_mul];congr 1;exact fp n fun a ha => by
   have h4 := hpos _ (hsk a ha).1 (hsk a ha).2;unfold minor;rw [show p (bF m a) - 1 + 1 = p (bF m a) by omega]
structure mL (k : Nat) (R : Mx) (p : Nat -> Nat) : Prop where
 at_ : ∀ i < k, R i (p i) ≠ 0
 zero : ∀ i < k, ∀ j < p i, R i j = 0
 clr : ∀ a < k, ∀ i < a, R a (p i) = 0
theorem mL.inj {k : Nat} {R : Mx} {p : Nat -> Nat} (h : mL k R p) : ∀ i < k, ∀ j < k, p i = p j -> i = j := by
 have key : ∀ i j, i < j -> j < k -> p i ≠ p j := fun i j hij hj e => h.at_ j hj (e ▸ h.clr j hj i hij);intro i hi j hj e;rcases Nat.lt_trichotomy i j with h1 | h1 | h1
 · exact absurd e (key i j h1 hj)
 · exact h1
 · exact absurd e.symm (key j i h1 hi)
theorem mL.lead {k : Nat} {R : Mx} {p : Nat -> Nat} (h : mL k R p) {v : Nat -> Int} (hv : Sp k R v) {q : Nat} (hq : v q ≠ 0) (h0 : ∀ j < q, v j = 0) : ∃ i < k, p i = q := by
 obtain ⟨x, hx⟩ := hv;have key : ∀ m a, p a = m -> m < q -> a < k -> x a = 0 := by
  intro m;induction m using Nat.strongRecOn with
  | _ m ih =>
   intro a hm hq ha;refine Classical.byContradiction fun hne => ?_;have h1 := h0 m hq;rw [hx, du a ha fun b hb hba => ?_] at h1
   · rcases Int.mul_eq_zero.1 h1 with h2 | h2
     · exact hne h2
     · exact h.at_ a ha (hm ▸ h2)
   · rcases Nat.lt_trichotomy (p b) m with h2 | h2 | h2
     · rw [ih (p b) h2 b rfl (by omega) hb, Int.zero_mul]
     · exact absurd (h.inj b hb a ha (h2.trans hm.symm)) hba
     · rw [h.zero b hb m h2, Int.mul_zero]
 refine Classical.byContradiction fun hc => hq ?_;rw [hx];refine aZ fun b hb => ?_;rcases Nat.lt_trichotomy (p b) q with h2 | h2 | h2
 · rw [key _ b rfl h2 hb, Int.zero_mul]
 · exact absurd ⟨b, hb, h2⟩ hc
 · rw [h.zero b hb q h2, Int.mul_zero]
theorem oC {k r n c : Nat} {R A E : Mx} {p l : Nat -> Nat} (h : mL k R p) (hE : Ech r c E l) (hs : aO r E n A) (h1 : ∀ i < n, ∃ N : Int, N ≠ 0 /\ Sp k R fun j => N * A i j) (h2 : ∀ i < k, ∃ N : Int, N ≠ 0 /\ Sp n A fun j => N * R i j) : k = r := by
 have one : ∀ i < k, ∃ a, a < r /\ l a = p i := fun i hi => by
  obtain ⟨N, hN, hsp⟩ := h2 i hi;obtain ⟨a, ha, he, _⟩ := hE.lead (hsp.trans hs.2) (q := p i) (Int.mul_ne_zero hN (h.at_ i hi)) fun j hj => by rw [h.zero i hi j hj, Int.mul_zero]
  exact ⟨a, ha, he⟩
 have all : ∀ v, Sp n A v -> ∃ N : Int, N ≠ 0 /\ Sp k R fun j => N * v j := by
  intro v ⟨x, hx⟩;have key : ∀ m, m <= n -> ∃ N : Int, N ≠ 0 /\ Sp k R fun j => N * sm m fun i => x i * A i j := by
   intro m;induction m with
   | zero => intro _; exact ⟨1, by decide, (Sp.zero k R).congr fun j => by simp [sm]⟩
   | succ m ih =>
    intro hm;obtain ⟨N, hN, hsp⟩ := ih (by omega);obtain ⟨M, hM, hsq⟩ := h1 m (by omega);refine ⟨N * M, Int.mul_ne_zero hN hM, (((hsp.smul M).add (hsq.smul (N * x m))).congr fun j => ?_)⟩;simp only [sm];rw [Int.mul_add, Int.mul_comm N M, Int.mul_assoc];congr 1;rw [Int.mul_assoc, Int.mul_assoc, Int.mul_left_comm M N, Int.mul_left_comm M (x m)]
  obtain ⟨N, hN, hsp⟩ := key n (Nat.le_refl _);exact ⟨N, hN, hsp.congr fun j => by rw [hx]⟩
 have two : ∀ a < r, ∃ i, i < k /\ p i = l a := fun a ha => by
  obtain ⟨N, hN, hsp⟩ := all (E a) (hs.1 a ha);obtain ⟨i, hi, he⟩ := h.lead hsp (q := l a) (Int.mul_ne_zero hN (by have := hE.pos a ha; omega)) fun j hj => by rw [hE.zero a ha j hj, Int.mul_zero]
  exact ⟨i, hi, he⟩
 have le : ∀ (a b : Nat) (f g : Nat -> Nat), (∀ i < a, ∃ j, j < b /\ g j = f i) -> (∀ i < a, ∀ j < a, f i = f j -> i = j) -> a <= b := by
  intro a b f g hfg hinj;refine Nat.le_of_not_lt fun hlt => ?_;have hs : ∀ i, ∃ j, i < a -> j < b /\ g j = f i := fun i => by
   by_cases hi : i < a
   · obtain ⟨j, h1, h2⟩ := hfg i hi; exact ⟨j, fun _ => ⟨h1, h2⟩⟩
   · exact ⟨0, fun h => absurd h hi⟩
  obtain ⟨σ, hσ⟩ := Classical.axiomOfChoice hs;obtain ⟨i, j, h3, h4, h5⟩ := nn b σ fun i hi => (hσ i (by omega)).1;have := hinj i (by omega) j (by omega) (by rw [<- (hσ i (by omega)).2, <- (hσ j (by omega)).2, h5]);omega
 exact Nat.le_antisymm (le k r p l one h.inj) (le r k l p two fun i hi j hj e => by
  rcases Nat.lt_trichotomy i j with h1 | h1 | h1
  · have := hE.inc i j h1 hj; omega
  · exact h1
  · have := hE.inc j i h1 hi; omega)
theorem oe {k n : Nat} {R A : Mx} (h1 : ∀ i < n, ∃ N : Int, N ≠ 0 /\ Sp k R fun j => N * A i j) {v : Nat -> Int} (hv : Sp n A v) : ∃ N : Int, N ≠ 0 /\ Sp k R fun j => N * v j := by
 obtain ⟨x, hx⟩ := hv;have key : ∀ m, m <= n -> ∃ N : Int, N ≠ 0 /\ Sp k R fun j => N * sm m fun i => x i * A i j := by
  intro m;induction m with
  | zero => intro _; exact ⟨1, by decide, (Sp.zero k R).congr fun j => by simp [sm]⟩
  | succ m ih =>
   intro hm;obtain ⟨N, hN, hsp⟩ := ih (by omega);obtain ⟨M, hM, hsq⟩ := h1 m (by omega);refine ⟨N * M, Int.mul_ne_zero hN hM, (((hsp.smul M).add (hsq.smul (N * x m))).congr fun j => ?_)⟩;simp only [sm];rw [Int.mul_add, Int.mul_comm N M, Int.mul_assoc];congr 1;rw [Int.mul_assoc, Int.mul_assoc, Int.mul_left_comm M N, Int.mul_left_comm M (x m)]
 obtain ⟨N, hN, hsp⟩ := key n (Nat.le_refl _);exact ⟨N, hN, hsp.congr fun j => by rw [hx]⟩
def jY : Nat -> (Nat -> Int) -> Int
 | 0, _ => 1
 | n + 1, f => jY n f * f n
theorem o4 : ∀ (n : Nat) {f : Nat -> Int}, (∀ i < n, f i ≠ 0) -> jY n f ≠ 0
 | 0, _, _ => Int.one_ne_zero
 | n + 1, f, h => Int.mul_ne_zero (o4 n fun i hi => h i (by omega)) (h n (by omega))
theorem uQ (n : Nat) (A R : Mx) (up dn : Nat -> Int) (c : Nat -> Nat -> Int) (h : ∀ i < n, ∀ j, dn i * R i j = up i * A i j + sm i fun t => c i t * R t j) : jY n dn * aF n R = jY n up * aF n A := by
 obtain ⟨X, hX⟩ : ∃ X : Nat -> Mx, ∀ k i, X k i = if i < k then R i else A i := ⟨fun k i => if i < k then R i else A i, fun _ _ => rfl⟩;have key : ∀ k, k <= n -> jY k dn * aF n (X k) = jY k up * aF n A := by
  intro k;induction k with
  | zero =>
   intro _;have : X 0 = A := by funext i; rw [hX, if_neg (Nat.not_lt_zero i)]
   rw [this]; rfl
  | succ k ih =>
   intro hk;have h1 : X (k + 1) = bD (X k) k (R k) := by
    funext i j;unfold bD;rw [hX, hX];by_cases e : i = k
    · subst e; rw [if_pos (by omega), if_pos rfl]
    · rw [if_neg e];by_cases e2 : i < k
      · rw [if_pos (by omega), if_pos e2]
      · rw [if_neg (by omega), if_neg e2]
   have h2 : dn k * aF n (X (k + 1)) = up k * aF n (X k) := by
    rw [h1, <- fH n (X k) k (dn k) (R k) hk];have e : (fun j => dn k * R k j) = fun j => (up k * A k j) + sm k fun t => (if t < k then c k t else 0) * X k t j := by
     funext j;rw [h k hk];congr 1;exact aj fun t ht => by rw [if_pos ht, hX, if_pos ht]
    rw [e, j4 n (X k) k hk (fun t => if t < k then c k t else 0) (by rw [if_neg (Nat.lt_irrefl k)]) k (by omega) (fun j => up k * A k j), fH n (X k) k (up k) (A k) hk];congr 1;have : bD (X k) k (A k) = X k := by
     have := eo (X k) k;rw [hX k k, if_neg (Nat.lt_irrefl k)] at this; exact this
    rw [this]
   rw [jY, jY, Int.mul_assoc, h2, Int.mul_left_comm, ih (by omega), <- Int.mul_assoc, Int.mul_comm (up k)]
 have := key n (Nat.le_refl n);have e : aF n (X n) = aF n R := aH n fun i hi j _ => by rw [hX, if_pos hi]
 rw [e] at this; exact this
def tp (A : Mx) : Mx := fun i j => A j i
def Mn (k : Nat) (x : Int) (r c : Nat) (A : Mx) : Prop := ∀ σ τ : Nat -> Nat, (∀ a < k, σ a < r) -> (∀ b < k, τ b < c) -> x ∣ aF k fun a b => A (σ a) (τ b)
theorem qj {x : Int} {f : Nat -> Int} : ∀ m, (∀ l < m, x ∣ f l) -> x ∣ sm m f
 | 0, _ => Int.dvd_zero _
 | m + 1, h => Int.dvd_add (qj m fun l hl => h l (by omega)) (h m (by omega))
theorem oS {k r : Nat} {x : Int} {A B : Mx} (h : ∀ σ : Nat -> Nat, (∀ a < k, σ a < r) -> x ∣ aF k fun a b => A (σ a) b) (hB : ∀ i < k, Sp r A (B i)) : x ∣ aF k B := by
 have key : ∀ m, m <= k -> ∀ N : Mx, (∀ a < m, ∃ i < k, N a = B i) -> (∀ a, m <= a -> a < k -> ∃ i < r, N a = A i) -> x ∣ aF k N := by
  intro m;induction m with
  | zero =>
   intro _ N _ h2;have hs : ∀ a, ∃ i, a < k -> i < r /\ N a = A i := fun a => by
    by_cases ha : a < k
    · obtain ⟨i, hi, e⟩ := h2 a (Nat.zero_le _) ha; exact ⟨i, fun _ => ⟨hi, e⟩⟩
    · exact ⟨0, fun q => absurd q ha⟩
   obtain ⟨ρ, hρ⟩ := Classical.axiomOfChoice hs;rw [aH k (N := fun a b => A (ρ a) b) fun a ha b _ => by rw [(hρ a ha).2]];exact h ρ fun a ha => (hρ a ha).1
  | succ m ih =>
   intro hm N h1 h2;obtain ⟨i, hi, e⟩ := h1 m (by omega);obtain ⟨y, hy⟩ := hB i hi;have eN : N = bD N m fun b => sm r fun l => y l * A l b := by
    funext a b;unfold bD;split
    · rename_i q; rw [q, e, hy]
    · rfl
   rw [eN, kB k N m (by omega) y A];refine qj r fun l hl => Int.dvd_mul_of_dvd_right (ih (by omega) _ (fun a ha => ?_) fun a ha hk => ?_)
   · obtain ⟨i', hi', e'⟩ := h1 a (by omega);exact ⟨i', hi', by rw [aK N (by omega)]; exact e'⟩
   · by_cases q : a = m
     · exact ⟨l, hl, by rw [q, bf]⟩
     · obtain ⟨i', hi', e'⟩ := h2 a (by omega) hk;exact ⟨i', hi', by rw [aK N q]; exact e'⟩
 exact key k (Nat.le_refl _) _ (fun a ha => ⟨a, ha, rfl⟩) fun a h1 h2 => by omega
section
variable {k k' s w : Nat} {T H : Mx} {l : Nat -> Nat}
end
theorem qB {B : Nat} : ∀ (n : Nat) (M : Mx), (∀ i j, (M i j).natAbs <= B) -> (aF n M).natAbs <= (n * B) ^ n
 | 0, _, _ => Nat.le_refl _
 | n + 1, M, h => by
  unfold aF;have h1 : (sm (n + 1) fun i => dj i * M i 0 * aF n (minor M i)).natAbs <= (n + 1) * (B * (n * B) ^ n) := lL fun i _ => by
   rw [Int.natAbs_mul, Int.natAbs_mul, show (dj i).natAbs = 1 by unfold dj; split <;> rfl, Nat.one_mul];exact Nat.mul_le_mul (h i 0) (qB n (minor M i) fun a b => h _ _)
  refine Nat.le_trans h1 ?_;rw [Nat.pow_succ, Nat.mul_comm ((( n + 1) * B) ^ n), Nat.mul_assoc (n + 1) B];exact Nat.mul_le_mul_left _ (Nat.mul_le_mul_left _ (Nat.pow_le_pow_left (Nat.mul_le_mul_right _ (by omega)) n))
theorem kF {a b : Nat} (h : a % 2 = b % 2) : dj a = dj b := by unfold dj; rw [h]
theorem nJ (a b : Nat) : dj a * dj b = dj (a + b) := by
 unfold dj;rcases Nat.mod_two_eq_zero_or_one a with h | h <;> rcases Nat.mod_two_eq_zero_or_one b with h' | h' <;> rw [h, h'] <;> simp <;> omega
theorem qg {n p : Nat} (hp : p < n + 1) (g : Nat -> Int) : sm n (fun a => g (bF p a)) = sm (n + 1) fun q => if q = p then 0 else g q := by
 obtain ⟨m, rfl⟩ : ∃ m, n = p + m := ⟨n - p, by omega⟩;rw [fD p m, Nat.add_assoc, fD p (m + 1), Nat.add_comm m 1, fD 1 m];have e1 : sm p (fun a => g (bF p a)) = sm p fun q => if q = p then 0 else g q := aj fun a ha => by
  rw [if_neg (by omega)]; unfold bF; rw [if_pos ha]
 have e2 : sm m (fun k => g (bF p (p + k))) = sm m fun k => if p + (1 + k) = p then 0 else g (p + (1 + k)) := aj fun a ha => by
  rw [if_neg (by omega)]; unfold bF; rw [if_neg (by omega)]; congr 1; omega
 have e3 : (sm 1 fun k => if p + k = p then 0 else g (p + k)) = 0 := by simp [sm]
 rw [e1, e2, e3, Int.zero_add]
def qd (p q b : Nat) : Nat := if b < min p q then b else if b + 1 < max p q then b + 1 else b + 2
theorem pB (p q b : Nat) : qd p q b = qd q p b := by unfold qd; rw [Nat.min_comm, Nat.max_comm]
theorem na (p a b : Nat) : bF p (bF a b) = qd p (bF p a) b := by
 unfold qd bF;by_cases h1 : a < p
 · simp only [h1, if_true];by_cases h2 : b < a
   · rw [if_pos h2, if_pos (by omega), if_pos (by omega)]
   · rw [if_neg h2];by_cases h3 : b + 1 < p
     · rw [if_pos h3, if_neg (by omega), if_pos (by omega)]
     · rw [if_neg h3, if_neg (by omega), if_neg (by omega)]
 · simp only [h1, if_false];by_cases h2 : b < a
   · rw [if_pos h2];by_cases h3 : b < p
     · rw [if_pos h3, if_pos (by omega)]
     · rw [if_neg h3, if_neg (by omega), if_pos (by omega)]
   · rw [if_neg h2, if_neg (by omega), if_neg (by omega), if_neg (by omega)]
def nr (n : Nat) (M : Mx) (p q : Nat) : Int := dj (p + q + n + if q < p then 0 else 1) * M p 0 * M q (n + 1) * aF n fun a b => M (qd p q a) (b + 1)
theorem ma : ∀ (n : Nat) (M : Mx), aF (n + 1) M = sm (n + 1) fun i => dj (i + n) * M i n * aF n fun a b => M (bF i a) b
 | 0, M => rfl
 | n + 1, M => by
  have h1 : aF (n + 2) M = sm (n + 2) fun p => sm (n + 2) fun q => if q = p then 0 else nr n M p q := by
   rw [aF];refine aj fun p hp => ?_;rw [ma n (minor M p), <- bg, <- qg hp];refine aj fun a ha => ?_;have e : (fun a' b => minor M p (bF a a') b) = fun a' b => M (qd p (bF p a) a') (b + 1) := by
    funext a' b;show M (bF p (bF a a')) (b + 1) = _;rw [na]
   rw [e];unfold nr;generalize aF n (fun a' b => M (qd p (bF p a) a') (b + 1)) = D;have e2 : dj (p + bF p a + n + if bF p a < p then 0 else 1) = dj p * dj (a + n) := by
    rw [nJ]; refine kF ?_; unfold bF; (repeat' split) <;> omega
   rw [e2];show dj p * M p 0 * (dj (a + n) * M (bF p a) (n + 1) * D) = _
   ac_rfl
  have h2 : (sm (n + 2) fun i => dj (i + (n + 1)) * M i (n + 1) * aF (n + 1) fun a b => M (bF i a) b) = sm (n + 2) fun q => sm (n + 2) fun p => if p = q then 0 else nr n M p q := by
   refine aj fun q hq => ?_;rw [aF, <- bg, <- qg hq];refine aj fun a ha => ?_;have e : minor (fun a b => M (bF q a) b) a = fun a' b => M (qd (bF q a) q a') (b + 1) := by
    funext a' b;show M (bF q (bF a a')) (b + 1) = _;rw [na, pB]
   rw [e];unfold nr;generalize aF n (fun a' b => M (qd (bF q a) q a') (b + 1)) = D;have e2 : dj (bF q a + q + n + if q < bF q a then 0 else 1) = dj (q + (n + 1)) * dj a := by
    rw [nJ]; refine kF ?_; unfold bF; (repeat' split) <;> omega
   rw [e2]
   ac_rfl
  rw [h1, h2, iy];refine aj fun q _ => aj fun p _ => ?_;by_cases h : q = p
  · rw [if_pos h, if_pos h.symm]
  · rw [if_neg h, if_neg (fun e => h e.symm)]
theorem pO : ∀ (n t : Nat) (M : Mx), t < n -> (∀ a, a < n + 1 -> M a t = M a n) -> aF (n + 1) M = 0
 | n + 1, 0, M, _, h => by
  have h1 : aF (n + 2) M = sm (n + 2) fun p => sm (n + 2) fun q => if q = p then 0 else nr n M p q := by
   rw [aF];refine aj fun p hp => ?_;rw [ma n (minor M p), <- bg, <- qg hp];refine aj fun a ha => ?_;have e : (fun a' b => minor M p (bF a a') b) = fun a' b => M (qd p (bF p a) a') (b + 1) := by
    funext a' b;show M (bF p (bF a a')) (b + 1) = _;rw [na]
   rw [e];unfold nr;generalize aF n (fun a' b => M (qd p (bF p a) a') (b + 1)) = D;have e2 : dj (p + bF p a + n + if bF p a < p then 0 else 1) = dj p * dj (a + n) := by
    rw [nJ]; refine kF ?_; unfold bF; (repeat' split) <;> omega
   rw [e2];show dj p * M p 0 * (dj (a + n) * M (bF p a) (n + 1) * D) = _
   ac_rfl
  have h2 : (sm (n + 2) fun p => sm (n + 2) fun q => if q = p then 0 else nr n M p q) = - sm (n + 2) fun p => sm (n + 2) fun q => if q = p then 0 else nr n M p q := by
   conv => lhs; rw [iy]
   have e : ∀ f : Nat -> Int, - sm (n + 2) f = sm (n + 2) fun i => (-1) * f i := fun f => by rw [bg]; omega
   rw [e];refine aj fun p hp => ?_;rw [<- bg];refine aj fun q hq => ?_;by_cases hpq : p = q
   · rw [if_pos hpq, if_pos hpq.symm]; rfl
   · rw [if_neg hpq, if_neg (fun e => hpq e.symm)];unfold nr;have eD : (fun a b => M (qd q p a) (b + 1)) = fun a b => M (qd p q a) (b + 1) := by funext a b; rw [pB]
     rw [eD];generalize aF n (fun a b => M (qd p q a) (b + 1)) = D;have es : dj (q + p + n + if p < q then 0 else 1) = - dj (p + q + n + if q < p then 0 else 1) := by
      rw [<- jf]; refine kF ?_; (repeat' split) <;> omega
     rw [es, <- h p (by omega), h q (by omega)];rw [Int.neg_mul, Int.neg_mul, Int.neg_mul, Int.neg_one_mul, Int.mul_assoc (dj _) (M q _), Int.mul_comm (M q _), <- Int.mul_assoc (dj _)]
  rw [h1]; omega
 | n + 1, t + 1, M, ht, h => by
  rw [aF];refine aZ fun p hp => ?_;rw [pO n t (minor M p) (by omega) fun a ha => h _ (by unfold bF; split <;> omega), Int.mul_zero]
theorem jE : ∀ (k m : Nat) (M : Mx), (∀ a, k <= a -> a < k + m -> ∀ b < k, M a b = 0) -> aF (k + m) M = aF k M * aF m fun a b => M (k + a) (k + b)
 | 0, m, M, _ => by
  rw [Nat.zero_add];show aF m M = 1 * _;rw [Int.one_mul];exact aH m fun a _ b _ => by rw [Nat.zero_add, Nat.zero_add]
 | k + 1, m, M, h => by
  rw [show k + 1 + m = k + m + 1 by omega, aF, show k + m + 1 = k + 1 + m by omega, fD (k + 1) m];have e0 : (sm m fun i => dj (k + 1 + i) * M (k + 1 + i) 0 * aF (k + m) (minor M (k + 1 + i))) = 0 := aZ fun i hi => by
   rw [h (k + 1 + i) (by omega) (by omega) 0 (by omega), Int.mul_zero, Int.zero_mul]
  rw [e0, Int.add_zero, aF, <- dN];refine aj fun i hi => ?_;have e : (aF m fun a b => minor M i (k + a) (k + b)) = aF m fun a b => M (k + 1 + a) (k + 1 + b) := aH m fun a _ b _ => by
   show M (bF i (k + a)) (k + b + 1) = _;unfold bF;rw [if_neg (by omega), show k + a + 1 = k + 1 + a by omega, show k + b + 1 = k + 1 + b by omega]
  rw [jE k m (minor M i) fun a h1 h2 b hb => h _ (by unfold bF; split <;> omega) (by unfold bF; split <;> omega) _ (by omega), e]
  ac_rfl
theorem det2 (M : Mx) : aF 2 M = M 0 0 * M 1 1 - M 1 0 * M 0 1 := by
 simp [aF, sm, dj, minor, bF, Int.neg_mul];omega
def mn (k : Nat) (A : Mx) (nu cs : Nat -> Nat) (i j : Nat) : Int := aF (k + 1) fun a b => A (if a < k then nu a else i) (if b < k then cs b else j)
def dn (k : Nat) (A : Mx) (nu cs : Nat -> Nat) : Int := aF k fun a b => A (nu a) (cs b)
section
variable {A : Mx} {nu cs : Nat -> Nat} {k : Nat}
theorem fP (k : Nat) (A : Mx) (nu cs : Nat -> Nat) (i : Nat) : ∃ y : Nat -> Int, ∀ j, mn k A nu cs i j = dn k A nu cs * A i j + sm k fun t => y t * A (nu t) j := by
 refine ⟨fun t => dj (t + k) * aF k fun a b => A (if bF t a < k then nu (bF t a) else i) (cs b), fun j => ?_⟩;unfold mn;rw [ma, sm, Int.add_comm];congr 1
 · have e : (aF k fun a b => A (if bF k a < k then nu (bF k a) else i) (if b < k then cs b else j)) = dn k A nu cs := aH k fun a ha b hb => by
    have : bF k a = a := by unfold bF; rw [if_pos ha]
    rw [this, if_pos ha, if_pos hb]
   rw [e, if_neg (Nat.lt_irrefl k), if_neg (Nat.lt_irrefl k), show dj (k + k) = 1 by unfold dj; rw [if_pos (by omega)], Int.one_mul, Int.mul_comm]
 · refine aj fun t ht => ?_;rw [if_pos ht, if_neg (Nat.lt_irrefl k)];have e : (aF k fun a b => A (if bF t a < k then nu (bF t a) else i) (if b < k then cs b else j)) = aF k fun a b => A (if bF t a < k then nu (bF t a) else i) (cs b) := aH k fun a _ b hb => by rw [if_pos hb]
   rw [e, Int.mul_right_comm]
theorem kJ {t : Nat} (ht : t < k) (i : Nat) : mn k A nu cs i (cs t) = 0 := by
 unfold mn;exact pO k t _ ht fun a _ => by rw [if_pos ht, if_neg (Nat.lt_irrefl k)]
theorem rO : dn (k + 1) A nu cs = mn k A nu cs (nu k) (cs k) := aH (k + 1) fun a ha b hb => by
 have e1 : (if a < k then nu a else nu k) = nu a := by split; rfl; rw [show a = k by omega]
 have e2 : (if b < k then cs b else cs k) = cs b := by split; rfl; rw [show b = k by omega]
 rw [e1, e2]
theorem eT {nu' cs' : Nat -> Nat} (h1 : ∀ t < k, nu' t = nu t) (h2 : ∀ t < k, cs' t = cs t) (i j : Nat) : mn k A nu' cs' i j = mn k A nu cs i j := aH (k + 1) fun a _ b _ => by
 have e1 : (if a < k then nu' a else i) = if a < k then nu a else i := by split; exact h1 a ‹_›; rfl
 have e2 : (if b < k then cs' b else j) = if b < k then cs b else j := by split; exact h2 b ‹_›; rfl
 rw [e1, e2]
theorem oL {nu' cs' : Nat -> Nat} (h1 : ∀ t < k, nu' t = nu t) (h2 : ∀ t < k, cs' t = cs t) : dn k A nu' cs' = dn k A nu cs := aH k fun a ha b hb => by rw [h1 a ha, h2 b hb]
theorem kR (n : Nat) (M : Mx) {r : Nat} (hr : r < n) (d : Int) (y : Nat -> Int) {m : Nat} (hm : m <= r) : aF n (bD M r fun b => d * M r b + sm m fun t => y t * M t b) = d * aF n M := by
 have e : (fun b => d * M r b + sm m fun t => y t * M t b) = fun b => d * M r b + sm m fun t => (if t < m then y t else 0) * M t b := by
  funext b; congr 1; exact aj fun t ht => by rw [if_pos ht]
 rw [e, j4 n M r hr (fun t => if t < m then y t else 0) (if_neg (by omega)) m (by omega), fH n M r d _ hr, eo]
theorem xE (h0 : dn k A nu cs ≠ 0) (i j : Nat) : dn k A nu cs * mn (k + 1) A nu cs i j = mn k A nu cs (nu k) (cs k) * mn k A nu cs i j - mn k A nu cs i (cs k) * mn k A nu cs (nu k) j := by
 obtain ⟨col, hcol⟩ : ∃ col : Nat -> Nat, ∀ b, col b = if b < k + 1 then cs b else j := ⟨fun b => if b < k + 1 then cs b else j, fun _ => rfl⟩;obtain ⟨M, hM⟩ : ∃ M : Mx, ∀ a b, M a b = A (if a < k + 1 then nu a else i) (col b) := ⟨fun a b => A (if a < k + 1 then nu a else i) (col b), fun _ _ => rfl⟩;have hN : mn (k + 1) A nu cs i j = aF (k + 2) M := aH (k + 2) fun a _ b _ => by rw [hM, hcol]
 obtain ⟨y, hy⟩ := fP k A nu cs i;obtain ⟨z, hz⟩ := fP k A nu cs (nu k);have hMt : ∀ t < k, ∀ b, M t b = A (nu t) (col b) := fun t ht b => by rw [hM, if_pos (by omega)]
 have e1 : (fun b => mn k A nu cs i (col b)) = fun b => dn k A nu cs * M (k + 1) b + sm k fun t => y t * M t b := by
  funext b;rw [hy, hM (k + 1), if_neg (by omega)];congr 1;exact aj fun t ht => by rw [hMt t ht]
 have d1 : aF (k + 2) (bD M (k + 1) fun b => mn k A nu cs i (col b)) = dn k A nu cs * aF (k + 2) M := by
  rw [e1]; exact kR (k + 2) M (by omega) _ y (by omega)
 obtain ⟨M1, hM1⟩ : ∃ M1, bD M (k + 1) (fun b => mn k A nu cs i (col b)) = M1 := ⟨_, rfl⟩;rw [hM1] at d1;have hM1t : ∀ t < k + 1, ∀ b, M1 t b = M t b := fun t ht b => by rw [<- hM1, aK _ (by omega)]
 have e2 : (fun b => mn k A nu cs (nu k) (col b)) = fun b => dn k A nu cs * M1 k b + sm k fun t => z t * M1 t b := by
  funext b;rw [hz, hM1t k (by omega), hM k, if_pos (by omega)];congr 1;exact aj fun t ht => by rw [hM1t t (by omega), hMt t ht]
 have d2 : aF (k + 2) (bD M1 k fun b => mn k A nu cs (nu k) (col b)) = dn k A nu cs * aF (k + 2) M1 := by
  rw [e2]; exact kR (k + 2) M1 (by omega) _ z (Nat.le_refl k)
 obtain ⟨M2, hM2⟩ : ∃ M2, bD M1 k (fun b => mn k A nu cs (nu k) (col b)) = M2 := ⟨_, rfl⟩;rw [hM2, d1] at d2;have r0 : ∀ b, M2 k b = mn k A nu cs (nu k) (col b) := fun b => by rw [<- hM2, bf]
 have r1 : ∀ b, M2 (k + 1) b = mn k A nu cs i (col b) := fun b => by rw [<- hM2, aK _ (by omega), <- hM1, bf]
 have hb := jE k 2 M2 fun a h1 h2 b hb => by
  have hc : col b = cs b := by rw [hcol, if_pos (by omega)]
  rcases (by omega : a = k ∨ a = k + 1) with rfl | rfl
  · rw [r0, hc]; exact kJ hb _
  · rw [r1, hc]; exact kJ hb _
 have hd : aF k M2 = dn k A nu cs := aH k fun a ha b hb => by
  rw [<- hM2, aK _ (by omega), hM1t a (by omega), hM, if_pos (by omega), hcol, if_pos (by omega)]
 have c0 : col k = cs k := by rw [hcol, if_pos (by omega)]
 have c1 : col (k + 1) = j := by rw [hcol, if_neg (by omega)]
 rw [hb, hd, det2] at d2;simp only [Nat.add_zero] at d2;rw [r0, r0, r1, r1, c0, c1] at d2;rw [hN];exact (Int.eq_of_mul_eq_mul_left h0 d2).symm
structure gv (n m : Nat) (A : Mx) (c k : Nat) (nu cs : Nat -> Nat) (R : Mx) (d : Int) : Prop where
 kn : k <= n
 cm : c <= m
 lt : ∀ i < n, nu i < n
 inj : ∀ i < n, ∀ j < n, nu i = nu j -> i = j
 inc : ∀ a b, a < b -> b < k -> cs a < cs b
 csl : ∀ t < k, cs t < c
 dE : d = dn k A nu cs
 d0 : d ≠ 0
 row : ∀ i, k <= i -> i < n -> ∀ j < m, R i j = mn k A nu cs (nu i) j
 z : ∀ i, k <= i -> i < n -> ∀ j < c, R i j = 0
 lz : ∀ t < k, ∀ j < cs t, mn t A nu cs (nu t) j = 0
 l0 : ∀ t < k, mn t A nu cs (nu t) (cs t) ≠ 0
end
section
variable {n m : Nat} {A : Mx} {c k : Nat} {nu cs : Nat -> Nat} {R : Mx} {d : Int}
theorem gv.start {n m : Nat} {A R : Mx} (cs : Nat -> Nat) (hR : ∀ i < n, ∀ j < m, R i j = A i j) : gv n m A 0 0 (fun i => i) cs R 1 :=
 ⟨Nat.zero_le _, Nat.zero_le _, fun _ h => h, fun _ _ _ _ e => e, fun _ _ _ h => by omega, fun _ h => by omega, rfl, by decide, fun i _ hi j hj => by rw [hR i hi j hj]; simp [mn, aF, sm, dj], fun _ _ _ _ h => by omega, fun _ h => by omega, fun _ h => by omega⟩
theorem gv.skip (h : gv n m A c k nu cs R d) (hc : c < m) (h0 : ∀ i, k <= i -> i < n -> R i c = 0) : gv n m A (c + 1) k nu cs R d :=
 ⟨h.kn, hc, h.lt, h.inj, h.inc, fun t ht => by have := h.csl t ht; omega, h.dE, h.d0, h.row, fun i h1 h2 j hj => by
  rcases (by omega : j < c ∨ j = c) with q | rfl
  · exact h.z i h1 h2 j q
  · exact h0 i h1 h2, h.lz, h.l0⟩
def jB (k p i : Nat) : Nat := if i = k then p else if i = p then k else i
theorem fs {n k p i : Nat} (hk : k < n) (hp : p < n) (hi : i < n) : jB k p i < n := by unfold jB; (repeat' split) <;> omega
theorem tD {k p i : Nat} (hp : k <= p) (hi : k <= i) : k <= jB k p i := by unfold jB; (repeat' split) <;> omega
theorem wz {k p i : Nat} (hp : k <= p) (hi : i < k) : jB k p i = i := by unfold jB; rw [if_neg (by omega), if_neg (by omega)]
theorem rX {k p i j : Nat} (h : jB k p i = jB k p j) : i = j := by unfold jB at h; (repeat' split at h) <;> omega
theorem gv.swap {p : Nat} {R' : Mx} (h : gv n m A c k nu cs R d) (hp : k <= p) (hpn : p < n) (hR : ∀ i, k <= i -> i < n -> ∀ j < m, R' i j = R (jB k p i) j) : gv n m A c k (fun i => nu (jB k p i)) cs R' d := by
 have hk : k < n := by omega
 have hl : ∀ t < k, nu (jB k p t) = nu t := fun t ht => by rw [wz hp ht]
 refine ⟨h.kn, h.cm, fun i hi => h.lt _ (fs hk hpn hi), fun i hi j hj e => rX (h.inj _ (fs hk hpn hi) _ (fs hk hpn hj) e), h.inc, h.csl, ?_, h.d0, fun i h1 h2 j hj => ?_, fun i h1 h2 j hj => ?_, fun t ht j hj => ?_, fun t ht => ?_⟩
 · rw [oL (cs' := cs) hl (fun _ _ => rfl)]; exact h.dE
 · rw [hR i h1 h2 j hj, h.row _ (tD hp h1) (fs hk hpn h2) j hj, eT (nu := nu) (cs := cs) hl (fun _ _ => rfl)]
 · have := h.cm;rw [hR i h1 h2 j (by omega)]; exact h.z _ (tD hp h1) (fs hk hpn h2) j hj
 · rw [eT (nu := nu) (cs := cs) (fun s hs => hl s (by omega)) (fun _ _ => rfl), hl t ht]; exact h.lz t ht j hj
 · rw [eT (nu := nu) (cs := cs) (fun s hs => hl s (by omega)) (fun _ _ => rfl), hl t ht]; exact h.l0 t ht
def kq (cs : Nat -> Nat) (k c : Nat) : Nat -> Nat := fun t => if t = k then c else cs t
theorem dy {t : Nat} (ht : t < k) : kq cs k c t = cs t := by unfold kq; rw [if_neg (by omega)]
theorem j5 : kq cs k c k = c := by unfold kq; rw [if_pos rfl]
theorem gv.exact (h : gv n m A c k nu cs R d) (hc : c < m) {i j : Nat} (hi : k < i) (hin : i < n) (hj : j < m) : R k c * R i j - R i c * R k j = d * mn (k + 1) A nu (kq cs k c) (nu i) j := by
 have hcg : ∀ i j, mn k A nu (kq cs k c) i j = mn k A nu cs i j := fun i j => eT (fun _ _ => rfl) (fun t ht => dy ht) i j;have hdg : dn k A nu (kq cs k c) = d := by rw [h.dE]; exact oL (fun _ _ => rfl) (fun t ht => dy ht)
 have := xE (A := A) (nu := nu) (cs := kq cs k c) (k := k) (by rw [hdg]; exact h.d0) (nu i) j;rw [hdg, j5, hcg, hcg, hcg, hcg] at this;rw [this, h.row k (Nat.le_refl _) (by omega) c hc, h.row i (by omega) hin j hj, h.row i (by omega) hin c hc, h.row k (Nat.le_refl _) (by omega) j hj]
theorem gv.take {R' : Mx} (h : gv n m A c k nu cs R d) (hc : c < m) (hk : k < n) (hp : R k c ≠ 0) (hR : ∀ i, k < i -> i < n -> ∀ j < m, R' i j = if c < j then mn (k + 1) A nu (kq cs k c) (nu i) j else 0) : gv n m A (c + 1) (k + 1) nu (kq cs k c) R' (R k c) := by
 have hcg : ∀ i j, mn k A nu (kq cs k c) i j = mn k A nu cs i j := fun i j => eT (fun _ _ => rfl) (fun t ht => dy ht) i j;have hz : ∀ i, k < i -> i < n -> ∀ j, j <= c -> mn (k + 1) A nu (kq cs k c) (nu i) j = 0 := fun i h1 h2 j hj => by
  have e := h.exact hc h1 h2 (j := j) (by omega);rcases (by omega : j < c ∨ j = c) with q | rfl
  · rw [h.z i (by omega) h2 j q, h.z k (Nat.le_refl _) hk j q, Int.mul_zero, Int.mul_zero, Int.sub_zero] at e;exact (Int.mul_eq_zero.1 e.symm).resolve_left h.d0
  · rw [Int.mul_comm, Int.sub_self] at e;exact (Int.mul_eq_zero.1 e.symm).resolve_left h.d0
 refine ⟨hk, hc, h.lt, h.inj, fun a b hab hb => ?_, fun t ht => ?_, ?_, hp, fun i h1 h2 j hj => ?_, fun i h1 h2 j hj => ?_, fun t ht j hj => ?_, fun t ht => ?_⟩
 · rcases (by omega : b < k ∨ b = k) with q | rfl
   · rw [dy (by omega), dy q]; exact h.inc a b hab q
   · rw [dy hab, j5]; exact h.csl a hab
 · rcases (by omega : t < k ∨ t = k) with q | rfl
   · rw [dy q]; have := h.csl t q; omega
   · rw [j5]; omega
 · rw [rO, j5, hcg]; exact h.row k (Nat.le_refl _) hk c hc
 · rw [hR i (by omega) h2 j hj];split
   · rfl
   · exact (hz i (by omega) h2 j (by omega)).symm
 · rw [hR i (by omega) h2 j (by omega), if_neg (by omega)]
 · rcases (by omega : t < k ∨ t = k) with q | rfl
   · rw [dy q] at hj;rw [eT (nu := nu) (cs := cs) (fun _ _ => rfl) (fun s hs => dy (by omega))]; exact h.lz t q j hj
   · rw [j5] at hj;rw [hcg, <- h.row t (Nat.le_refl _) hk j (by omega)]; exact h.z t (Nat.le_refl _) hk j hj
 · rcases (by omega : t < k ∨ t = k) with q | rfl
   · rw [dy q, eT (nu := nu) (cs := cs) (fun _ _ => rfl) (fun s hs => dy (by omega))]; exact h.l0 t q
   · rw [j5, hcg, <- h.row t (Nat.le_refl _) hk c hc]; exact hp
theorem mn_bd {B : Nat} (hA : ∀ i j, (A i j).natAbs <= B) (k i j : Nat) : (mn k A nu cs i j).natAbs <= ((k + 1) * B) ^ (k + 1) := qB (k + 1) _ fun _ _ => hA _ _
theorem gv.aF {s : Int} (h : gv n n A n n nu cs R d) : d = Go.Proofs.Ytjjlmfmoihooiaa.aF n fun a b => A (nu a) b := by
 have hc : ∀ t < n, cs t = t := by
  intro t ht;have h1 : ∀ s, s < n -> s <= cs s := by
   intro s;induction s with
   | zero => intro _; exact Nat.zero_le _
   | succ s ih => intro hs; have := ih (by omega); have := h.inc s (s + 1) (by omega) hs; omega
  have h2 : ∀ e s, s + e + 1 = n -> cs s <= s := by
   intro e;induction e with
   | zero => intro s hs; have := h.csl s (by omega); omega
   | succ e ih => intro s hs; have := ih (s + 1) (by omega); have := h.inc s (s + 1) (by omega) (by omega); omega
  have := h1 t ht;have := h2 (n - t - 1) t (by omega);omega
 rw [h.dE];exact aH n fun a _ b hb => by rw [hc b hb]
theorem gv.det0 (h : gv n n A k k nu cs R d) (hk : k < n) (h0 : ∀ i, k <= i -> i < n -> R i k = 0) : (Go.Proofs.Ytjjlmfmoihooiaa.aF n fun a b => A (nu a) b) = 0 := by
 have hc : ∀ t < k, cs t = t := by
  intro t ht;have h1 : ∀ s, s < k -> s <= cs s := by
   intro s;induction s with
   | zero => intro _; exact Nat.zero_le _
   | succ s ih => intro hs; have := ih (by omega); have := h.inc s (s + 1) (by omega) hs; omega
  have h2 : ∀ e s, s + e + 1 = k -> cs s <= s := by
   intro e;induction e with
   | zero => intro s hs; have := h.csl s (by omega); omega
   | succ e ih => intro s hs; have := ih (s + 1) (by omega); have := h.inc s (s + 1) (by omega) (by omega); omega
  have := h1 t ht;have := h2 (k - t - 1) t (by omega);omega
 have hch : ∀ i, ∃ y : Nat -> Int, ∀ j, mn k A nu cs (nu i) j = dn k A nu cs * A (nu i) j + sm k fun t => y t * A (nu t) j := fun i => fP k A nu cs (nu i);obtain ⟨y, hy⟩ := Classical.axiomOfChoice hch;obtain ⟨B, hB⟩ : ∃ B : Mx, ∀ i j, B i j = if i < k then A (nu i) j else mn k A nu cs (nu i) j := ⟨fun i j => if i < k then A (nu i) j else mn k A nu cs (nu i) j, fun _ _ => rfl⟩;have hr := uQ n (fun a b => A (nu a) b) B (fun i => if i < k then 1 else d) (fun _ => 1) (fun i t => if i < k then 0 else if t < k then y i t else 0) fun i hi j => by
  by_cases q : i < k
  · simp only [q, if_true];rw [hB, if_pos q, aZ fun t _ => Int.zero_mul _, Int.add_zero]
  · simp only [q, if_false];rw [hB, if_neg q, hy, Int.one_mul, <- h.dE];congr 1;obtain ⟨e, rfl⟩ : ∃ e, i = k + e := ⟨i - k, by omega⟩;rw [fD k e, aZ (n := e) fun t _ => by rw [if_neg (by omega), Int.zero_mul], Int.add_zero];exact aj fun t ht => by rw [if_pos ht, hB, if_pos ht]
 obtain ⟨e, rfl⟩ : ∃ e, n = k + (e + 1) := ⟨n - k - 1, by omega⟩;have hb := jE k (e + 1) B fun a h1 h2 b hb => by rw [hB, if_neg (by omega), <- h.row a h1 h2 b (by omega)]; exact h.z a h1 h2 b hb
 have hz : (Go.Proofs.Ytjjlmfmoihooiaa.aF (e + 1) fun a b => B (k + a) (k + b)) = 0 := by
  rw [Go.Proofs.Ytjjlmfmoihooiaa.aF];exact aZ fun a ha => by
   show dj a * B (k + a) (k + 0) * _ = 0;rw [Nat.add_zero, hB, if_neg (by omega), <- h.row (k + a) (by omega) (by omega) k (by omega), h0 (k + a) (by omega) (by omega), Int.mul_zero, Int.zero_mul]
 rw [hb, hz, Int.mul_zero, Int.mul_zero] at hr;refine (Int.mul_eq_zero.1 hr.symm).resolve_left (o4 _ fun i hi => ?_);split
 · decide
 · exact h.d0
theorem wj {k p : Nat} (hk : k < n) (hp : p < n) (hkp : k ≠ p) (B : Mx) : (Go.Proofs.Ytjjlmfmoihooiaa.aF n fun a b => B (jB k p a) b) = - Go.Proofs.Ytjjlmfmoihooiaa.aF n B := by
 have e1 : (fun a b => B (jB k p a) b) = bD (bD B k (B p)) p (B k) := by
  funext a b;unfold jB bD;by_cases h1 : a = k
  · subst h1; rw [if_pos rfl, if_neg hkp, if_pos rfl]
  · rw [if_neg h1];by_cases h2 : a = p
    · rw [if_pos h2, if_pos h2]
    · rw [if_neg h2, if_neg h2, if_neg h1]
 have e2 : bD (bD B k (B k)) p (B p) = B := by rw [eo, eo]
 rw [e1, pM n B hk hp hkp, e2]
theorem gv.leads {r c' : Nat} {E : Mx} {l : Nat -> Nat} (h : gv n m A m k nu cs R d) (hA : ∀ i j, m <= j -> A i j = 0) (hE : Ech r c' E l) (hs : aO r E n A) : k = r /\ ∀ t < k, cs t = l t := by
 obtain ⟨T, hT⟩ : ∃ T : Mx, ∀ t j, T t j = mn t A nu cs (nu t) j := ⟨fun t j => mn t A nu cs (nu t) j, fun _ _ => rfl⟩;have hst : mL k T cs := ⟨fun i hi => by rw [hT]; exact h.l0 i hi, fun i hi j hj => by rw [hT]; exact h.lz i hi j hj, fun a ha i hi => by rw [hT]; exact kJ hi _⟩;have hkn := h.kn;have hTA : ∀ t < k, Sp n A (T t) := fun t ht => by
  obtain ⟨y, hy⟩ := fP t A nu cs (nu t);have h1 : Sp n A fun j => dn t A nu cs * A (nu t) j := (Sp.row A (h.lt t (by omega))).smul _;have h2 : Sp n A fun j => sm t fun s => y s * A (nu s) j := Sp.sm (F := fun s => A (nu s)) (x := y) fun s hs => Sp.row A (h.lt s (by omega));exact (h1.add h2).congr fun j => by rw [hT, hy]
 have hdt : ∀ t < k + 1, dn t A nu cs ≠ 0 := fun t ht => by
  rcases (by omega : t < k ∨ t = k) with q | rfl
  · cases t with
    | zero => simp [dn, Go.Proofs.Ytjjlmfmoihooiaa.aF]
    | succ t => rw [rO]; exact h.l0 t (by omega)
  · rw [<- h.dE]; exact h.d0
 have hlow : ∀ s, s < k -> ∃ N : Int, N ≠ 0 /\ Sp k T fun j => N * A (nu s) j := by
  intro s;induction s using Nat.strongRecOn with
  | _ s ih =>
   intro hs';obtain ⟨y, hy⟩ := fP s A nu cs (nu s);obtain ⟨N, hN, hsp⟩ := oe (R := T) (A := fun t => A (nu t)) (n := s) (k := k) (fun i hi => ih i hi (by omega)) (v := fun j => sm s fun t => y t * A (nu t) j) ⟨y, fun _ => rfl⟩;refine ⟨N * dn s A nu cs, Int.mul_ne_zero hN (hdt s (by omega)), ((((Sp.row T hs').smul N).sub hsp)).congr fun j => ?_⟩;rw [hT, hy, Int.mul_add, Int.mul_assoc]; omega
 have hall : ∀ i < n, ∃ N : Int, N ≠ 0 /\ Sp k T fun j => N * A i j := fun i hi => by
  obtain ⟨s, hsn, rfl⟩ := uN n nu h.lt h.inj i hi;by_cases q : s < k
  · exact hlow s q
  · obtain ⟨y, hy⟩ := fP k A nu cs (nu s);obtain ⟨N, hN, hsp⟩ := oe (R := T) (A := fun t => A (nu t)) (n := k) (k := k) hlow (v := fun j => sm k fun t => y t * A (nu t) j) ⟨y, fun _ => rfl⟩;refine ⟨N * dn k A nu cs, Int.mul_ne_zero hN (hdt k (by omega)), (hsp.smul (-1)).congr fun j => ?_⟩;have h0 : mn k A nu cs (nu s) j = 0 := by
     by_cases hj : j < m
     · rw [<- h.row s (by omega) hsn j hj]; exact h.z s (by omega) hsn j hj
     · rw [hy, hA _ _ (by omega), Int.mul_zero, Int.zero_add]; exact aZ fun t _ => by rw [hA _ _ (by omega), Int.mul_zero]
    have h1 := hy j;rw [h0] at h1;rw [Int.mul_assoc];generalize dn k A nu cs * A (nu s) j = u at *;generalize sm k (fun t => y t * A (nu t) j) = v at *;obtain rfl : u = -v := by omega
    rw [Int.mul_neg]; omega
 have hkr := oC hst hE hs hall fun i hi => ⟨1, by decide, (hTA i hi).congr fun j => Int.one_mul _⟩;refine ⟨hkr, ?_⟩;have hq : ∀ t, ∃ q, t < k -> q < r /\ l q = cs t := fun t => by
  by_cases ht : t < k
  · obtain ⟨q, h1, h2, _⟩ := hE.lead ((hTA t ht).trans hs.2) (q := cs t) (hst.at_ t ht) (hst.zero t ht);exact ⟨q, fun _ => ⟨h1, h2⟩⟩
  · exact ⟨0, fun h => absurd h ht⟩
 obtain ⟨q, hq⟩ := Classical.axiomOfChoice hq;have hmono : ∀ s t, s < t -> t < k -> q s < q t := fun s t hst' ht => by
  refine Nat.lt_of_not_le fun hle => ?_;have h1 := h.inc s t hst' ht;rw [<- (hq s (by omega)).2, <- (hq t ht).2] at h1;rcases Nat.lt_or_eq_of_le hle with h2 | h2
  · have := hE.inc (q t) (q s) h2 (hq s (by omega)).1; omega
  · rw [h2] at h1; omega
 have up : ∀ s, s < k -> s <= q s := by
  intro s;induction s with
  | zero => intro _; exact Nat.zero_le _
  | succ s ih => intro hs'; have := ih (by omega); have := hmono s (s + 1) (by omega) hs'; omega
 have dw : ∀ e s, s + e + 1 = k -> q s <= s := by
  intro e;induction e with
  | zero => intro s hs'; have := (hq s (by omega)).1; omega
  | succ e ih => intro s hs'; have := ih (s + 1) (by omega); have := hmono s (s + 1) (by omega) (by omega); omega
 intro t ht;have h1 := up t ht;have h2 := dw (k - t - 1) t (by omega);have h3 : q t = t := by omega
 rw [<- (hq t ht).2, h3]
end
theorem oE {mw k : Nat} (hk : k <= 64) : (k * W ^ mw) ^ k < W ^ (64 * (mw + 1)) := by
 have h1 : k * W ^ mw < W ^ (mw + 1) := by
  rw [Nat.pow_succ, Nat.mul_comm (W ^ mw)];exact Nat.mul_lt_mul_of_pos_right (Nat.lt_of_le_of_lt hk (by unfold W; omega)) (Nat.pow_pos (by unfold W; omega))
 rcases Nat.eq_zero_or_pos k with rfl | h0
 · exact Nat.one_lt_pow (by omega) (by unfold W; omega)
 · refine Nat.lt_of_lt_of_le (Nat.pow_lt_pow_left h1 (by omega)) ?_;rw [<- Nat.pow_mul];exact Nat.pow_le_pow_right (by unfold W; omega) (by rw [Nat.mul_comm]; exact Nat.mul_le_mul_right _ hk)
theorem fX (n : Nat) (f : Nat -> Int) : sm (n + 1) f = f 0 + sm n fun k => f (k + 1) := by
 rw [Nat.add_comm n 1, fD];show 0 + f 0 + _ = _;rw [Int.zero_add];exact congrArg _ (aj fun k _ => by rw [Nat.add_comm])
theorem rB : ∀ (n : Nat) (M : Mx), aF (n + 1) M = sm (n + 1) fun j => dj j * M 0 j * aF n fun a b => M (a + 1) (bF j b)
 | 0, M => by
  show 0 + dj 0 * M 0 0 * 1 = 0 + dj 0 * M 0 0 * 1;rfl
 | n + 1, M => by
  have h1 : aF (n + 2) M = dj 0 * M 0 0 * aF (n + 1) (minor M 0) + sm (n + 1) fun i => dj (i + 1) * M (i + 1) 0 * aF (n + 1) (minor M (i + 1)) := fX (n + 1) _;rw [h1, fX (n + 1)];have e0 : aF (n + 1) (minor M 0) = aF (n + 1) fun a b => M (a + 1) (bF 0 b) := aH _ fun a _ b _ => by simp [minor, bF]
  rw [e0];refine congrArg _ ?_;have e1 : (sm (n + 1) fun i => dj (i + 1) * M (i + 1) 0 * aF (n + 1) (minor M (i + 1))) = sm (n + 1) fun i => sm (n + 1) fun j => dj (i + 1) * dj j * M (i + 1) 0 * M 0 (j + 1) * aF n fun a b => M (bF i a + 1) (bF j b + 1) := aj fun i _ => by
   rw [rB n (minor M (i + 1)), <- bg];refine aj fun j _ => ?_;have e2 : (aF n fun a b => minor M (i + 1) (a + 1) (bF j b)) = aF n fun a b => M (bF i a + 1) (bF j b + 1) := aH _ fun a _ b _ => by
    show M (bF (i + 1) (a + 1)) (bF j b + 1) = _;have : bF (i + 1) (a + 1) = bF i a + 1 := by unfold bF; (repeat' split) <;> omega
    rw [this]
   rw [e2];have e3 : minor M (i + 1) 0 j = M 0 (j + 1) := by
    show M (bF (i + 1) 0) (j + 1) = _;have : bF (i + 1) 0 = 0 := by unfold bF; rw [if_pos (by omega)]
    rw [this]
   rw [e3]
   ac_rfl
  have f1 : (sm (n + 1) fun j => dj (j + 1) * M 0 (j + 1) * aF (n + 1) fun a b => M (a + 1) (bF (j + 1) b)) = sm (n + 1) fun j => sm (n + 1) fun i => dj (i + 1) * dj j * M (i + 1) 0 * M 0 (j + 1) * aF n fun a b => M (bF i a + 1) (bF j b + 1) := aj fun j _ => by
   have f2 : (aF (n + 1) fun a b => M (a + 1) (bF (j + 1) b)) = sm (n + 1) fun i => dj i * M (i + 1) 0 * aF n fun a b => M (bF i a + 1) (bF j b + 1) := by
    show (sm (n + 1) fun i => dj i * M (i + 1) (bF (j + 1) 0) * aF n (minor (fun a b => M (a + 1) (bF (j + 1) b)) i)) = _;refine aj fun i _ => ?_;have g1 : bF (j + 1) 0 = 0 := by unfold bF; rw [if_pos (by omega)]
    rw [g1];congr 1;refine aH _ fun a _ b _ => ?_;show M (bF i a + 1) (bF (j + 1) (b + 1)) = _;have : bF (j + 1) (b + 1) = bF j b + 1 := by unfold bF; (repeat' split) <;> omega
    rw [this]
   rw [f2, <- bg];refine aj fun i _ => ?_;rw [jf j, jf i];simp only [Int.neg_mul, Int.mul_neg];refine congrArg _ ?_
   ac_rfl
  rw [e1, f1, iy]
theorem nY : ∀ (n : Nat) (M : Mx), aF n (tp M) = aF n M
 | 0, _ => rfl
 | n + 1, M => by
  rw [rB n M];show (sm (n + 1) fun i => dj i * tp M i 0 * aF n (minor (tp M) i)) = _;refine aj fun i _ => ?_;rw [<- nY n fun a b => M (a + 1) (bF i b)];rfl
theorem Mn.tp {k : Nat} {x : Int} {r c : Nat} {A : Mx} (h : Mn k x r c A) : Mn k x c r (tp A) := fun σ τ hσ hτ => by
 rw [<- nY];exact h τ σ hτ hσ
theorem pig (k q : Nat) (hk : k < q) (σ : Nat -> Nat) (h : ∀ a < q, σ a < k) : ∃ a b, a < b /\ b < q /\ σ a = σ b := Classical.byContradiction fun hn => by
 obtain ⟨i, hi, e⟩ := uN k σ (fun i hi => h i (by omega)) (fun i hi j hj e => Classical.byContradiction fun hij => by
  rcases Nat.lt_or_gt_of_ne hij with q' | q'
  · exact hn ⟨i, j, q', by omega, e⟩
  · exact hn ⟨j, i, q', by omega, e.symm⟩) (σ k) (h k hk)
 exact hn ⟨i, k, hi, hk, e⟩
theorem mO (n : Nat) (D : Int) (B : Mx) : ∀ s, s <= n -> aF n (fun a b => if a < s then D * B a b else B a b) = D ^ s * aF n B
 | 0, _ => by simp
 | s + 1, hs => by
  have e : (fun a b => if a < s + 1 then D * B a b else B a b) = bD (fun a b => if a < s then D * B a b else B a b) s (fun b => D * B s b) := by
   funext a b;unfold bD;by_cases h : a = s
   · subst h; simp
   · rw [if_neg h];show _ = if a < s then D * B a b else B a b;by_cases h2 : a < s
     · rw [if_pos h2, if_pos (by omega)]
     · rw [if_neg h2, if_neg (by omega)]
  have e2 : bD (fun a b => if a < s then D * B a b else B a b) s (B s) = fun a b => if a < s then D * B a b else B a b := by
   funext a b;unfold bD;by_cases h : a = s
   · subst h; simp
   · rw [if_neg h]
  rw [e, fH n _ s D (B s) (by omega), e2, mO n D B s (by omega), Int.pow_succ]
  ac_rfl
theorem j2 (n : Nat) (D : Int) (B : Mx) : aF n (fun a b => D * B a b) = D ^ n * aF n B := by
 rw [<- mO n D B n (Nat.le_refl _)];exact aH n fun a ha b _ => by rw [if_pos ha]
theorem wK {k q : Nat} {D : Int} (hD : D ≠ 0) (hk : k < q) {A B : Mx} (h : ∀ a < q, Sp k A fun j => D * B a j) : aF q B = 0 := by
 have h1 : (0 : Int) ∣ aF q fun a b => D * B a b := oS (A := A) (r := k) (fun σ hσ => by
  obtain ⟨a, b, hab, hb, e⟩ := pig k q hk σ hσ;exact Int.zero_dvd.2 (eQ q _ (k := a) (l := b) (by omega) hb (by omega) fun j => by rw [e])) h
 have h2 := Int.zero_dvd.1 h1;rw [j2] at h2;rcases Int.mul_eq_zero.1 h2 with e | e
 · exact absurd e (Int.pow_ne_zero hD)
 · exact e
theorem tv {k : Nat} {D : Int} (hD : D ≠ 0) {A B : Mx} (h : ∀ a < k, Sp k A fun j => D * B a j) (hA : aF k A = 0) : aF k B = 0 := by
 have h1 : (0 : Int) ∣ aF k fun a b => D * B a b := oS (A := A) (r := k) (fun σ hσ => by
  by_cases hi : ∀ i < k, ∀ j < k, σ i = σ j -> i = j
  · rcases jd k A k σ hσ (fun i h0 => by omega) (Nat.le_refl _) with e | e
    · exact Int.zero_dvd.2 e
    · rw [hA] at e;exact Int.zero_dvd.2 (Int.natAbs_eq_zero.1 e)
  · exact Int.zero_dvd.2 (Classical.byContradiction fun hn => hi fun i h1 j h2 e => Classical.byContradiction fun hij => hn (eQ k _ h1 h2 hij fun b => by rw [e]))) h
 have h2 := Int.zero_dvd.1 h1;rw [j2] at h2;rcases Int.mul_eq_zero.1 h2 with e | e
 · exact absurd e (Int.pow_ne_zero hD)
 · exact e
section
variable {n m : Nat} {A : Mx} {k : Nat} {nu cs : Nat -> Nat} {R : Mx} {d : Int}
theorem gv.span (h : gv n m A m k nu cs R d) (hA : ∀ i j, m <= j -> A i j = 0) {i : Nat} (hi : i < n) : Sp k (fun t => A (nu t)) fun j => d * A i j := by
 obtain ⟨s, hs, e⟩ := uN n nu h.lt h.inj i hi;by_cases hk : s < k
 · refine ⟨fun t => if t = s then d else 0, fun j => ?_⟩;rw [du s hk fun t _ hn => by show (if t = s then d else 0) * _ = 0; rw [if_neg hn, Int.zero_mul]];show d * A i j = (if s = s then d else 0) * A (nu s) j;rw [if_pos rfl, e]
 · obtain ⟨y, hy⟩ := fP k A nu cs i;refine ⟨fun t => - y t, fun j => ?_⟩;have h1 : mn k A nu cs i j = 0 := by
    by_cases hj : j < m
    · have h2 := h.row s (by omega) hs j hj;rw [h.z s (by omega) hs j hj, e] at h2;exact h2.symm
    · have h3 := hy j;rw [hA i j (by omega), Int.mul_zero, Int.zero_add] at h3;rw [h3];exact aZ fun t _ => by rw [hA _ j (by omega), Int.mul_zero]
   have h4 := hy j;rw [h1, <- h.dE] at h4;have h5 : (sm k fun t => - y t * A (nu t) j) = - sm k fun t => y t * A (nu t) j := by
    have := bg k (-1) fun t => y t * A (nu t) j;rw [show (-1 : Int) * (sm k fun t => y t * A (nu t) j) = - sm k fun t => y t * A (nu t) j by omega] at this;rw [<- this];exact aj fun t _ => by rw [Int.neg_mul]; omega
   show d * A i j = _;rw [h5]; omega
theorem gv.some (h : gv n m A m k nu cs R d) : ¬ Mn k 0 n m A := fun q =>
 h.d0 (h.dE.trans (Int.zero_dvd.1 (q nu cs (fun a ha => h.lt a (by have := h.kn; omega)) fun b hb => h.csl b hb)))
theorem gv.none (h : gv n m A m k nu cs R d) (hA : ∀ i j, m <= j -> A i j = 0) {q : Nat} (hq : k < q) : Mn q 0 n m A := fun σ τ hσ hτ =>
 Int.zero_dvd.2 (wK h.d0 hq (A := fun t b => A (nu t) (τ b)) fun a ha => by
  obtain ⟨y, hy⟩ := h.span hA (hσ a ha);exact ⟨y, fun b => hy (τ b)⟩)
theorem gv.turn {k' : Nat} {nu' cs' : Nat -> Nat} {R' : Mx} {d' : Int} (h : gv n m A m k nu cs R d) (h' : gv m n (tp A) n k' nu' cs' R' d') (hA : ∀ i j, m <= j -> A i j = 0) (hA' : ∀ i j, n <= i -> A i j = 0) : k = k' := by
 rcases Nat.lt_trichotomy k k' with q | q | q
 · exact absurd (h.none hA q).tp h'.some
 · exact q
 · exact absurd (h'.none (fun i j hj => hA' j i hj) q).tp h.some
theorem gv.xt (h : gv n m A m k nu cs R d) (hA : ∀ i j, m <= j -> A i j = 0) (hA' : ∀ i j, n <= i -> A i j = 0) {j : Nat} (hj : j < m) : Sp k (fun t => tp A (cs t)) fun i => d * tp A j i := by
 obtain ⟨y, hy⟩ := fP k (tp A) cs nu j;have e0 : dn k (tp A) cs nu = d := by rw [h.dE]; exact nY k fun a b => A (nu a) (cs b)
 have e1 : ∀ i, mn k (tp A) cs nu j i = 0 := fun i => by
  by_cases hi : i < n
  · have h1 : mn k (tp A) cs nu j i = mn k A nu cs i j := nY (k + 1) fun a b => A (if a < k then nu a else i) (if b < k then cs b else j);rw [h1];exact Int.zero_dvd.1 (h.none hA (Nat.lt_succ_self k) (fun a => if a < k then nu a else i) (fun b => if b < k then cs b else j) (fun a ha => by
     have := h.kn;show (if a < k then nu a else i) < n;split
     · exact h.lt a (by omega)
     · exact hi) fun b hb => by
     show (if b < k then cs b else j) < m;split
     · exact h.csl b (by assumption)
     · exact hj)
  · have h3 := hy i;rw [show tp A j i = 0 from hA' i j (by omega), Int.mul_zero, Int.zero_add] at h3;rw [h3];exact aZ fun t _ => by rw [show tp A (cs t) i = 0 from hA' i _ (by omega), Int.mul_zero]
 refine ⟨fun t => - y t, fun i => ?_⟩;have h4 := hy i;rw [e1, e0] at h4;have h5 : (sm k fun t => - y t * tp A (cs t) i) = - sm k fun t => y t * tp A (cs t) i := by
  have := bg k (-1) fun t => y t * tp A (cs t) i;rw [show (-1 : Int) * (sm k fun t => y t * tp A (cs t) i) = - sm k fun t => y t * tp A (cs t) i by omega] at this;rw [<- this];exact aj fun t _ => by rw [Int.neg_mul]; omega
 show d * tp A j i = _;rw [h5]; omega
theorem gv.core {nu' cs' : Nat -> Nat} {R' : Mx} {d' : Int} (h : gv n m A m k nu cs R d) (h' : gv m n (tp A) n k nu' cs' R' d') (hA : ∀ i j, m <= j -> A i j = 0) (hA' : ∀ i j, n <= i -> A i j = 0) : (Go.Proofs.Ytjjlmfmoihooiaa.aF k fun a b => A (cs' a) (cs b)) ≠ 0 := fun h0 => by
 refine h.d0 (h.dE.trans (tv (D := d') h'.d0 (A := fun t b => A (cs' t) (cs b)) (B := fun a b => A (nu a) (cs b)) (fun a ha => ?_) h0));obtain ⟨y, hy⟩ := h'.xt (fun i j hj => hA' j i hj) (fun i j hi => hA j i hi) (j := nu a) (h.lt a (by have := h.kn; omega));exact ⟨y, fun b => hy (cs b)⟩
end
end Go.Proofs.Ytjjlmfmoihooiaa
namespace Go.Proofs.Ytjjlmfmoihooiaa
open Go.RowKit
set_option maxRecDepth 100000 in
set_option maxHeartbeats 2000000 in
theorem vP (aoA aoB : Option Addr) (lA cA lB cB : Nat) (xs ys : List Nat) (w : World) (hA : bZ w aoA xs) (hB : bZ w aoB ys) (hlA : lA = xs.length) (hlB : lB = ys.length) (hmA : lA <= 17592186044415) (hmB : lB <= 17592186044415) :
 Calls Try.prog 48 #[.slice aoA lA cA, .slice aoB lB cB] w fun e w' => e = .returned (.bool (decide (xs = ys))) /\ Below w.heap.size w w' := by
 subst hlA hlB;have HA := Lib.hid hA; clear hA;have HB := Lib.hid hB; clear hB;go_enter Try.func48, Try.ntmps48;by_cases hs : xs.length = ys.length
 · have hb : (((xs.length : Nat) : Int) != ((ys.length : Nat) : Int)) = false := by rw [hs]; simp
   have Hs := Lib.hid hs; clear hs;go_wp2;go_loopw [5] (fun i wr => ∃ k : Nat, k <= xs.length /\ i = .int .i64 (k : Int) /\ Hid (∀ j, j < k -> gw xs j = gw ys j) /\ Below w.heap.size w wr) (fun i _ => xs.length - (intOf i).toNat)
   case atStart => exact ⟨0, Nat.zero_le _, rfl, Lib.hid (fun j hj => by omega), Below.refl _ _⟩
   case round =>
    obtain ⟨k, hk, rfl, hag, hbl⟩ := hrel;by_cases h0 : k < xs.length
    · have h01 : (k : Int) < (xs.length : Int) := by omega
      have h02 : (k : Int) < (ys.length : Int) := by have := Hs.out; omega
      obtain ⟨b1, o1, rfl, hb1, hc1⟩ := (HA.out.below hbl).pos (by omega);obtain ⟨b2, o2, rfl, hb2, hc2⟩ := (HB.out.below hbl).pos (by omega);have e1 := hc1 k h0;have e2 := hc2 k (by omega);clear hc1 hc2;by_cases hne : gw xs k = gw ys k
      · have t1 : (((gw xs k : Nat) : Int) != ((gw ys k : Nat) : Int)) = false := by rw [hne]; simp
        have HN := Lib.hid hne; clear hne;go_wp2
        go_quiet (fail)
        go_wp2;go_roundw
        case rel => exact ⟨k + 1, by omega, by go_num, Lib.hid (fun j hj => by
         by_cases e : j = k
         · subst e; exact HN.out
         · exact hag.out j (by omega)), below_drewN hbl _⟩
        case measure => simp [intOf]; omega
      · have t1 : (((gw xs k : Nat) : Int) != ((gw ys k : Nat) : Int)) = true := by rw [bne_iff_ne]; omega
        have hd : decide (xs = ys) = false := by
         rw [decide_eq_false_iff_not]; intro e; exact hne (by rw [e])
        have HD := Lib.hid hd; clear hd hne;go_wp2
        go_quiet (fail)
        go_wp2;go_ret;exact ⟨by rw [HD.out]; rfl, below_drewN hbl _⟩
    · obtain rfl : k = xs.length := by omega
      have hd : decide (xs = ys) = true := by
       rw [decide_eq_true_iff];refine List.ext_getElem Hs.out fun j h1 h2 => ?_;have := hag.out j h1;unfold gw at this;simpa [h1, h2] using this
      have HD := Lib.hid hd; clear hd;go_wp2;go_ret;exact ⟨by rw [HD.out]; rfl, hbl⟩
 · have hb : (((xs.length : Nat) : Int) != ((ys.length : Nat) : Int)) = true := by rw [bne_iff_ne]; omega
   have hd : decide (xs = ys) = false := by
    rw [decide_eq_false_iff_not]; intro e; exact hs (by rw [e])
   have HD := Lib.hid hd; clear hd hs;go_wp2;go_ret;exact ⟨by rw [HD.out]; rfl, Below.refl _ _⟩
theorem qQ (x y : Int) : (decide (eu x.natAbs = eu y.natAbs) && (decide (x < 0) == decide (y < 0))) = decide (x = y) := by
 have h1 : eu x.natAbs = eu y.natAbs ↔ x.natAbs = y.natAbs := ⟨fun h => by rw [<- cj x.natAbs, h, cj], fun h => by rw [h]⟩;rw [Bool.eq_iff_iff];simp only [Bool.and_eq_true, decide_eq_true_eq, beq_iff_eq, h1, decide_eq_decide];omega
theorem kk {fn : Func} {p q : Tmp} (h : fn.results = #[.cell p 24, .tmp q]) (tmps : Array Value) (w : World) (g : Nat) (a b c : Value) (hp : tmps.getD p undef = .pointer (some ⟨g, 0, none⟩)) (hr : ah w g 24 [a, b, c]) :
 (results fn tmps).run Try.prog w = .ok (.tuple #[.agg #[a, b, c], tmps.getD q undef]) w := by
 have hp' : tmps[p]?.getD undef = .pointer (some ⟨g, 0, none⟩) := by simpa using hp
 simp [results, h, hp', asAddr, run_loadVar_row w g 24 24 #[a, b, c] (0, 0) _ hr Try.underlying24 rfl (by kernel_rfl)]
theorem ah.set3 {w : World} {b : Nat} {t : TypeId} {x y z : Value} (h : ah w b t [x, y, z]) (u v s : Value) : ah (((w.setCell ⟨b, 0, none⟩ u).setCell ⟨b, 1, none⟩ v).setCell ⟨b, 2, none⟩ s) b t [u, v, s] := by
 have := ((h.set 0 u).set 1 v).set 2 s;exact this
theorem aN.mat (a b : Int) (ao : Option Addr) (l k : Nat) : aN [.int .i64 a, .int .i64 b, .slice ao l k] := aN.i64 (aN.i64 (aN.slice aN.nil))
theorem bR.yb {w : World} {b : Nat} {xs : List Int} (h : bR w b xs) {g : Nat} {x y : Int} {ao : Option Addr} {l k : Nat} (hr : ah w g 24 [.int .i64 x, .int .i64 y, .slice ao l k]) (u v : Int) (ao' : Option Addr) (l' k' : Nat) : bR (((w.setCell ⟨g, 0, none⟩ (.int .i64 u)).setCell ⟨g, 1, none⟩ (.int .i64 v)).setCell ⟨g, 2, none⟩ (.slice ao' l' k')) b xs := by
 have h1 := h.qi hr (by decide) (aN.mat x y ao l k) 0 (.int .i64 u);have r1 : ah _ g 24 [.int .i64 u, .int .i64 y, .slice ao l k] := hr.set 0 (.int .i64 u);have h2 := h1.qi r1 (by decide) (aN.mat u y ao l k) 1 (.int .i64 v);have r2 : ah _ g 24 [.int .i64 u, .int .i64 v, .slice ao l k] := r1.set 1 (.int .i64 v);exact h2.qi r2 (by decide) (aN.mat u v ao l k) 2 (.slice ao' l' k')
set_option maxRecDepth 100000 in
set_option maxHeartbeats 4000000 in
theorem uj (r c : Int) (ao : Option Addr) (len cap : Nat) (xs : List Int) (w : World) (hr : -9223372036854775808 <= r /\ r <= 9223372036854775807) (hc : -9223372036854775808 <= c /\ c <= 9223372036854775807) (h : aI w 17592186044415 ao xs) (hl : len = xs.length) (hs : bE r c len = true) (hlen : xs.length <= 8796093022208) :
 Calls Try.prog 16 #[.agg #[.int .i64 r, .int .i64 c, .slice ao len cap]] w fun e w' => (∃ b, e = .returned (.tuple #[.agg #[.int .i64 r, .int .i64 c, .slice (some ⟨b, 0, none⟩) xs.length xs.length], .int .i64 0]) /\ w.heap.size <= b /\ bR w' b xs) /\ Below w.heap.size w w' := by
 subst hl;have HL := Lib.hid h; clear h;have HS := Lib.hid (dC hs); clear hs;go_enter Try.func16, Try.ntmps16;go_wp2_with fail
 obtain ⟨r1, r2, hb⟩ := fS w #[.int .i64 r, .int .i64 c, .slice ao xs.length cap] #[.int .i64 0, .int .i64 0, .slice none 0 0] 24 24;generalize (w.alloc (.cells #[.int .i64 r, .int .i64 c, .slice ao xs.length cap] 24)).alloc (.cells #[.int .i64 0, .int .i64 0, .slice none 0 0] 24) = w2 at *;refine (dx r c ao xs.length cap _ hr hc).mono ?_;rintro e w3 ⟨rfl, hb3⟩;rw [HS.out];have R1 := r1.below hb3 r1.lt;have R2 := Lib.hid (r2.below hb3 r2.lt);have L3 := Lib.hid ((HL.out.below hb).below hb3);have B3 := Lib.hid (hb.trans (hb3.mono hb.size));have hs2 : w.heap.size + 1 < w3.heap.size := R2.out.lt;have e0 : w3.cell? ⟨w.heap.size, 0, none⟩ = some (.int .i64 r) := R1.cell 0;have e1 : w3.cell? ⟨w.heap.size, 1, none⟩ = some (.int .i64 c) := R1.cell 1;have e2 : w3.cell? ⟨w.heap.size, 2, none⟩ = some (.slice ao xs.length cap) := R1.cell 2;have hne : ¬ w.heap.size + 1 = w.heap.size := by omega
 have hlt : w.heap.size < w3.heap.size := by omega
 clear r1 r2 hb hb3 R1;go_wp2
 go_region_held3 (fun w' => w'.cell? ⟨w.heap.size, 0, none⟩ = some (.int .i64 r) /\ w'.cell? ⟨w.heap.size, 1, none⟩ = some (.int .i64 c) /\ w'.cell? ⟨w.heap.size, 2, none⟩ = some (.slice ao xs.length cap))
  (first
   | exact ⟨e0, e1, e2⟩
   | exact ⟨k0, k1, k2⟩
   | exact ⟨m0, m1, m2⟩)
  (first
   | (go_at_call 44; (refine (gQ ao cap xs _ (aI.below (w := w3) L3.out (Below.refl _ _).drew) hlen).mono ?_); rintro e w4 ⟨⟨b, rfl, hbl, hRb⟩, hb4⟩; have k0 := (hb4.cell (p := ⟨w.heap.size, 0, none⟩) hlt).trans e0; have k1 := (hb4.cell (p := ⟨w.heap.size, 1, none⟩) hlt).trans e1; have k2 := (hb4.cell (p := ⟨w.heap.size, 2, none⟩) hlt).trans e2; have hR4 := ah.below (w := w3.drew) R2.out hb4 R2.out.lt; have z0 := hR4.cell 0; have z1 := hR4.cell 1; have z2 := hR4.cell 2; have y0 := hR4.free 0; have y1 := hR4.free 1; have y2 := hR4.free 2; have m0 := ((World.cell?_setCell_far _ ⟨w.heap.size + 1, 2, none⟩ ⟨w.heap.size, 0, none⟩ (.slice (some ⟨b, 0, none⟩) xs.length xs.length) hne).trans ((World.cell?_setCell_far _ ⟨w.heap.size + 1, 1, none⟩ ⟨w.heap.size, 0, none⟩ (.int .i64 c) hne).trans ((World.cell?_setCell_far w4 ⟨w.heap.size + 1, 0, none⟩ ⟨w.heap.size, 0, none⟩ (.int .i64 r) hne).trans k0))); have m1 := ((World.cell?_setCell_far _ ⟨w.heap.size + 1, 2, none⟩ ⟨w.heap.size, 1, none⟩ (.slice (some ⟨b, 0, none⟩) xs.length xs.length) hne).trans ((World.cell?_setCell_far _ ⟨w.heap.size + 1, 1, none⟩ ⟨w.heap.size, 1, none⟩ (.int .i64 c) hne).trans ((World.cell?_setCell_far w4 ⟨w.heap.size + 1, 0, none⟩ ⟨w.heap.size, 1, none⟩ (.int .i64 r) hne).trans k1))); have m2 := ((World.cell?_setCell_far _ ⟨w.heap.size + 1, 2, none⟩ ⟨w.heap.size, 2, none⟩ (.slice (some ⟨b, 0, none⟩) xs.length xs.length) hne).trans ((World.cell?_setCell_far _ ⟨w.heap.size + 1, 1, none⟩ ⟨w.heap.size, 2, none⟩ (.int .i64 c) hne).trans ((World.cell?_setCell_far w4 ⟨w.heap.size + 1, 0, none⟩ ⟨w.heap.size, 2, none⟩ (.int .i64 r) hne).trans k2)))))
 go_wp2;have hs4 := hb4.size;have hbl : w3.heap.size <= b := hbl;have hbw : Below w.heap.size w w4 := B3.out.drew.trans (hb4.mono B3.out.size);refine bodyPost_ret (kk (p := 2) (q := 3) (by kernel_rfl) _ _ (w.heap.size + 1) _ _ _ rfl (hR4.set3 (.int .i64 r) (.int .i64 c) (.slice (some ⟨b, 0, none⟩) xs.length xs.length))) rfl ?_;exact ⟨⟨b, rfl, by omega, hRb.yb hR4 r c _ _ _⟩, ((hbw.setCell (p := ⟨w.heap.size + 1, 0, none⟩) (Nat.le_succ _) _).setCell (p := ⟨w.heap.size + 1, 1, none⟩) (Nat.le_succ _) _).setCell (p := ⟨w.heap.size + 1, 2, none⟩) (Nat.le_succ _) _⟩
set_option maxRecDepth 100000 in
set_option maxHeartbeats 4000000 in
theorem uI (r c : Int) (ao : Option Addr) (len cap : Nat) (xs : List Int) (w : World) (hr : -9223372036854775808 <= r /\ r <= 9223372036854775807) (hc : -9223372036854775808 <= c /\ c <= 9223372036854775807) (h : aI w 17592186044415 ao xs) (hl : len = xs.length) (hs : bE r c len = true) (hlen : xs.length <= 8796093022208) :
 Calls Try.prog 30 #[.agg #[.int .i64 r, .int .i64 c, .slice ao len cap]] w fun e w' => (∃ g b, e = .returned (.func (.func 55) #[] #[.pointer (some ⟨g, 0, none⟩)]) /\ w.heap.size <= g /\ w.heap.size <= b /\ ah w' g 24 [.int .i64 r, .int .i64 c, .slice (some ⟨b, 0, none⟩) xs.length xs.length] /\ bR w' b xs) /\ Below w.heap.size w w' := by
 subst hl;have HL := Lib.hid h; clear h;have hb0 : Below w.heap.size w (w.alloc (.cells #[.int .i64 r, .int .i64 c, .slice ao xs.length cap] 24)) := (Below.refl _ _).alloc (Nat.le_refl _) _;have HB0 := Lib.hid hb0; clear hb0;go_enter Try.func30, Try.ntmps30;go_wp2_with fail
 generalize w.alloc (.cells #[.int .i64 r, .int .i64 c, .slice ao xs.length cap] 24) = w1 at *;refine (uj r c ao xs.length cap xs _ hr hc (HL.out.below HB0.out) rfl hs hlen).mono ?_;rintro e w2 ⟨⟨b, rfl, hb, hR⟩, hb2⟩;have hbw : Below w.heap.size w w2 := HB0.out.trans (hb2.mono HB0.out.size);have hs1 := HB0.out.size;have HBW := Lib.hid hbw; clear hbw;have HR := Lib.hid hR; clear hR;have hs2 := hb2.size;clear hb2;go_wp2;go_ret;have hb3 : Below w2.heap.size w2 (w2.alloc (.cells #[.int .i64 r, .int .i64 c, .slice (some ⟨b, 0, none⟩) xs.length xs.length] 24)) := (Below.refl _ _).alloc (Nat.le_refl _) _;have hr3 := ah.new w2 #[.int .i64 r, .int .i64 c, .slice (some ⟨b, 0, none⟩) xs.length xs.length] 24;have hsz := HBW.out.size;exact ⟨⟨w2.heap.size, b, rfl, by omega, by omega, hr3, HR.out.below hb3⟩, HBW.out.trans (hb3.mono (by omega))⟩
def lead : List Int -> Nat
 | [] => 0
 | x :: xs => if x = 0 then lead xs + 1 else 0
theorem rj : ∀ xs : List Int, lead xs <= xs.length
 | [] => Nat.le_refl _
 | x :: xs => by
  unfold lead; split
  · have := rj xs; simp; omega
  · simp
def qC (k : Int) (xs ys : List Int) : List Int := List.zipWith (fun x y => k * y + x) xs ys
def nV (a b : Int) (xs ys : List Int) : List Int := List.zipWith (fun u v => a * u + b * v) xs ys
def ik (R : List Hd) (i : Nat) (xs : List Int) : List Hd := R.modify i (fun h => ⟨h.blk, h.cap, xs⟩)
theorem bH (R : List Hd) (i : Nat) (xs : List Int) : (ik R i xs).length = R.length := by simp [ik]
theorem jH {R : List Hd} {i : Nat} {xs : List Int} {j : Nat} (hj : j < R.length) : (ik R i xs)[j]'(by rw [bH]; exact hj) = if i = j then ⟨R[j].blk, R[j].cap, xs⟩ else R[j] := by
 unfold ik; rw [List.getElem_modify]
theorem jO (R : List Hd) (i : Nat) (xs : List Int) : (ik R i xs).map Hd.blk = R.map Hd.blk := by
 refine List.ext_getElem (by simp [bH]) fun j h1 h2 => ?_;simp only [List.getElem_map];rw [jH (by simpa using h2)];split <;> rfl
def u4 (R : List Hd) (i j : Nat) (k : Int) (hi : i < R.length) (hj : j < R.length) : List Hd := ik R i (qC k R[i].xs R[j].xs)
def tb (R : List Hd) (i j : Nat) (a b c d : Int) (hi : i < R.length) (hj : j < R.length) : List Hd := ik (ik R i (nV a b R[i].xs R[j].xs)) j (nV c d R[i].xs R[j].xs)
def mK (R : List Hd) (i j : Nat) (hi : i < R.length) (hj : j < R.length) : List Hd := (R.set i R[j]).set j R[i]
def swp (i j m : Nat) : Nat := if m = j then i else if m = i then j else m
theorem tI {i j m n : Nat} (hi : i < n) (hj : j < n) (hm : m < n) : swp i j m < n := by unfold swp; (repeat' split) <;> assumption
theorem fZ {R : List Hd} {i j : Nat} (hi : i < R.length) (hj : j < R.length) : (mK R i j hi hj).length = R.length := by simp [mK]
theorem mD {R : List Hd} {i j m : Nat} (hi : i < R.length) (hj : j < R.length) (hm : m < R.length) : (mK R i j hi hj)[m]'(by rw [fZ]; exact hm) = R[swp i j m]'(tI hi hj hm) := by
 unfold mK;rw [List.getElem_set];split
 · rename_i e; subst e; congr 1; unfold swp; rw [if_pos rfl]
 · rename_i e;rw [List.getElem_set];split
   · rename_i e'; subst e'; congr 1; unfold swp; rw [if_neg (fun h => e h.symm), if_pos rfl]
   · rename_i e'; congr 1; unfold swp; rw [if_neg (fun h => e h.symm), if_neg (fun h => e' h.symm)]
def qk (xs : List Int) : List Int := xs.map (fun x => -x)
def oB (R : List Hd) (i : Nat) (hi : i < R.length) : List Hd := ik R i (qk R[i].xs)
def az (R : List Hd) (i j : Nat) : Int := ((R[i]?).map (fun h => h.xs.getD j 0)).getD 0
def aP (R : List Hd) (i : Nat) : Nat := ((R[i]?).map (fun h => lead h.xs)).getD 0
theorem sL {R : List Hd} {i : Nat} (hi : i < R.length) : aP R i = lead R[i].xs := by
 unfold aP; simp [hi]
structure Fit (B c : Nat) (R : List Hd) : Prop where
 len : ∀ h ∈ R, h.xs.length = c
 fit : ∀ h ∈ R, ∀ x ∈ h.xs, ag x.natAbs <= B
def jt (R : List Hd) (i j : Nat) (k : Int) : List Hd := if h : i < R.length /\ j < R.length then u4 R i j k h.1 h.2 else R
theorem vM {R : List Hd} {i j : Nat} {k : Int} (hi : i < R.length) (hj : j < R.length) : jt R i j k = u4 R i j k hi hj := by unfold jt; rw [dif_pos ⟨hi, hj⟩]
theorem dI (R : List Hd) (i j : Nat) (k : Int) : (jt R i j k).length = R.length := by
 unfold jt; split
 · unfold u4; rw [bH]
 · rfl
inductive SIn (B c : Nat) (ls : List Nat) (i n : Nat) : Nat -> List Hd -> List Hd -> Prop
 | done {k : Nat} {R : List Hd} (h : n <= k) : SIn B c ls i n k R R
 | step {k : Nat} {R R' : List Hd} (h : k < n) (hF : Fit B c R) (hc : ls.getD k 0 < c) (hp : az R k (ls.getD k 0) ≠ 0) (hs : SIn B c ls i n (k + 1) (jt R i k (-((az R i (ls.getD k 0)).fdiv (az R k (ls.getD k 0))))) R') : SIn B c ls i n k R R'
inductive qn (B c : Nat) (ls : List Nat) (n : Nat) : Nat -> List Hd -> List Hd -> Prop
 | done {R : List Hd} : qn B c ls n 0 R R
 | step {m : Nat} {R R1 R' : List Hd} (h1 : SIn B c ls m n (m + 1) R R1) (h2 : qn B c ls n m R1 R') : qn B c ls n (m + 1) R R'
def ix (R : List Hd) (n : Nat) : List Nat := (List.range n).map (aP R)
theorem yd (v u : Value) (x y : Nat) (w : World) (hA : aw w 17592186044415 v x) (hB : aw w 17592186044415 u y) (hy : y ≠ 0) :
 Calls Try.prog 77 #[v, u] w fun e w' => (∃ v' u', e = .returned (.tuple #[v', u', .int .i64 0]) /\ ak w' w.heap.size v' ((x / y : Nat) : Int) /\ ak w' w.heap.size u' ((x % y : Nat) : Int)) /\ Below w.heap.size w w' :=
 lG v u x y w hA hB (by omega)
theorem sJ {x : Int} (h : bX x < 0) : x < 0 := by
 unfold bX at h; split at h
 · assumption
 · split at h <;> omega
structure ExtX where
 r : Nat
 k : Nat
 m : Int
 l : Int
 p : P4
 q : P4
 s : P4
 t : P4
set_option maxRecDepth 100000 in
set_option maxHeartbeats 4000000 in
theorem ym (v u : Value) (a b : Int) (w : World) (hA : aw w 4398046511103 v a) (hB : aw w 4398046511103 u b) :
 Calls Try.prog 57 #[v, u] w fun e w' => (∃ g x y vg vx vy, e = .returned (.tuple #[vg, vx, vy]) /\ dY a b g x y /\ ak w' w.heap.size vg g /\ ak w' w.heap.size vx x /\ ak w' w.heap.size vy y) /\ Below w.heap.size w w' := by
 have hla := hA.ag;have hlb := hB.ag;obtain ⟨p, rfl⟩ := hA.parts;obtain ⟨q, rfl⟩ := hB.parts;have hA0 := hA;have hA := hA.mono (L' := 17592186044415) (by omega);have hB := hB.mono (L' := 17592186044415) (by omega);have hsa := oh a;refine bB (S0 := fun _ => False) Try.func57 (((Fr.nil _ w).i hA).i hB) ?_;refine ae ?_;refine rW [] ?_;refine aW fun g2 => ?_;refine aW fun g3 => ?_;refine aW fun g4 => ?_;refine aW fun g5 => ?_;refine aW fun g6 => ?_;refine eW ?_;refine ae ?_;refine rW [] ?_;refine dW ?_;refine cV (fun w H => eh _ b w H.m5) ?_;refine dW ?_;refine eW ?_;refine ae ?_;refine kS (fun h => ?_) (fun h => ?_)
 · refine ae ?_;refine rW [[], [], [], [], [], [1, 2]] ?_;refine dH ?_;refine cN (fun w H => jJ _ a w H.m6) fun p1 => ?_;refine dH ?_;refine cV (fun w H => eh _ a w H.m7) ?_;refine cN (fun w H => gY (bX a) w (by omega) (by omega)) fun p2 => ?_;refine dH ?_;refine sW ?_;refine sW ?_;refine sW ?_;refine eW ?_;refine ae ?_;refine qI fun w H => ?_;obtain rfl : b = 0 := jC.1 (by simpa using h);exact ⟨_, _, _, iq H.m4, iq H.m3, iq H.m2, ⟨_, _, _, _, _, _, rfl, qN a, H.m1, H.m0, ak.zero _ _⟩, H.below⟩
 refine ae ?_;refine rW [] ?_;refine dW ?_;refine cN (fun w H => jJ _ a w H.m6) fun p1 => ?_;refine dW ?_;refine cN (fun w H => jJ _ b w H.m6) fun p2 => ?_;refine dW ?_;refine aW fun g7 => ?_;refine sG ?_;refine eW ?_;refine ae ?_;refine rW [] ?_;refine cN (fun w H => gY 1 w (by omega) (by omega)) fun p3 => ?_;refine cN (fun w H => gY 0 w (by omega) (by omega)) fun p4 => ?_;refine dW ?_;refine aW fun g8 => ?_;refine sG ?_;refine eW ?_;refine ae ?_;have hb0 : b ≠ 0 := fun e => by rw [jC.2 e] at h; cases h
 refine bL (X := ExtX) (fun x => kh a.natAbs b x.r x.k x.m x.l /\ x.r <= max a.natAbs b.natAbs /\ x.k <= max a.natAbs b.natAbs) (·.k) (fun _ => [(8, .pointer (some ⟨g8, 0, none⟩)), (7, .pointer (some ⟨g7, 0, none⟩)), (6, .pointer (some ⟨g6, 0, none⟩)), (5, .pointer (some ⟨g5, 0, none⟩)), (4, .pointer (some ⟨g4, 0, none⟩)), (3, .pointer (some ⟨g3, 0, none⟩)), (2, .pointer (some ⟨g2, 0, none⟩))])
  (fun x => [.row g8 106 (cl x.s ++ cl x.t), .own w.heap.size (av x.t) x.l, .own w.heap.size (av x.s) x.m, .row g7 106 (cl x.p ++ cl x.q), .own w.heap.size (av x.q) x.k, .own w.heap.size (av x.p) x.r, .row g6 27 (cl p0), .row g5 27 (cl p0), .row g4 27 (cl p0), .row g3 27 (cl q), .row g2 27 (cl p), .at 17592186044415 (av q) b, .at 17592186044415 (av p) a])
  ⟨a.natAbs, b.natAbs, 1, 0, p1, p2, p3, p4⟩ ⟨kh.start _ hb0, Nat.le_max_left .., Nat.le_max_right ..⟩ (fun x hx => ?_)
 · have hmx : ag (max a.natAbs b.natAbs) <= 4398046511103 := by rcases Nat.le_total a.natAbs b.natAbs with h | h <;> simp [Nat.max_eq_left, Nat.max_eq_right, h, hla, hlb]
   obtain ⟨hE, hr, hk⟩ := hx;have br : ag ((x.r : Nat) : Int).natAbs <= 4398046511103 := Nat.le_trans (aG hr) hmx;have bk : ag ((x.k : Nat) : Int).natAbs <= 4398046511103 := Nat.le_trans (aG hk) hmx;have bm : ag x.m.natAbs <= 4398046511103 := Nat.le_trans (aG hE.k0) hlb;have bl : ag x.l.natAbs <= 4398046511103 := Nat.le_trans (aG hE.k1) hlb;refine ae ?_;refine rW [] ?_;refine dW ?_;refine dW ?_;refine cV (fun w H => eh _ x.k w (ak.int H.m4 (by omega))) ?_;refine dW ?_;refine eW ?_;refine ae ?_;refine kS (fun h => ?_) (fun h => ?_)
   · have hk0 : x.k ≠ 0 := fun e => by rw [e] at h; cases h
     refine ae ?_;refine rW [] ?_;refine dW ?_;refine dW ?_;refine dW ?_;refine dW ?_;refine cN2 (fun w H => yd _ _ x.r x.k w (ak.int H.m5 (by omega)) (ak.int H.m4 (by omega)) (by omega)) fun p5 p6 => ?_;refine dW ?_;refine dW ?_;refine dW ?_;refine dW ?_;refine aW fun g9 => ?_;refine aW fun g10 => ?_;refine sG ?_;refine sG ?_;refine dW ?_;refine eW ?_;refine ae ?_;refine rW [] ?_;refine dW ?_;refine dW ?_;refine dW ?_;refine dW ?_;refine dW ?_;have hs := hE.step hk0;have bq : ag ((x.r / x.k : Nat) : Int).natAbs <= 4398046511103 := Nat.le_trans (aG (Nat.le_trans (Nat.div_le_self ..) hr)) hmx;have bn := Nat.le_trans (aG hs.k1) hlb;refine cN (x := ((x.r / x.k : Nat) : Int) * x.l) (fun w H => fR _ _ _ _ 4398046511103 4398046511103 w (ak.int H.m2 bq) (ak.int H.m5 bl) (by omega)) fun p7 => ?_;refine cN (fun w H => jD _ _ _ _ w (ak.int H.m7 (by omega)) (ak.int H.m0 (Nat.le_trans (by rw [Int.natAbs_mul]; exact cg ..) (by omega : _ <= 17592186044415)))) fun p8 => ?_;refine aW fun g12 => ?_;refine sG ?_;refine eW ?_;refine ae ?_;refine rW [] ?_;refine dW ?_;refine dW ?_;refine dW ?_;refine dW ?_;refine sW ?_;refine eW ?_;refine ae ?_;refine rW [] ?_;refine dW ?_;refine dW ?_;refine dW ?_;refine dW ?_;refine sW ?_;refine eW ?_;refine ae ?_;refine bJ ⟨x.k, x.r % x.k, x.l, x.m - ((x.r / x.k : Nat) : Int) * x.l, x.q, p6, x.t, p8⟩ ⟨⟨hs, hk, Nat.le_trans (Nat.le_of_lt (Nat.mod_lt _ (by omega))) hk⟩, Nat.mod_lt _ (by omega)⟩
   · have hk0 : x.k = 0 := by
      have := jC.1 (by simpa using h : bX x.k = 0);omega
     rw [hk0] at hE;obtain ⟨hg, hd⟩ := hE.done hb0;have hmb := hE.k0;refine ae ?_;refine rW [[], [], [8], [8]] ?_;refine dH ?_;refine dH ?_;refine dH ?_;refine dH ?_;refine sW ?_;refine sW ?_;refine eW ?_;refine ae ?_;refine rW [] ?_;refine dW ?_;refine cV (fun w H => eh _ a w H.m12) ?_;refine dW ?_;refine eW ?_;refine ae ?_;refine uo (X := P4 × Int) (fun z => b ∣ (x.r : Int) - z.2 * a /\ ag z.2.natAbs <= 4398046511103) (fun _ => [(6, .pointer (some ⟨g6, 0, none⟩)), (5, .pointer (some ⟨g5, 0, none⟩)), (4, .pointer (some ⟨g4, 0, none⟩)), (3, .pointer (some ⟨g3, 0, none⟩)), (2, .pointer (some ⟨g2, 0, none⟩))])
      (fun z => [.own w.heap.size (av z.1) z.2, .own w.heap.size (av x.p) x.r, .row g6 27 (cl p0), .row g5 27 (cl z.1), .row g4 27 (cl x.p), .row g3 27 (cl q), .row g2 27 (cl p), .at 17592186044415 (av q) b, .at 17592186044415 (av p) a]) ?_ (fun z hz => ?_)
     · refine kS (fun h => ?_) (fun h => ?_)
       · have ha := sJ (by simpa using h);rw [if_pos ha] at hd;refine ae ?_;refine rW [] ?_;refine dW ?_;refine cN (fun w H => ly _ x.m w (ak.int H.m2 (by omega))) fun p9 => ?_;refine sW ?_;refine eW ?_;refine ae ?_;exact lT (p9, -x.m) ⟨hd, by simpa using bm⟩
       · have ha : ¬ a < 0 := fun e => by
          have : bX a = -1 := by unfold bX; rw [if_pos e]
          rw [this] at h; cases h
         rw [if_neg ha] at hd;refine ae ?_;exact lT (x.s, x.m) ⟨hd, bm⟩
     · obtain ⟨pm, m⟩ := z;obtain ⟨h1, h2, h3, h4⟩ := ot hb0 hg hz.1;have bz : ag m.natAbs <= 4398046511103 := hz.2;have hr0 : (x.r : Int) ≠ 0 := fun e => hb0 (Int.zero_dvd.1 (e ▸ h1));have bq : ag (b / (x.r : Int)).natAbs <= 4398046511103 := Nat.le_trans (aG (Int.natAbs_ediv_le_natAbs _ _)) hlb;have bx : ag (m % (b / (x.r : Int))).natAbs <= 4398046511103 := Nat.le_trans (aG (by have := Int.emod_nonneg m h2; have := Int.emod_lt m h2; omega)) bq;refine ae ?_;refine rW [] ?_;refine dW ?_;refine dW ?_;refine sY (fun w H => fe _ _ b x.r w H.m7 (ak.int H.m1 (by omega)) hr0 h1) fun p9 => ?_;refine dW ?_;refine dW ?_;refine dW ?_;refine aW fun g13 => ?_;refine sG ?_;refine dW ?_;refine eW ?_;refine ae ?_;refine rW [[], [], [], [], [], [5]] ?_;refine dH ?_;refine dH ?_;refine sY (fun w H => qZ _ _ m _ w (ak.int H.m2 (by omega)) (ak.int H.m1 (by omega)) h2) fun p10 => ?_;refine dH ?_;refine dH ?_;refine dH ?_;refine sW ?_;refine eW ?_;refine ae ?_;refine rW [[], [], [], [], [], [], [], [], [], [5]] ?_;refine dH ?_;refine dH ?_;refine dH ?_;refine cN (fun w H => fR _ _ a _ 4398046511103 4398046511103 w (aw.below hA0 H.below) (ak.int H.m0 bx) (by omega)) fun p11 => ?_;have bp : ag (a * (m % (b / (x.r : Int)))).natAbs <= 8796093022206 := Nat.le_trans (by rw [Int.natAbs_mul]; exact cg ..) (by omega : _ <= 8796093022206);refine cN (fun w H => jD _ _ _ _ w (ak.int H.m5 (by omega)) (ak.int H.m0 (by omega))) fun p12 => ?_;refine dH ?_;have bs : ag ((x.r : Int) - a * (m % (b / (x.r : Int)))).natAbs <= 17592186044415 := by
        have h5 := aG (Int.natAbs_sub_le (x.r : Int) (a * (m % (b / (x.r : Int)))));have h6 := uh (x.r : Int).natAbs (a * (m % (b / (x.r : Int)))).natAbs;have h7 : max (ag (x.r : Int).natAbs) (ag (a * (m % (b / (x.r : Int)))).natAbs) <= 8796093022206 := Nat.max_le.2 ⟨by omega, bp⟩;omega
       refine sY (fun w H => fe _ _ _ b w (ak.int H.m0 bs) H.m12 hb0 h3) fun p13 => ?_;refine dH ?_;refine dH ?_;refine dH ?_;refine sW ?_;refine eW ?_;refine ae ?_;refine rW [[], [10], [10, 9]] ?_;refine dH ?_;refine dH ?_;refine dH ?_;refine sW ?_;refine sW ?_;refine sW ?_;refine eW ?_;refine ae ?_;refine qI fun w H => ?_;exact ⟨_, _, _, iq H.m10, iq H.m9, iq H.m8, ⟨_, _, _, _, _, _, rfl, h4, H.m7, H.m3, H.m0⟩, H.below⟩
end Go.Proofs.Ytjjlmfmoihooiaa
namespace Go.Proofs.Ytjjlmfmoihooiaa
def jT (r0 r1 : Nat) (m0 m1 : Int) : Nat × Int :=
 if h : r1 = 0 then (r0, m0) else jT r1 (r0 % r1) m1 (m0 - ((r0 / r1 : Nat) : Int) * m1)
termination_by r1
decreasing_by exact Nat.mod_lt _ (Nat.pos_of_ne_zero h)
theorem uL {A : Nat} {b : Int} : ∀ (r1 r0 : Nat) (m0 m1 : Int), kh A b r0 r1 m0 m1 -> ∃ m', kh A b (jT r0 r1 m0 m1).1 0 (jT r0 r1 m0 m1).2 m' := by
 intro r1;induction r1 using Nat.strongRecOn with
 | _ r1 ih =>
  intro r0 m0 m1 h;by_cases h0 : r1 = 0
  · subst h0; rw [jT]; exact ⟨m1, by simpa using h⟩
  · rw [jT, dif_neg h0];exact ih (r0 % r1) (Nat.mod_lt _ (Nat.pos_of_ne_zero h0)) _ _ _ (h.step h0)
def bQ (a b : Int) : Int := if b = 0 then a.natAbs else (jT a.natAbs b.natAbs 1 0).1
def ef (a b : Int) : Int := if b = 0 then a.sign else (if a < 0 then -(jT a.natAbs b.natAbs 1 0).2 else (jT a.natAbs b.natAbs 1 0).2) % (b / bQ a b)
def gJ (a b : Int) : Int := if b = 0 then 0 else (bQ a b - a * ef a b) / b
theorem j7 (a b : Int) : dY a b (bQ a b) (ef a b) (gJ a b) := by
 by_cases hb : b = 0
 · unfold dY bQ ef gJ; simp [hb]
 · obtain ⟨m', h⟩ := uL _ _ _ _ (kh.start a.natAbs hb);obtain ⟨h1, h2⟩ := h.done hb;have hg : bQ a b = ((jT a.natAbs b.natAbs 1 0).1 : Int) := by unfold bQ; rw [if_neg hb]
   have h3 := (ot (m := if a < 0 then -(jT a.natAbs b.natAbs 1 0).2 else (jT a.natAbs b.natAbs 1 0).2) hb (hg.trans h1) (by rw [hg]; exact h2)).2.2.2;have hx : ef a b = (if a < 0 then -(jT a.natAbs b.natAbs 1 0).2 else (jT a.natAbs b.natAbs 1 0).2) % (b / bQ a b) := by
    unfold ef; rw [if_neg hb]
   have hy : gJ a b = (bQ a b - a * ef a b) / b := by unfold gJ; rw [if_neg hb]
   rw [hy, hx];exact h3
theorem dY.unique {a b g x y g' x' y' : Int} (h : dY a b g x y) (h' : dY a b g' x' y') : g = g' /\ x = x' /\ y = y' := by
 unfold dY at h h';by_cases hb : b = 0
 · rw [if_pos hb] at h h';obtain ⟨h1, h2, h3⟩ := h;obtain ⟨h1', h2', h3'⟩ := h';exact ⟨h1.trans h1'.symm, h2.trans h2'.symm, h3.trans h3'.symm⟩
 · rw [if_neg hb] at h h';obtain ⟨h1, h2, h3, h4⟩ := h;obtain ⟨h1', h2', h3', h4'⟩ := h';have hg : g = g' := h1.trans h1'.symm;subst hg;have hgb : g ∣ b := h1 ▸ Int.gcd_dvd_right ..;have hga : g ∣ a := h1 ▸ Int.gcd_dvd_left ..;obtain ⟨c, hc⟩ := hgb;obtain ⟨e, he⟩ := hga;have hg0 : g ≠ 0 := fun hh => hb (by rw [hc, hh, Int.zero_mul]);have hgp : 0 < g := by rw [h1] at hg0 ⊢; omega
   have k1 : e * x + c * y = 1 := by
    have : g * (e * x + c * y) = g * 1 := by rw [Int.mul_add, <- Int.mul_assoc, <- Int.mul_assoc, <- he, <- hc, h4, Int.mul_one]
    exact Int.eq_of_mul_eq_mul_left hg0 this
   have k2 : e * x' + c * y' = 1 := by
    have : g * (e * x' + c * y') = g * 1 := by rw [Int.mul_add, <- Int.mul_assoc, <- Int.mul_assoc, <- he, <- hc, h4', Int.mul_one]
    exact Int.eq_of_mul_eq_mul_left hg0 this
   have hcb : (b.natAbs : Int) = c.natAbs * g := by
    rw [hc, Int.natAbs_mul, Int.natCast_mul, Int.natAbs_of_nonneg (Int.le_of_lt hgp), Int.mul_comm]
   rw [hcb] at h3 h3';have hx : x < c.natAbs := Int.lt_of_mul_lt_mul_right h3 (Int.le_of_lt hgp);have hx' : x' < c.natAbs := Int.lt_of_mul_lt_mul_right h3' (Int.le_of_lt hgp);have hdv : c ∣ x - x' := by
    have e1 : x - x' = c * (x * y' - x' * y) := by
     have e2 : x * (e * x' + c * y') - x' * (e * x + c * y) = x - x' := by rw [k1, k2]; omega
     rw [<- e2];simp only [Int.mul_add, Int.mul_sub];have e3 : x * (e * x') = x' * (e * x) := by rw [Int.mul_left_comm, Int.mul_left_comm x' e x, Int.mul_comm x x']
     have e4 : x * (c * y') = c * (x * y') := Int.mul_left_comm ..;have e5 : x' * (c * y) = c * (x' * y) := Int.mul_left_comm ..;rw [e3, e4, e5]; omega
    exact ⟨_, e1⟩
   have hxx : x = x' := by
    have hn := Int.natAbs_dvd_natAbs.2 hdv;have hlt : (x - x').natAbs < c.natAbs := by omega
    have := Nat.eq_zero_of_dvd_of_lt hn hlt;omega
   subst hxx;refine ⟨rfl, rfl, ?_⟩;have : b * y = b * y' := by omega
   exact Int.eq_of_mul_eq_mul_left hb this
end Go.Proofs.Ytjjlmfmoihooiaa
namespace Go.Proofs.Ytjjlmfmoihooiaa
open Go.RowKit
theorem lI (a b : Int) : bQ a b ∣ a /\ bQ a b ∣ b /\ (a ≠ 0 -> bQ a b ≠ 0) /\ 0 <= bQ a b := by
 have h := j7 a b;unfold dY at h;by_cases hb : b = 0
 · rw [if_pos hb] at h;rw [h.1, hb];refine ⟨Int.natAbs_dvd.2 (Int.dvd_refl a), Int.dvd_zero _, fun ha => by omega, by omega⟩
 · rw [if_neg hb] at h;rw [h.1];refine ⟨Int.gcd_dvd_left .., Int.gcd_dvd_right .., fun ha h0 => ?_, by omega⟩;have : Int.gcd a b = 0 := by omega
   exact ha (Int.gcd_eq_zero_iff.1 this).1
theorem rm (a b : Int) : (ef a b).natAbs <= b.natAbs + 1 := by
 have h := j7 a b;have hg := lI a b;unfold dY at h;by_cases hb : b = 0
 · rw [if_pos hb] at h;rw [h.2.1];have := Int.natAbs_sign a;rcases Int.lt_trichotomy a 0 with h1 | h1 | h1
   · rw [Int.sign_eq_neg_one_of_neg h1]; simp
   · subst h1; simp
   · rw [Int.sign_eq_one_of_pos h1]; simp
 · rw [if_neg hb] at h;obtain ⟨h1, h2, h3, h4⟩ := h;have hg1 : 1 <= bQ a b := by
    have h0 : bQ a b ≠ 0 := by
     rw [h1]; intro h0;have : Int.gcd a b = 0 := by omega
     exact hb (Int.gcd_eq_zero_iff.1 this).2
    have := hg.2.2.2;omega
   have : ef a b * 1 <= ef a b * bQ a b := Int.mul_le_mul_of_nonneg_left hg1 h2;omega
theorem wD (a b : Int) : (gJ a b).natAbs <= a.natAbs + 1 := by
 have h := j7 a b;have hx := rm a b;unfold dY at h;by_cases hb : b = 0
 · rw [if_pos hb] at h;rw [h.2.2]; simp
 · rw [if_neg hb] at h;obtain ⟨h1, h2, h3, h4⟩ := h;have hg := (lI a b).2.2.2;have hgb : (bQ a b).natAbs <= b.natAbs := by
    rw [h1];simp only [Int.natAbs_natCast];exact Nat.le_of_dvd (by omega) (Int.natAbs_dvd_natAbs.2 (Int.gcd_dvd_right a b) |> fun h => by simpa using h)
   have hg1 : 1 <= bQ a b := by
    have h0 : bQ a b ≠ 0 := by
     rw [h1]; intro h0;have : Int.gcd a b = 0 := by omega
     exact hb (Int.gcd_eq_zero_iff.1 this).2
    omega
   have hxl : (ef a b).natAbs <= b.natAbs := by
    have : ef a b * 1 <= ef a b * bQ a b := Int.mul_le_mul_of_nonneg_left hg1 h2;omega
   have h5 : b * gJ a b = bQ a b - a * ef a b := by omega
   have h6 : b.natAbs * (gJ a b).natAbs <= b.natAbs * (a.natAbs + 1) := by
    rw [<- Int.natAbs_mul, h5];have h7 : (bQ a b - a * ef a b).natAbs <= (bQ a b).natAbs + (a * ef a b).natAbs := Int.natAbs_sub_le ..;have h8 : (a * ef a b).natAbs <= a.natAbs * b.natAbs := by rw [Int.natAbs_mul]; exact Nat.mul_le_mul_left _ hxl
    rw [Nat.mul_add, Nat.mul_one, Nat.mul_comm b.natAbs a.natAbs];omega
   exact Nat.le_of_mul_le_mul_left h6 (by omega)
def mc (R : List Hd) (i j : Nat) (a b c d : Int) : List Hd := if h : i < R.length /\ j < R.length then tb R i j a b c d h.1 h.2 else R
theorem wN {R : List Hd} {i j : Nat} {a b c d : Int} (hi : i < R.length) (hj : j < R.length) : mc R i j a b c d = tb R i j a b c d hi hj := by unfold mc; rw [dif_pos ⟨hi, hj⟩]
def cI (R : List Hd) (k n j : Nat) : List Hd := jt R n k (-((az R n j).fdiv (az R k j)))
def fK (R : List Hd) (k n j : Nat) : List Hd :=
 if (az R n j).fmod (az R k j) = 0 then cI R k n j
 else mc (cI R k n j) k n (ef (az (cI R k n j) k j) (az (cI R k n j) n j)) (gJ (az (cI R k n j) k j) (az (cI R k n j) n j))
  (-(az (cI R k n j) n j / bQ (az (cI R k n j) k j) (az (cI R k n j) n j))) (az (cI R k n j) k j / bQ (az (cI R k n j) k j) (az (cI R k n j) n j))
def gV (R : List Hd) (i : Nat) : List Hd := if h : i < R.length then oB R i h else R
def swapT (R : List Hd) (i j : Nat) : List Hd := if h : i < R.length /\ j < R.length then mK R i j h.1 h.2 else R
theorem ux {R : List Hd} {i : Nat} (hi : i < R.length) : gV R i = oB R i hi := by unfold gV; rw [dif_pos hi]
theorem tK {R : List Hd} {i j : Nat} (hi : i < R.length) (hj : j < R.length) : swapT R i j = mK R i j hi hj := by unfold swapT; rw [dif_pos ⟨hi, hj⟩]
theorem nX (R : List Hd) (i : Nat) : (gV R i).length = R.length := by
 unfold gV; split
 · unfold oB; rw [bH]
 · rfl
theorem cC (R : List Hd) (i j : Nat) : (swapT R i j).length = R.length := by
 unfold swapT; split
 · exact fZ ..
 · rfl
theorem oX (R : List Hd) (i j : Nat) (a b c d : Int) : (mc R i j a b c d).length = R.length := by
 unfold mc; split
 · unfold tb; rw [bH, bH]
 · rfl
theorem nZ (R : List Hd) (k n j : Nat) : (fK R k n j).length = R.length := by
 unfold fK cI; split
 · exact dI ..
 · rw [oX]; exact dI ..
def ew (at_ : Nat) : Nat -> List Hd -> List Hd
 | 0, R => R
 | i + 1, R => if i + 1 <= at_ then R else ew at_ i (swapT R (i + 1) i)
inductive nB (B c n : Nat) : Nat -> Int -> List Hd -> Bool -> List Hd -> Prop
 | zero {at_ : Nat} {last : Int} {R R' : List Hd} (hF : Fit B c R) (h : aP R n = c ∨ (aP R n : Int) <= last) (hs : qn B c (ix R n) n n R R') : nB B c n at_ last R false R'
 | stop {at_ : Nat} {last : Int} {R R' : List Hd} (hF : Fit B c R) (h1 : aP R n < c) (h2 : last < aP R n) (a : Nat) (ha : at_ <= a) (hn : a <= n) (hlt : ∀ i, at_ <= i -> i < a -> aP R i < aP R n) (hb : a = n ∨ aP R n < aP R a)
  (hF2 : Fit B c (ew a n (if az R n (aP R n) < 0 then gV R n else R)))
  (hs : qn B c (ix (ew a n (if az R n (aP R n) < 0 then gV R n else R)) (n + 1)) (n + 1) (n + 1) (ew a n (if az R n (aP R n) < 0 then gV R n else R)) R') : nB B c n at_ last R true R'
 | meet {at_ : Nat} {last : Int} {R R' : List Hd} {b : Bool} (hF : Fit B c R) (h1 : aP R n < c) (h2 : last < aP R n) (a : Nat) (ha : at_ <= a) (hn : a < n) (hlt : ∀ i, at_ <= i -> i < a -> aP R i < aP R n) (hj : aP R a = aP R n)
  (hp : az R a (aP R n) ≠ 0) (hF1 : Fit B c (cI R a n (aP R n))) (hp1 : az (cI R a n (aP R n)) a (aP R n) ≠ 0)
  (hs : nB B c n a (aP R n) (fK R a n (aP R n)) b R') : nB B c n at_ last R b R'
def oa : Nat -> Nat -> List Hd -> List Hd
 | 0, _, R => R
 | k + 1, i, R => oa k (i + 1) (swapT R i (i + 1))
inductive qb (B c : Nat) : Nat -> Nat -> List Hd -> Nat -> List Hd -> Prop
 | fin {d e : Nat} {R : List Hd} (h : e <= d) : qb B c d e R d R
 | ok {d e k : Nat} {R R1 R' : List Hd} (h : d < e) (hp : nB B c d 0 (-1) R true R1) (hs : qb B c (d + 1) e R1 k R') : qb B c d e R k R'
 | zero {d e k : Nat} {R R1 R' : List Hd} (h : d < e) (hp : nB B c d 0 (-1) R false R1) (hs : qb B c d (e - 1) (oa (e - 1 - d) d R1) k R') : qb B c d e R k R'
theorem iO (a : Nat) : ∀ (i : Nat) (R : List Hd), (ew a i R).length = R.length
 | 0, R => rfl
 | i + 1, R => by
  unfold ew; split
  · rfl
  · rw [iO a i, cC]
end Go.Proofs.Ytjjlmfmoihooiaa
namespace Go.Proofs.Ytjjlmfmoihooiaa
def Sh (c : Nat) (R : List Hd) : Prop := ∀ h ∈ R, h.xs.length = c
theorem bV {R : List Hd} {i : Nat} (hi : i < R.length) (j : Nat) : az R i j = R[i].xs.getD j 0 := by
 unfold az; simp [hi]
theorem ei {R : List Hd} {i : Nat} (hi : R.length <= i) (j : Nat) : az R i j = 0 := by
 unfold az; rw [List.getElem?_eq_none hi]; rfl
theorem Sh.get {c : Nat} {R : List Hd} (h : Sh c R) {i : Nat} (hi : i < R.length) : R[i].xs.length = c := h _ (List.getElem_mem hi)
theorem Sh.wide {c : Nat} {R : List Hd} (h : Sh c R) (i : Nat) {j : Nat} (hj : c <= j) : az R i j = 0 := by
 by_cases hi : i < R.length
 · rw [bV hi, ep _ _ (by rw [h.get hi]; exact hj)]
 · exact ei (by omega) j
theorem Sh.nU {c : Nat} {R : List Hd} (h : Sh c R) (i : Nat) {xs : List Int} (hx : xs.length = c) : Sh c (ik R i xs) := by
 intro r hr;obtain ⟨j, hj, rfl⟩ := List.getElem_of_mem hr;rw [bH] at hj;rw [jH hj];split
 · exact hx
 · exact h.get hj
theorem iC {R : List Hd} {i : Nat} (hi : i < R.length) (xs : List Int) (a b : Nat) : az (ik R i xs) a b = if a = i then xs.getD b 0 else az R a b := by
 by_cases ha : a < R.length
 · rw [bV (by rw [bH]; exact ha), jH ha];by_cases e : i = a
   · subst e; simp
   · rw [if_neg e, if_neg (fun h => e h.symm), bV ha]
 · rw [ei (by rw [bH]; omega), if_neg (by omega), ei (by omega)]
theorem gm {f : Int -> Int -> Int} (hf : f 0 0 = 0) {xs ys : List Int} (h : xs.length = ys.length) (b : Nat) : (List.zipWith f xs ys).getD b 0 = f (xs.getD b 0) (ys.getD b 0) := by
 by_cases hb : b < xs.length
 · have hb2 : b < ys.length := by omega
   have hb3 : b < (List.zipWith f xs ys).length := by simp; omega
   rw [gD _ _ hb3, gD _ _ hb, gD _ _ hb2, List.getElem_zipWith]
 · rw [ep _ _ (by simp; omega), ep _ _ (by omega), ep _ _ (by omega), hf]
theorem kM {c : Nat} {R : List Hd} (hs : Sh c R) {i j : Nat} (hi : i < R.length) (hj : j < R.length) (k : Int) (a b : Nat) : az (jt R i j k) a b = if a = i then k * az R j b + az R i b else az R a b := by
 rw [vM hi hj]; unfold u4;rw [iC hi];unfold qC;rw [gm (by simp) (by rw [hs.get hi, hs.get hj]), <- bV hi, <- bV hj]
theorem Sh.rR {c : Nat} {R : List Hd} (hs : Sh c R) (i j : Nat) (k : Int) : Sh c (jt R i j k) := by
 unfold jt;split
 · rename_i h;unfold u4;exact hs.nU i (by unfold qC; rw [List.length_zipWith, hs.get h.1, hs.get h.2]; omega)
 · exact hs
theorem jv (R : List Hd) (i j : Nat) (k : Int) : (jt R i j k).map Hd.blk = R.map Hd.blk := by
 unfold jt; split
 · exact jO ..
 · rfl
theorem uy {c : Nat} {R : List Hd} (hs : Sh c R) {i j : Nat} (hi : i < R.length) (hj : j < R.length) (hij : i ≠ j) (p q r s : Int) (a b : Nat) : az (mc R i j p q r s) a b = if a = i then p * az R i b + q * az R j b else if a = j then r * az R i b + s * az R j b else az R a b := by
 rw [wN hi hj]; unfold tb;rw [iC (by rw [bH]; exact hj), iC hi];have hl : R[i].xs.length = R[j].xs.length := by rw [hs.get hi, hs.get hj]
 unfold nV;rw [gm (by simp) hl, gm (by simp) hl, <- bV hi, <- bV hj];by_cases e : a = i
 · subst e; rw [if_neg hij, if_pos rfl, if_pos rfl]
 · rw [if_neg e, if_neg e]
theorem Sh.mixT_ {c : Nat} {R : List Hd} (hs : Sh c R) (i j : Nat) (p q r s : Int) : Sh c (mc R i j p q r s) := by
 unfold mc;split
 · rename_i h;unfold tb;refine (hs.nU i ?_).nU j ?_ <;> (unfold nV; rw [List.length_zipWith, hs.get h.1, hs.get h.2]; omega)
 · exact hs
theorem tO (R : List Hd) (i j : Nat) (p q r s : Int) : (mc R i j p q r s).map Hd.blk = R.map Hd.blk := by
 unfold mc; split
 · unfold tb; rw [jO, jO]
 · rfl
theorem mx {R : List Hd} {i : Nat} (hi : i < R.length) (a b : Nat) : az (gV R i) a b = if a = i then - az R i b else az R a b := by
 rw [ux hi]; unfold oB;rw [iC hi, bV hi];split
 · unfold qk;by_cases hb : b < R[i].xs.length
   · rw [gD _ _ (by simpa using hb), gD _ _ hb]; simp
   · rw [ep _ _ (by simp; omega), ep _ _ (by omega)]; rfl
 · rfl
theorem Sh.y5 {c : Nat} {R : List Hd} (hs : Sh c R) (i : Nat) : Sh c (gV R i) := by
 unfold gV;split
 · rename_i h;unfold oB;exact hs.nU i (by simp [qk, hs.get h])
 · exact hs
theorem sk {R : List Hd} {i j m : Nat} (hi : i < R.length) (hj : j < R.length) (hm : m < R.length) : (swapT R i j)[m]'(by rw [cC]; exact hm) = R[swp i j m]'(tI hi hj hm) := by
 have := mD hi hj hm;rw [<- this]; congr 1; exact tK hi hj
theorem mX {R : List Hd} {i j : Nat} (hi : i < R.length) (hj : j < R.length) (a b : Nat) : az (swapT R i j) a b = az R (swp i j a) b := by
 by_cases ha : a < R.length
 · rw [bV (by rw [cC]; exact ha), sk hi hj ha, bV]
 · rw [ei (by rw [cC]; omega), ei];unfold swp; split
   · omega
   · split <;> omega
theorem Sh.uS {c : Nat} {R : List Hd} (hs : Sh c R) (i j : Nat) : Sh c (swapT R i j) := by
 unfold swapT;split
 · rename_i h;intro r hr;obtain ⟨m, hm, rfl⟩ := List.getElem_of_mem hr;rw [fZ] at hm;rw [mD h.1 h.2 hm];exact hs.get _
 · exact hs
theorem pQ {R : List Hd} {i : Nat} (hi : i < R.length) {c : Nat} (hs : Sh c R) : (aP R i <= c) /\ (∀ b, b < aP R i -> az R i b = 0) /\ (aP R i < c -> az R i (aP R i) ≠ 0) := by
 rw [sL hi];have key : ∀ xs : List Int, (∀ b, b < lead xs -> xs.getD b 0 = 0) /\ (lead xs < xs.length -> xs.getD (lead xs) 0 ≠ 0) := by
  intro xs;induction xs with
  | nil => exact ⟨fun b _ => by simp, fun h => by simp at h⟩
  | cons x xs ih =>
   unfold lead;by_cases hx : x = 0
   · rw [if_pos hx];refine ⟨fun b hb => ?_, fun h => ?_⟩
     · cases b with
       | zero => simpa using hx
       | succ b => rw [List.getD_cons_succ]; exact ih.1 b (by omega)
     · rw [List.getD_cons_succ]; exact ih.2 (by simpa using h)
   · rw [if_neg hx];exact ⟨fun b hb => by omega, fun _ => by simpa using hx⟩
 have hl := hs.get hi;have h1 := key R[i].xs;refine ⟨hl ▸ rj _, fun b hb => ?_, fun h => ?_⟩
 · rw [bV hi]; exact h1.1 b hb
 · rw [bV hi]; exact h1.2 (by omega)
theorem mB {R : List Hd} {i : Nat} (hi : i < R.length) {c : Nat} (hs : Sh c R) {j : Nat} (h0 : ∀ b, b < j -> az R i b = 0) (hj : az R i j ≠ 0) : aP R i = j := by
 have h1 := pQ hi hs;have hjc : j < c := by
  by_cases h : j < c
  · exact h
  · exact absurd (hs.wide i (by omega)) hj
 rcases Nat.lt_trichotomy (aP R i) j with h | h | h
 · exact absurd (h0 _ h) (h1.2.2 (by omega))
 · exact h
 · exact absurd (h1.2.1 _ h) hj
theorem Fit.of {B c : Nat} {R : List Hd} (hs : Sh c R) (h : ∀ a b, (az R a b).natAbs < W ^ B) : Fit B c R := by
 refine ⟨hs, fun r hr x hx => ?_⟩;obtain ⟨i, hi, rfl⟩ := List.getElem_of_mem hr;obtain ⟨j, hj, rfl⟩ := List.getElem_of_mem hx;have := h i j;rw [bV hi, gD _ _ hj] at this;exact au this
/-! Bounds by powers of the base. -/
theorem tF {u v : Nat} (h : u <= v) : W ^ u <= W ^ v := Nat.pow_le_pow_right aR h
theorem gM {n u v : Nat} (h : n < W ^ u) (k : u <= v) : n < W ^ v := Nat.lt_of_lt_of_le h (tF k)
theorem gj (u : Nat) : 0 < W ^ u := Nat.pow_pos aR
theorem mS {k y x u d : Nat} (hk : k < W ^ u) (hy : y < W ^ d) (hx : x < W ^ u) : k * y + x < W ^ (u + d) := by
 have h1 : (k + 1) * W ^ d <= W ^ u * W ^ d := Nat.mul_le_mul_right _ hk;have h2 : k * (y + 1) <= k * W ^ d := Nat.mul_le_mul_left _ hy;rw [Nat.pow_add];rw [Nat.succ_mul] at h1;rw [Nat.mul_add, Nat.mul_one] at h2;have h3 : W ^ u <= W ^ u * W ^ d := by have := Nat.mul_le_mul_left (W ^ u) (gj d); omega
 by_cases hk0 : k = 0
 · subst hk0; omega
 · have h4 : k * y + k <= k * W ^ d := h2;have h5 : (W ^ u - 1) * y + (W ^ u - 1) <= (W ^ u - 1) * W ^ d := by
    have := Nat.mul_le_mul_left (W ^ u - 1) hy;rw [Nat.mul_succ] at this; exact this
   have h6 : k * y <= (W ^ u - 1) * y := Nat.mul_le_mul_right _ (by omega);have h7 : (W ^ u - 1) * W ^ d < W ^ u * W ^ d := Nat.mul_lt_mul_of_pos_right (by have := gj u; omega) (gj d);omega
theorem iN (k y x : Int) : (k * y + x).natAbs <= k.natAbs * y.natAbs + x.natAbs := by
 have := Int.natAbs_add_le (k * y) x
 rwa [Int.natAbs_mul] at this
theorem rC {x y : Int} (hy : 0 < y) : (x.fdiv y).natAbs <= x.natAbs := by
 rw [Int.fdiv_eq_ediv_of_nonneg _ (Int.le_of_lt hy)];exact Int.natAbs_ediv_le_natAbs x y
theorem ob {x y : Int} (hy : 0 < y) : 0 <= x.fmod y /\ x.fmod y < y := by
 rw [Int.fmod_eq_emod_of_nonneg _ (Int.le_of_lt hy)];exact ⟨Int.emod_nonneg _ (by omega), Int.emod_lt_of_pos _ hy⟩
theorem mU {x y : Int} (hy : 0 < y) : -(x.fdiv y) * y + x = x.fmod y := by
 rw [Int.fdiv_eq_ediv_of_nonneg _ (Int.le_of_lt hy), Int.fmod_eq_emod_of_nonneg _ (Int.le_of_lt hy), Int.emod_def, Int.mul_comm y, Int.neg_mul]; omega
/-! settle. -/
def iZ (ls : List Nat) (i : Nat) : Nat -> Nat -> List Hd -> List Hd
 | 0, _, R => R
 | f + 1, k, R => iZ ls i f (k + 1) (jt R i k (-((az R i (ls.getD k 0)).fdiv (az R k (ls.getD k 0)))))
def rv (ls : List Nat) (n : Nat) : Nat -> List Hd -> List Hd
 | 0, R => R
 | m + 1, R => rv ls n m (iZ ls m (n - (m + 1)) (m + 1) R)
theorem aO.add {n : Nat} {E F : Nat -> Nat -> Int} {i k : Nat} (hi : i < n) (hk : k < n) (hik : i ≠ k) (q : Int) (h : ∀ a b, F a b = if a = i then q * E k b + E i b else E a b) : aO n E n F := by
 refine ⟨fun a ha => ?_, fun a ha => ?_⟩
 · by_cases e : a = i
   · subst e;refine ((Sp.row F ha).add ((Sp.row F hk).smul (-q))).congr (fun j => ?_);rw [h a j, if_pos rfl, h k j, if_neg (fun e => hik e.symm), Int.neg_mul]; omega
   · exact (Sp.row F ha).congr (fun j => by rw [h, if_neg e])
 · by_cases e : a = i
   · subst e;refine (((Sp.row E hk).smul q).add (Sp.row E ha)).congr (fun j => ?_);rw [h, if_pos rfl]
   · exact (Sp.row E ha).congr (fun j => by rw [h, if_neg e])
structure v7 (n c i k : Nat) (l : Nat -> Nat) (R R' : List Hd) : Prop where
 same : ∀ a, a ≠ i -> ∀ b, az R' a b = az R a b
 low : ∀ b, (∀ m, k <= m -> m < n -> b < l m) -> az R' i b = az R i b
 red : ∀ m, k <= m -> m < n -> 0 <= az R' i (l m) /\ az R' i (l m) < az R m (l m)
 sh : Sh c R'
 len : R'.length = R.length
 blk : R'.map Hd.blk = R.map Hd.blk
 sp : aO n (az R) n (az R')
theorem Ech.add {n c : Nat} {E F : Nat -> Nat -> Int} {l : Nat -> Nat} (h : Ech n c E l) {i k : Nat} (hik : i < k) (hk : k < n) (q : Int) (e : ∀ a b, F a b = if a = i then q * E k b + E i b else E a b) : Ech n c F l := by
 refine ⟨h.inc, h.lt, fun a ha j hj => ?_, fun a ha => ?_⟩
 · rw [e]; split
   · rename_i e'; subst e';rw [h.zero k hk j (by have := h.inc a k hik hk; omega), h.zero a ha j hj]; simp
   · exact h.zero a ha j hj
 · rw [e]; split
   · rename_i e'; subst e';rw [h.zero k hk _ (h.inc a k hik hk)]; have := h.pos a ha; simpa using this
   · exact h.pos a ha
theorem nf {n c i : Nat} {l : Nat -> Nat} {ls : List Nat} (hls : ∀ k, k < n -> ls.getD k 0 = l k) : ∀ (f k : Nat) (R : List Hd), k + f = n -> i < k -> Sh c R -> n <= R.length -> Ech n c (az R) l -> v7 n c i k l R (iZ ls i f k R)
 | 0, k, R, hf, hik, hs, hn, hE => ⟨fun _ _ _ => rfl, fun _ _ => rfl, fun m h1 h2 => by omega, hs, rfl, rfl, aO.refl _ _⟩
 | f + 1, k, R, hf, hik, hs, hn, hE => by
  have hk : k < n := by omega
  have he := fun (a b : Nat) => kM hs (i := i) (j := k) (by omega) (by omega) (-((az R i (ls.getD k 0)).fdiv (az R k (ls.getD k 0)))) a b;have ih := nf (i := i) hls f (k + 1) (jt R i k (-((az R i (ls.getD k 0)).fdiv (az R k (ls.getD k 0))))) (by omega) (by omega) (hs.rR i k _) (by rw [dI]; exact hn) (hE.add hik hk _ he);rw [hls k hk] at he;have hp := hE.pos k hk;refine ⟨fun a ha b => ?_, fun b hb => ?_, fun m hm hmn => ?_, ih.sh, ih.len.trans (dI ..), ih.blk.trans (jv ..), (aO.add (by omega) hk (by omega) _ he).trans (by rw [<- hls k hk]; exact ih.sp)⟩
  · show az (iZ ls i f (k + 1) _) a b = _;rw [ih.same a ha b, hls k hk, he, if_neg ha]
  · show az (iZ ls i f (k + 1) _) i b = _;rw [ih.low b (fun m h1 h2 => hb m (by omega) h2), hls k hk, he, if_pos rfl, hE.zero k hk b (hb k (Nat.le_refl _) hk)]; omega
  · by_cases e : m = k
    · subst e;show 0 <= az (iZ ls i f (m + 1) _) i (l m) /\ az (iZ ls i f (m + 1) _) i (l m) < _;rw [ih.low (l m) (fun q h1 h2 => hE.inc m q (by omega) h2), hls m hk, he, if_pos rfl, mU hp];exact ob hp
    · have h1 := ih.red m (by omega) hmn;rw [hls k hk, he m, if_neg (by omega)] at h1;show 0 <= az (iZ ls i f (k + 1) _) i (l m) /\ az (iZ ls i f (k + 1) _) i (l m) < _;rw [hls k hk];exact h1
theorem Ech.congr {n c : Nat} {E F : Nat -> Nat -> Int} {l : Nat -> Nat} (h : Ech n c E l) (e : ∀ a, a < n -> ∀ b, F a b = E a b) : Ech n c F l :=
 ⟨h.inc, h.lt, fun a ha j hj => (e a ha j).trans (h.zero a ha j hj), fun a ha => by rw [e a ha]; exact h.pos a ha⟩
theorem v7.oP {n c i k : Nat} {l : Nat -> Nat} {R R' : List Hd} (h : v7 n c i k l R R') (hE : Ech n c (az R) l) (hik : i < k) (hin : i < n) : Ech n c (az R') l := by
 have hlow : ∀ b, b <= l i -> az R' i b = az R i b := fun b hb => h.low b (fun m h1 h2 => by have := hE.inc i m (by omega) h2; omega);refine ⟨hE.inc, hE.lt, fun a ha j hj => ?_, fun a ha => ?_⟩
 · by_cases e : a = i
   · subst e; rw [hlow j (by omega)]; exact hE.zero a ha j hj
   · rw [h.same a e]; exact hE.zero a ha j hj
 · by_cases e : a = i
   · subst e; rw [hlow _ (Nat.le_refl _)]; exact hE.pos a ha
   · rw [h.same a e]; exact hE.pos a ha
structure ui (n c m : Nat) (l : Nat -> Nat) (R R' : List Hd) : Prop where
 same : ∀ a, m <= a -> ∀ b, az R' a b = az R a b
 herm : cH n c (az R') l
 sh : Sh c R'
 len : R'.length = R.length
 blk : R'.map Hd.blk = R.map Hd.blk
 sp : aO n (az R) n (az R')
theorem jl {n c : Nat} {l : Nat -> Nat} {ls : List Nat} (hls : ∀ k, k < n -> ls.getD k 0 = l k) : ∀ (m : Nat) (R : List Hd), m <= n -> Sh c R -> n <= R.length -> Ech n c (az R) l -> (∀ i k, m <= i -> i < k -> k < n -> 0 <= az R i (l k) /\ az R i (l k) < az R k (l k)) -> ui n c m l R (rv ls n m R)
 | 0, R, hm, hs, hn, hE, hr => ⟨fun _ _ _ => rfl, ⟨hE, fun i k => hr i k (Nat.zero_le _)⟩, hs, rfl, rfl, aO.refl _ _⟩
 | m + 1, R, hm, hs, hn, hE, hr => by
  have h1 := nf (i := m) hls (n - (m + 1)) (m + 1) R (by omega) (by omega) hs hn hE;have h2 := jl hls m (iZ ls m (n - (m + 1)) (m + 1) R) (by omega) h1.sh (by rw [h1.len]; exact hn) (h1.oP hE (by omega) (by omega)) (fun i k hi hik hk => by
   by_cases e : i = m
   · subst e;rw [h1.same k (by omega)];exact h1.red k (by omega) hk
   · rw [h1.same i e, h1.same k (by omega)];exact hr i k (by omega) hik hk)
  exact ⟨fun a ha b => (h2.same a (by omega) b).trans (h1.same a (by omega) b), h2.herm, h2.sh, h2.len.trans h1.len, h2.blk.trans h1.blk, h1.sp.trans h2.sp⟩
theorem tG {n c i B δ : Nat} {l : Nat -> Nat} {ls : List Nat} (hls : ∀ k, k < n -> ls.getD k 0 = l k) : ∀ (f k u : Nat) (R : List Hd), k + f = n -> i < k -> Sh c R -> n <= R.length -> Ech n c (az R) l ->
 (∀ a b, (az R a b).natAbs < W ^ B) -> (∀ b, (az R i b).natAbs < W ^ u) -> (∀ a, k <= a -> a < n -> ∀ b, (az R a b).natAbs < W ^ δ) -> u + f * δ <= B -> SIn B c ls i n k R (iZ ls i f k R)
 | 0, k, u, R, hf, hik, hs, hn, hE, hB, hu, hd, hb => .done (by omega)
 | f + 1, k, u, R, hf, hik, hs, hn, hE, hB, hu, hd, hb => by
  have hk : k < n := by omega
  have he := fun (a b : Nat) => kM hs (i := i) (j := k) (by omega) (by omega) (-((az R i (ls.getD k 0)).fdiv (az R k (ls.getD k 0)))) a b;have hp := hE.pos k hk;have hq : ((az R i (ls.getD k 0)).fdiv (az R k (ls.getD k 0))).natAbs < W ^ u := by
   rw [hls k hk];exact Nat.lt_of_le_of_lt (rC hp) (hu _)
  have hrow : ∀ b, (az (jt R i k (-((az R i (ls.getD k 0)).fdiv (az R k (ls.getD k 0))))) i b).natAbs < W ^ (u + δ) := by
   intro b;rw [he, if_pos rfl];refine Nat.lt_of_le_of_lt (iN _ _ _) ?_;rw [Int.natAbs_neg];exact mS hq (hd k (Nat.le_refl _) hk b) (hu b)
  have e1 : (f + 1) * δ = f * δ + δ := Nat.succ_mul ..;refine .step hk (Fit.of hs hB) (by rw [hls k hk]; exact hE.lt k hk) (by rw [hls k hk]; omega) ?_;refine tG (δ := δ) hls f (k + 1) (u + δ) _ (by omega) (by omega) (hs.rR i k _) (by rw [dI]; exact hn) (hE.add hik hk _ he) (fun a b => ?_) hrow (fun a h1 h2 b => ?_) (by omega)
  · by_cases e : a = i
    · subst e; exact gM (hrow b) (by omega)
    · rw [he, if_neg e]; exact hB a b
  · rw [he, if_neg (by omega)]; exact hd a (by omega) h2 b
theorem sf {n c B δ u : Nat} {l : Nat -> Nat} {ls : List Nat} (hls : ∀ k, k < n -> ls.getD k 0 = l k) (hb : u + n * δ <= B) : ∀ (m : Nat) (R : List Hd), m <= n -> Sh c R -> n <= R.length -> Ech n c (az R) l -> (∀ i k, m <= i -> i < k -> k < n -> 0 <= az R i (l k) /\ az R i (l k) < az R k (l k)) ->
 (∀ a b, (az R a b).natAbs < W ^ B) -> (∀ a, a < m -> ∀ b, (az R a b).natAbs < W ^ u) -> (∀ a, a < n -> ∀ b, (az (rv ls n m R) a b).natAbs < W ^ δ) -> qn B c ls n m R (rv ls n m R)
 | 0, R, hm, hs, hn, hE, hr, hB, hu, hd => .done
 | m + 1, R, hm, hs, hn, hE, hr, hB, hu, hd => by
  have hout := jl hls (m + 1) R hm hs hn hE hr;have h1 := nf (i := m) hls (n - (m + 1)) (m + 1) R (by omega) (by omega) hs hn hE;have hr1 : ∀ i k, m <= i -> i < k -> k < n -> 0 <= az (iZ ls m (n - (m + 1)) (m + 1) R) i (l k) /\ az (iZ ls m (n - (m + 1)) (m + 1) R) i (l k) < az (iZ ls m (n - (m + 1)) (m + 1) R) k (l k) := fun i k hi hik hk => by
   by_cases e : i = m
   · subst e;rw [h1.same k (by omega)];exact h1.red k (by omega) hk
   · rw [h1.same i e, h1.same k (by omega)];exact hr i k (by omega) hik hk
  have h2 := jl hls m (iZ ls m (n - (m + 1)) (m + 1) R) (by omega) h1.sh (by rw [h1.len]; exact hn) (h1.oP hE (by omega) (by omega)) hr1;have hmul : (n - (m + 1)) * δ <= n * δ := Nat.mul_le_mul_right _ (by omega);have hδ : δ <= n * δ := by have := Nat.mul_le_mul_right δ (show 1 <= n by omega); omega
  refine .step (tG (δ := δ) hls (n - (m + 1)) (m + 1) u R (by omega) (by omega) hs hn hE hB (fun b => hu m (by omega) b) (fun a h3 h4 b => ?_) (by omega)) ?_
  · rw [<- hout.same a h3 b]; exact hd a h4 b
  · refine sf hls hb m _ (by omega) h1.sh (by rw [h1.len]; exact hn) (h1.oP hE (by omega) (by omega)) hr1 (fun a b => ?_) (fun a ha b => ?_) hd
    · by_cases e : a = m
      · subst e;rw [<- h2.same a (Nat.le_refl _) b];exact gM (hd a (by omega) b) (by omega)
      · rw [h1.same a e]; exact hB a b
    · rw [h1.same a (by omega)]; exact hu a (by omega) b
/-! meet. -/
theorem yl (a b : Int) (hb : b ≠ 0) : a * ef a b + b * gJ a b = bQ a b := by
 have h := j7 a b;unfold dY at h;rw [if_neg hb] at h;exact h.2.2.2
theorem aO.two {N : Nat} {E F : Nat -> Nat -> Int} {k n : Nat} (hk : k < N) (hn : n < N) (hkn : k ≠ n) (hs : ∀ a, a ≠ k -> a ≠ n -> ∀ b, F a b = E a b)
 {x y z t x' y' z' t' : Int} (h1 : ∀ b, F k b = x * E k b + y * E n b) (h2 : ∀ b, F n b = z * E k b + t * E n b) (h3 : ∀ b, E k b = x' * F k b + y' * F n b) (h4 : ∀ b, E n b = z' * F k b + t' * F n b) : aO N E N F := by
 refine ⟨fun a ha => ?_, fun a ha => ?_⟩
 · by_cases e : a = k
   · subst e; exact (((Sp.row F hk).smul x').add ((Sp.row F hn).smul y')).congr h3
   · by_cases e' : a = n
     · subst e'; exact (((Sp.row F hk).smul z').add ((Sp.row F hn).smul t')).congr h4
     · exact (Sp.row F ha).congr (fun j => (hs a e e' j).symm)
 · by_cases e : a = k
   · subst e; exact (((Sp.row E hk).smul x).add ((Sp.row E hn).smul y)).congr h1
   · by_cases e' : a = n
     · subst e'; exact (((Sp.row E hk).smul z).add ((Sp.row E hn).smul t)).congr h2
     · exact (Sp.row E ha).congr (fun j => hs a e e' j)
structure yf (c k n j δ u : Nat) (R R' : List Hd) : Prop where
 same : ∀ a, a ≠ k -> a ≠ n -> ∀ b, az R' a b = az R a b
 low : ∀ b, b < j -> az R' k b = 0
 piv : 0 < az R' k j
 gone : ∀ b, b <= j -> az R' n b = 0
 comb : ∃ t s : Int, t ≠ 0 /\ ∀ b, az R' n b = t * az R n b + s * az R k b
 sp : ∀ N, k < N -> n < N -> aO N (az R) N (az R')
 bk : ∀ b, (az R' k b).natAbs < W ^ (u + 2 * δ + 1)
 bn : ∀ b, (az R' n b).natAbs < W ^ (u + 2 * δ + 1)
 sh : Sh c R'
 len : R'.length = R.length
 blk : R'.map Hd.blk = R.map Hd.blk
theorem jQ {c : Nat} {R : List Hd} (hs : Sh c R) {k n : Nat} (hk : k < R.length) (hn : n < R.length) (j a b : Nat) : az (cI R k n j) a b = if a = n then -((az R n j).fdiv (az R k j)) * az R k b + az R n b else az R a b :=
 kM hs hn hk _ a b
theorem y4 {x y z t u d : Nat} (hx : x <= W ^ d) (hy : y < W ^ d) (hz : z <= W ^ d) (ht : t < W ^ (u + d)) : x * y + z * t < W ^ (u + 2 * d + 1) := by
 have h1 : x * y <= W ^ d * W ^ d := Nat.mul_le_mul hx (Nat.le_of_lt hy);have h2 : z * t <= W ^ d * W ^ (u + d) := Nat.mul_le_mul hz (Nat.le_of_lt ht);have e1 : W ^ d * W ^ d <= W ^ (u + 2 * d) := by rw [<- Nat.pow_add]; exact tF (by omega)
 have e2 : W ^ d * W ^ (u + d) = W ^ (u + 2 * d) := by rw [<- Nat.pow_add]; congr 1; omega
 have e3 : W ^ (u + 2 * d) * 2 < W ^ (u + 2 * d + 1) := by
  rw [Nat.pow_succ];exact Nat.mul_lt_mul_of_pos_left (by unfold W; omega) (gj _)
 omega
theorem jX {c : Nat} {R : List Hd} (hs : Sh c R) {k n j δ u : Nat} (hk : k < R.length) (hn : n < R.length) (hp : 0 < az R k j) (hbk : ∀ b, (az R k b).natAbs < W ^ δ) (hbn : ∀ b, (az R n b).natAbs < W ^ u) (b : Nat) : (az (cI R k n j) n b).natAbs < W ^ (u + δ) := by
 rw [jQ hs hk hn, if_pos rfl];refine Nat.lt_of_le_of_lt (iN _ _ _) ?_;rw [Int.natAbs_neg];exact mS (Nat.lt_of_le_of_lt (rC hp) (hbn j)) (hbk b) (hbn b)
theorem si (R : List Hd) (k n j : Nat) : (fK R k n j).map Hd.blk = R.map Hd.blk := by
 unfold fK cI; split
 · exact jv ..
 · rw [tO]; exact jv ..
theorem vU {c k n j δ u : Nat} {R : List Hd} (hs : Sh c R) (hk : k < R.length) (hn : n < R.length) (hkn : k ≠ n) (hp : 0 < az R k j) (h0 : ∀ b, b < j -> az R k b = 0) (h1 : ∀ b, b < j -> az R n b = 0)
 (hbk : ∀ b, (az R k b).natAbs < W ^ δ) (hbn : ∀ b, (az R n b).natAbs < W ^ u) : yf c k n j δ u R (fK R k n j) := by
 have hA := jQ hs hk hn j;have hAn := fun b => (hA n b).trans (if_pos rfl);have hAk := fun b => (hA k b).trans (if_neg hkn);have hAs := fun a b (h : a ≠ n) => (hA a b).trans (if_neg h);have hsA : Sh c (cI R k n j) := hs.rR n k _;have hlA : (cI R k n j).length = R.length := dI ..;have hbA := jX hs hk hn hp hbk hbn;have hr : az (cI R k n j) n j = (az R n j).fmod (az R k j) := by rw [hAn, mU hp]
 have hrr := ob (x := az R n j) hp;by_cases hz : (az R n j).fmod (az R k j) = 0
 · have e : fK R k n j = cI R k n j := by unfold fK; rw [if_pos hz]
   rw [e];refine ⟨fun a _ h b => hAs a b h, fun b hb => (hAk b).trans (h0 b hb), by rw [hAk]; exact hp, fun b hb => ?_, ⟨1, -((az R n j).fdiv (az R k j)), by omega, fun b => ?_⟩, fun N hkN hnN => aO.add hnN hkN (fun e => hkn e.symm) _ hA, fun b => ?_, fun b => gM (hbA b) (by omega), hsA, hlA, jv ..⟩
   · rcases Nat.lt_or_eq_of_le hb with h | h
     · rw [hAn, h0 b h, h1 b h]; simp
     · subst h; rw [hr, hz]
   · rw [hAn, Int.one_mul]; omega
   · rw [hAk]; exact gM (hbk b) (by omega)
 · obtain ⟨M, hM⟩ : ∃ M, cI R k n j = M := ⟨_, rfl⟩;rw [hM] at hAn hAk hAs hsA hlA hbA hr;have e : fK R k n j = mc M k n (ef (az M k j) (az M n j)) (gJ (az M k j) (az M n j)) (-(az M n j / bQ (az M k j) (az M n j))) (az M k j / bQ (az M k j) (az M n j)) := by
    unfold fK; rw [if_neg hz, hM]
   obtain ⟨p, hp'⟩ : ∃ p, az M k j = p := ⟨_, rfl⟩;obtain ⟨r, hr'⟩ : ∃ r, az M n j = r := ⟨_, rfl⟩;have hpp : p = az R k j := hp'.symm.trans (hAk j);rw [hr'] at hr;rw [hp', hr'] at e;have hrne : r ≠ 0 := by rw [hr]; exact hz
   rw [<- hr, <- hpp] at hrr;have hrp : 0 < r := by omega
   have hg := lI p r;have hx := yl p r hrne;have hxl := rm p r;have hyl := wD p r;obtain ⟨g, hgd⟩ : ∃ g, bQ p r = g := ⟨_, rfl⟩;obtain ⟨x, hxd⟩ : ∃ x, ef p r = x := ⟨_, rfl⟩;obtain ⟨y, hyd⟩ : ∃ y, gJ p r = y := ⟨_, rfl⟩;rw [hgd] at hg hx e;rw [hxd] at hx hxl e;rw [hyd] at hx hyl e;have hgp : 0 < g := by have := hg.2.2.1 (by omega); have := hg.2.2.2; omega
   obtain ⟨p', hp1⟩ := hg.1;obtain ⟨r', hr1⟩ := hg.2.1;have hpd : p / g = p' := by rw [hp1, Int.mul_ediv_cancel_left _ (by omega)]
   have hrd : r / g = r' := by rw [hr1, Int.mul_ediv_cancel_left _ (by omega)]
   rw [hpd, hrd] at e;have hk1 : p' * x + r' * y = 1 := by
    have : g * (p' * x + r' * y) = g * 1 := by
     rw [Int.mul_add, <- Int.mul_assoc, <- Int.mul_assoc, <- hp1, <- hr1, hx]; omega
    exact Int.eq_of_mul_eq_mul_left (by omega) this
   have hp0 : p' ≠ 0 := fun h => by rw [h, Int.mul_zero] at hp1; omega
   have hmix := uy hsA (by omega : k < M.length) (by omega : n < M.length) hkn x y (-r') p';rw [<- e] at hmix;have hmk := fun b => (hmix k b).trans (if_pos rfl);have hmn := fun b => ((hmix n b).trans (if_neg (fun h => hkn h.symm))).trans (if_pos rfl);have hms := fun a b (h : a ≠ k) (h' : a ≠ n) => ((hmix a b).trans (if_neg h)).trans (if_neg h');have hM0 : ∀ b, b < j -> az M n b = 0 := fun b hb => by rw [hAn, h0 b hb, h1 b hb]; simp
   have hpD : p.natAbs < W ^ δ := by rw [hpp]; exact hbk j
   have hrD : r.natAbs < W ^ δ := by omega
   have hp'D : p'.natAbs <= W ^ δ := by
    have h2 : p'.natAbs <= p.natAbs := by
     rw [hp1, Int.natAbs_mul];have := Nat.mul_le_mul_right p'.natAbs (show 1 <= g.natAbs by omega);omega
    omega
   have hr'D : r'.natAbs <= W ^ δ := by
    have h2 : r'.natAbs <= r.natAbs := by
     rw [hr1, Int.natAbs_mul];have := Nat.mul_le_mul_right r'.natAbs (show 1 <= g.natAbs by omega);omega
    omega
   have bnd : ∀ (s t : Int) b, s.natAbs <= W ^ δ -> t.natAbs <= W ^ δ -> (s * az M k b + t * az M n b).natAbs < W ^ (u + 2 * δ + 1) := by
    intro s t b hs' ht';refine Nat.lt_of_le_of_lt (Int.natAbs_add_le _ _) ?_;rw [Int.natAbs_mul, Int.natAbs_mul];exact y4 hs' (by rw [hAk]; exact hbk b) ht' (hbA b)
   have hspA : ∀ N, k < N -> n < N -> aO N (az R) N (az M) := fun N hkN hnN => by
    rw [<- hM]; exact aO.add hnN hkN (fun e => hkn e.symm) _ hA
   refine ⟨fun a h h' b => ?_, fun b hb => ?_, ?_, fun b hb => ?_, ?_, fun N hkN hnN => ?_, fun b => ?_, fun b => ?_, ?_, ?_, si ..⟩
   · rw [hms a b h h', hAs a b h']
   · rw [hmk, hAk, h0 b hb, hM0 b hb]; simp
   · rw [hmk, hp', hr', Int.mul_comm x, Int.mul_comm y, hx]; exact hgp
   · rw [hmn];rcases Nat.lt_or_eq_of_le hb with h | h
     · rw [hAk, h0 b h, hM0 b h]; simp
     · subst h;rw [hp', hr', hp1, hr1, Int.neg_mul, Int.mul_left_comm r', Int.mul_left_comm p', Int.mul_comm r' p']; omega
   · refine ⟨p', -r' + p' * (-((az R n j).fdiv (az R k j))), hp0, fun b => ?_⟩;rw [hmn, hAk, hAn, Int.mul_add, Int.add_mul, <- Int.mul_assoc]; omega
   · refine (hspA N hkN hnN).trans (aO.two hkN hnN hkn (fun a h h' b => hms a b h h') hmk hmn (x' := p') (y' := -y) (z' := r') (t' := x) (fun b => ?_) (fun b => ?_))
     · rw [hmk, hmn];have : p' * (x * az M k b + y * az M n b) + -y * (-r' * az M k b + p' * az M n b) = (p' * x + r' * y) * az M k b := by
        simp only [Int.mul_add, Int.add_mul, Int.neg_mul, Int.mul_neg, Int.neg_neg];have a1 : p' * (y * az M n b) = y * (p' * az M n b) := Int.mul_left_comm ..;have a2 : y * (r' * az M k b) = r' * y * az M k b := by rw [<- Int.mul_assoc, Int.mul_comm y]
        have a3 : p' * (x * az M k b) = p' * x * az M k b := (Int.mul_assoc ..).symm;omega
       rw [this, hk1, Int.one_mul]
     · rw [hmk, hmn];have : r' * (x * az M k b + y * az M n b) + x * (-r' * az M k b + p' * az M n b) = (p' * x + r' * y) * az M n b := by
        simp only [Int.mul_add, Int.add_mul, Int.neg_mul, Int.mul_neg];have a1 : r' * (x * az M k b) = x * (r' * az M k b) := Int.mul_left_comm ..;have a2 : r' * (y * az M n b) = r' * y * az M n b := (Int.mul_assoc ..).symm;have a3 : x * (p' * az M n b) = p' * x * az M n b := by rw [<- Int.mul_assoc, Int.mul_comm x]
        omega
       rw [this, hk1, Int.one_mul]
   · rw [hmk]; exact bnd x y b (by omega) (by omega)
   · rw [hmn]; exact bnd (-r') p' b (by rw [Int.natAbs_neg]; exact hr'D) hp'D
   · rw [e]; exact hsA.mixT_ k n _ _ _ _
   · exact nZ ..
/-! put. -/
theorem pP (R : List Hd) {n k : Nat} (hk : k < n) : (ix R n).getD k 0 = aP R k := by
 unfold ix; simp [hk]
theorem mZ {c n B δ u : Nat} {l : Nat -> Nat} {R : List Hd} (hs : Sh c R) (hn : n <= R.length) (hE : Ech n c (az R) l) (hu : ∀ a b, (az R a b).natAbs < W ^ u) (hb : u + n * δ <= B)
 (hD : ∀ E', cH n c E' l -> aO n (az R) n E' -> ∀ i, i < n -> ∀ j, (E' i j).natAbs < W ^ δ) : ∃ R', qn B c (ix R n) n n R R' /\ ui n c n l R R' := by
 have hls : ∀ k, k < n -> (ix R n).getD k 0 = l k := fun k hk => by
  rw [pP R hk];exact mB (by omega) hs (hE.zero k hk) (by have := hE.pos k hk; omega)
 have h1 := jl hls n R (Nat.le_refl _) hs hn hE (fun i k h1 h2 h3 => by omega);exact ⟨_, sf (δ := δ) (u := u) hls hb n R (Nat.le_refl _) hs hn hE (fun i k h1 h2 h3 => by omega) (fun a b => gM (hu a b) (by omega)) (fun a _ b => hu a b) (hD _ h1.herm h1.sp), h1⟩
theorem lq {a : Nat} : ∀ (n : Nat) (R : List Hd), a <= n -> n < R.length -> ∀ i b, az (ew a n R) i b = if i < a then az R i b else if i = a then az R n b else if i <= n then az R (i - 1) b else az R i b
 | 0, R, ha, hn, i, b => by
  obtain rfl : a = 0 := by omega
  unfold ew;by_cases h : i = 0
  · subst h; simp
  · rw [if_neg (by omega), if_neg h, if_neg (by omega)]
 | n + 1, R, ha, hn, i, b => by
  unfold ew;by_cases h : n + 1 <= a
  · obtain rfl : a = n + 1 := by omega
    rw [if_pos h];by_cases h1 : i < n + 1
    · rw [if_pos h1]
    · rw [if_neg h1];by_cases h2 : i = n + 1
      · subst h2; rw [if_pos rfl]
      · rw [if_neg h2, if_neg (by omega)]
  · rw [if_neg h, lq n _ (by omega) (by rw [cC]; omega)];have hsw := fun x => mX (R := R) (i := n + 1) (j := n) hn (by omega) x b;rw [hsw, hsw, hsw];by_cases h1 : i < a
    · rw [if_pos h1, if_pos h1];unfold swp; rw [if_neg (by omega), if_neg (by omega)]
    · rw [if_neg h1, if_neg h1];by_cases h2 : i = a
      · rw [if_pos h2, if_pos h2];unfold swp; rw [if_pos rfl]
      · rw [if_neg h2, if_neg h2];by_cases h3 : i <= n
        · rw [if_pos h3, if_pos (by omega)];unfold swp; rw [if_neg (by omega), if_neg (by omega)]
        · rw [if_neg h3];by_cases h4 : i = n + 1
          · subst h4; rw [if_pos (by omega)];unfold swp; rw [if_neg (by omega), if_pos rfl]; rfl
          · rw [if_neg (by omega : ¬ i <= n + 1)];unfold swp; rw [if_neg (by omega), if_neg h4]
theorem oW {c a : Nat} : ∀ (n : Nat) (R : List Hd), Sh c R -> Sh c (ew a n R)
 | 0, R, h => h
 | n + 1, R, h => by
  unfold ew; split
  · exact h
  · exact oW n _ (h.uS _ _)
structure PI (c n δ u s : Nat) (l : Nat -> Nat) (last : Int) (E0 : Nat -> Nat -> Int) (v0 : Nat -> Int) (Ro R : List Hd) : Prop where
 sh : Sh c R
 len : R.length = Ro.length
 oP : Ech n c (az R) l
 sn : s <= n
 lo : ∀ i, i < s -> (l i : Int) <= last
 hi : ∀ i, s <= i -> i < n -> last < (l i : Int)
 un : ∀ i, s <= i -> i < n -> ∀ b, az R i b = E0 i b
 z : ∀ b : Nat, (b : Int) <= last -> az R n b = 0
 bd : ∀ a b, (az R a b).natAbs < W ^ u
 cb : ∃ (t : Int) (w : Nat -> Int), t ≠ 0 /\ Sp n E0 w /\ ∀ b, az R n b = t * v0 b + w b
 sp : aO (n + 1) (az Ro) (n + 1) (az R)
 oth : ∀ a, n < a -> ∀ b, az R a b = az Ro a b
structure vf (c n : Nat) (E0 : Nat -> Nat -> Int) (v0 : Nat -> Int) (Ro : List Hd) (b : Bool) (R' : List Hd) : Prop where
 sh : Sh c R'
 len : R'.length = Ro.length
 oth : ∀ a, n < a -> ∀ b, az R' a b = az Ro a b
 no : b = false -> (∃ l', cH n c (az R') l') /\ (∀ b, az R' n b = 0) /\ aO (n + 1) (az Ro) n (az R')
 yes : b = true -> (∃ l', cH (n + 1) c (az R') l') /\ aO (n + 1) (az Ro) (n + 1) (az R') /\ ∀ s : Int, Sp n E0 (fun j => s * v0 j) -> s = 0
theorem ud {n s j : Nat} {l : Nat -> Nat} (h : s <= n) : ∃ a, s <= a /\ a <= n /\ (∀ i, s <= i -> i < a -> l i < j) /\ (a = n ∨ (a < n /\ j <= l a)) := by
 obtain ⟨f, hf⟩ : ∃ f, n - s = f := ⟨_, rfl⟩;induction f generalizing s with
 | zero => exact ⟨s, Nat.le_refl _, h, fun i h1 h2 => by omega, .inl (by omega)⟩
 | succ f ih =>
  by_cases hj : j <= l s
  · exact ⟨s, Nat.le_refl _, h, fun i h1 h2 => by omega, .inr ⟨by omega, hj⟩⟩
  · obtain ⟨a, h1, h2, h3, h4⟩ := ih (s := s + 1) (by omega) (by omega);refine ⟨a, by omega, h2, fun i hi hia => ?_, h4⟩;by_cases e : i = s
    · subst e; omega
    · exact h3 i (by omega) hia
theorem qt {c n a j : Nat} {l : Nat -> Nat} {E F : Nat -> Nat -> Int} (h : Ech n c E l) (ha : a <= n) (hlo : ∀ i, i < a -> l i < j) (hhi : ∀ i, a <= i -> i < n -> j < l i) (hj : j < c) (h0 : ∀ b, b < j -> E n b = 0) (hp : 0 < E n j)
 (hF : ∀ i b, i <= n -> F i b = if i < a then E i b else if i = a then E n b else E (i - 1) b) : Ech (n + 1) c F (fun i => if i < a then l i else if i = a then j else l (i - 1)) := by
 refine ⟨fun i k hik hk => ?_, fun i hi => ?_, fun i hi b hb => ?_, fun i hi => ?_⟩
 · show (if i < a then l i else if i = a then j else l (i - 1)) < (if k < a then l k else if k = a then j else l (k - 1));by_cases h1 : k < a
   · rw [if_pos h1, if_pos (by omega)]; exact h.inc i k hik (by omega)
   · rw [if_neg h1];by_cases h2 : k = a
     · rw [if_pos h2, if_pos (by omega)]; exact hlo i (by omega)
     · rw [if_neg h2];by_cases h3 : i < a
       · rw [if_pos h3]; exact h.inc i (k - 1) (by omega) (by omega)
       · rw [if_neg h3];by_cases h4 : i = a
         · rw [if_pos h4]; exact hhi (k - 1) (by omega) (by omega)
         · rw [if_neg h4]; exact h.inc (i - 1) (k - 1) (by omega) (by omega)
 · show (if i < a then l i else if i = a then j else l (i - 1)) < c;split
   · exact h.lt i (by omega)
   · split
     · exact hj
     · exact h.lt (i - 1) (by omega)
 · rw [hF i b (by omega)];have hb : b < (if i < a then l i else if i = a then j else l (i - 1)) := hb;split at hb
   · rename_i h1; rw [if_pos h1]; exact h.zero i (by omega) b hb
   · rename_i h1; rw [if_neg h1];split at hb
     · rename_i h2; rw [if_pos h2]; exact h0 b hb
     · rename_i h2; rw [if_neg h2]; exact h.zero (i - 1) (by omega) b hb
 · rw [hF i _ (by omega)];show 0 < (if i < a then E i (if i < a then l i else if i = a then j else l (i - 1)) else if i = a then E n (if i < a then l i else if i = a then j else l (i - 1)) else E (i - 1) (if i < a then l i else if i = a then j else l (i - 1)));split
   · exact h.pos i (by omega)
   · split
     · exact hp
     · exact h.pos (i - 1) (by omega)
theorem aO.perm {n a : Nat} {E F : Nat -> Nat -> Int} (ha : a <= n) (hF : ∀ i b, i <= n -> F i b = if i < a then E i b else if i = a then E n b else E (i - 1) b) : aO (n + 1) E (n + 1) F := by
 refine ⟨fun k hk => ?_, fun k hk => ?_⟩
 · by_cases h1 : k < a
   · exact (Sp.row F hk).congr (fun b => by rw [hF k b (by omega), if_pos h1])
   · by_cases h2 : k = n
     · subst h2;exact (Sp.row F (show a < k + 1 by omega)).congr (fun b => by rw [hF a b (by omega), if_neg (by omega), if_pos rfl])
     · exact (Sp.row F (show k + 1 < n + 1 by omega)).congr (fun b => by rw [hF (k + 1) b (by omega), if_neg (by omega), if_neg (by omega)]; rfl)
 · by_cases h1 : k < a
   · exact (Sp.row E hk).congr (fun b => by rw [hF k b (by omega), if_pos h1])
   · by_cases h2 : k = a
     · exact (Sp.row E (show n < n + 1 by omega)).congr (fun b => by rw [hF k b (by omega), if_neg h1, if_pos h2])
     · exact (Sp.row E (show k - 1 < n + 1 by omega)).congr (fun b => by rw [hF k b (by omega), if_neg h1, if_neg h2])
theorem aO.neg {N n : Nat} {E F : Nat -> Nat -> Int} (hn : n < N) (hs : ∀ a, a ≠ n -> ∀ b, F a b = E a b) (h : ∀ b, F n b = - E n b) : aO N E N F := by
 refine ⟨fun k hk => ?_, fun k hk => ?_⟩
 · by_cases e : k = n
   · subst e; exact ((Sp.row F hk).smul (-1)).congr (fun b => by rw [h]; omega)
   · exact (Sp.row F hk).congr (fun b => (hs k e b).symm)
 · by_cases e : k = n
   · subst e; exact ((Sp.row E hk).smul (-1)).congr (fun b => by rw [h]; omega)
   · exact (Sp.row E hk).congr (fun b => hs k e b)
theorem kf {c n δ B U : Nat} {l : Nat -> Nat} {E0 : Nat -> Nat -> Int} {v0 : Nat -> Int} {Ro : List Hd} (hn : n < Ro.length) (hH0 : Ech n c E0 l) (hδ : ∀ a, a < n -> ∀ b, (E0 a b).natAbs < W ^ δ) (hUB : U + (n + 1) * δ <= B)
 (hZ : ∀ E' l', cH n c E' l' -> aO (n + 1) (az Ro) n E' -> ∀ i, i < n -> ∀ j, (E' i j).natAbs < W ^ δ)
 (hS : (∀ s : Int, Sp n E0 (fun j => s * v0 j) -> s = 0) -> ∀ E' l', cH (n + 1) c E' l' -> aO (n + 1) (az Ro) (n + 1) E' -> ∀ i, i < n + 1 -> ∀ j, (E' i j).natAbs < W ^ δ)
 (s u at_ : Nat) (last : Int) (R : List Hd) (hI : PI c n δ u s l last E0 v0 Ro R) (hat : at_ <= s) (hu : u + (n - s) * (2 * δ + 1) <= U)
 (hnext : ∀ a, s <= a -> a < n -> ∀ R1 u1, PI c n δ u1 (a + 1) l (l a) E0 v0 Ro R1 -> u1 + (n - (a + 1)) * (2 * δ + 1) <= U -> ∃ b R', nB B c n a (l a) R1 b R' /\ vf c n E0 v0 Ro b R') :
 ∃ b R', nB B c n at_ last R b R' /\ vf c n E0 v0 Ro b R' := by
 have hnR : n < R.length := by rw [hI.len]; exact hn
 have hle := pQ hnR hI.sh;have huB : u <= B := by have := Nat.zero_le ((n - s) * (2 * δ + 1)); have := Nat.zero_le ((n + 1) * δ); omega
 have hFit : Fit B c R := Fit.of hI.sh (fun a b => gM (hI.bd a b) huB);have hnδ : n * δ <= (n + 1) * δ := Nat.mul_le_mul_right _ (by omega);have huU : u <= U := by have := Nat.zero_le ((n - s) * (2 * δ + 1)); omega
 by_cases hc : aP R n = c
 · -- nothing is left
   have hz : ∀ b, az R n b = 0 := fun b => by
    by_cases h : b < c
    · exact hle.2.1 b (by omega)
    · exact hI.sh.wide n (by omega)
   have hspz : aO (n + 1) (az R) n (az R) := by
    refine ⟨fun k hk => ?_, fun k hk => Sp.row _ (by omega)⟩;by_cases e : k = n
    · subst e; exact (Sp.zero _ _).congr hz
    · exact Sp.row _ (by omega)
   obtain ⟨R', h1, h2⟩ := mZ (B := B) (δ := δ) hI.sh (by omega : n <= R.length) hI.oP hI.bd (by omega) (fun E' hE' hsp => hZ E' l hE' (hI.sp.trans (hspz.trans hsp)));exact ⟨false, R', .zero hFit (.inl hc) h1, h2.sh, h2.len.trans hI.len, fun a ha b => (h2.same a (by omega) b).trans (hI.oth a ha b), fun _ => ⟨⟨l, h2.herm⟩, fun b => (h2.same n (Nat.le_refl _) b).trans (hz b), hI.sp.trans (hspz.trans h2.sp)⟩, fun h => by cases h⟩
 · have hjc : aP R n < c := by have := hle.1; omega
   obtain ⟨j, hj⟩ : ∃ j, aP R n = j := ⟨_, rfl⟩;rw [hj] at hjc hc hle;have hvj := hle.2.2 hjc;have hlast : last < (j : Int) := by
    by_cases h : last < (j : Int)
    · exact h
    · exact absurd (hI.z j (by omega)) hvj
   obtain ⟨a, hsa, han, hlt, hend⟩ := ud (l := l) (j := j) hI.sn;have hlead : ∀ i, i < n -> aP R i = l i := fun i hi => mB (by omega) hI.sh (hI.oP.zero i hi) (by have := hI.oP.pos i hi; omega);have hlo : ∀ i, i < a -> l i < j := fun i hi => by
    by_cases h : s <= i
    · exact hlt i h hi
    · have := hI.lo i (by omega); omega
   by_cases hm : a < n /\ l a = j
   · obtain ⟨ha, hla⟩ := hm;have hrow : ∀ b, (az R a b).natAbs < W ^ δ := fun b => by rw [hI.un a hsa ha]; exact hδ a ha b
     have hp : 0 < az R a j := by rw [<- hla]; exact hI.oP.pos a ha
     have h0a : ∀ b, b < j -> az R a b = 0 := fun b hb => hI.oP.zero a ha b (by omega);have hok := vU (j := j) hI.sh (by omega : a < R.length) hnR (by omega) hp h0a hle.2.1 hrow (hI.bd n);have hA := jQ hI.sh (by omega : a < R.length) hnR j;have hbA := jX (j := j) hI.sh (by omega : a < R.length) hnR hp hrow (hI.bd n);have h2n : (n - s) * (2 * δ + 1) = (n - (a + 1)) * (2 * δ + 1) + (a + 1 - s) * (2 * δ + 1) := by rw [<- Nat.add_mul]; congr 1; omega
     have h2a : 2 * δ + 1 <= (a + 1 - s) * (2 * δ + 1) := by have := Nat.mul_le_mul_right (2 * δ + 1) (show 1 <= a + 1 - s by omega); omega
     have hbud : u + 2 * δ + 1 + (n - (a + 1)) * (2 * δ + 1) <= U := by omega
     have hudB : u + 2 * δ + 1 <= B := by
      have := Nat.zero_le ((n - (a + 1)) * (2 * δ + 1)); have := Nat.zero_le ((n + 1) * δ); omega
     have hFitA : Fit B c (cI R a n j) := Fit.of (hI.sh.rR n a _) (fun x b => by
      by_cases e : x = n
      · subst e; exact gM (hbA b) (by omega)
      · rw [hA, if_neg e]; exact gM (hI.bd x b) huB)
     have hpA : az (cI R a n j) a j ≠ 0 := by rw [hA, if_neg (by omega)]; omega
     have hPI : PI c n δ (u + 2 * δ + 1) (a + 1) l (l a) E0 v0 Ro (fK R a n j) := by
      refine ⟨hok.sh, hok.len.trans hI.len, ?_, by omega, ?_, ?_, ?_, ?_, ?_, ?_, hI.sp.trans (hok.sp (n + 1) (by omega) (by omega)), ?_⟩
      · refine ⟨hI.oP.inc, hI.oP.lt, fun i hi b hb => ?_, fun i hi => ?_⟩
        · by_cases e : i = a
          · subst e; exact hok.low b (by omega)
          · rw [hok.same i e (by omega)]; exact hI.oP.zero i hi b hb
        · by_cases e : i = a
          · subst e; rw [hla]; exact hok.piv
          · rw [hok.same i e (by omega)]; exact hI.oP.pos i hi
      · intro i hi;by_cases e : i = a
        · subst e; exact Int.le_refl _
        · have := hI.oP.inc i a (by omega) ha; omega
      · intro i hi hin;have := hI.oP.inc a i (by omega) hin; omega
      · intro i hi hin b;rw [hok.same i (by omega) (by omega)]; exact hI.un i (by omega) hin b
      · intro b hb;exact hok.gone b (by omega)
      · intro x b;by_cases e : x = a
        · subst e; exact hok.bk b
        · by_cases e' : x = n
          · subst e'; exact hok.bn b
          · rw [hok.same x e e']; exact gM (hI.bd x b) (by omega)
      · obtain ⟨t, w, ht, hw, hv⟩ := hI.cb;obtain ⟨t', s', ht', hv'⟩ := hok.comb;refine ⟨t' * t, fun b => t' * w b + s' * E0 a b, fun e => ?_, (hw.smul t').add ((Sp.row E0 ha).smul s'), fun b => ?_⟩
        · rcases Int.mul_eq_zero.1 e with e | e
          · exact ht' e
          · exact ht e
        · show az (fK R a n j) n b = t' * t * v0 b + (t' * w b + s' * E0 a b);rw [hv', hv, hI.un a hsa ha, Int.mul_add, Int.mul_assoc]; omega
      · intro x hx b;rw [hok.same x (by omega) (by omega)]; exact hI.oth x hx b
     obtain ⟨b, R', h1, h2⟩ := hnext a hsa ha (fK R a n j) (u + 2 * δ + 1) hPI hbud;refine ⟨b, R', .meet hFit (by rw [hj]; exact hjc) (by rw [hj]; exact hlast) a (by omega) ha (fun i h3 h4 => ?_) ?_ ?_ ?_ ?_ ?_, h2⟩
     · rw [hj, hlead i (by omega)]; exact hlo i h4
     · rw [hj, hlead a ha, hla]
     · rw [hj]; omega
     · rw [hj]; exact hFitA
     · rw [hj]; exact hpA
     · rw [hj]; rw [hla] at h1; exact h1
   · have hhi : ∀ i, a <= i -> i < n -> j < l i := fun i h1 h2 => by
      rcases hend with h3 | ⟨h3, h4⟩
      · omega
      · by_cases e : i = a
        · subst e;have : l i ≠ j := fun h => hm ⟨h3, h⟩;omega
        · have := hI.oP.inc a i (by omega) h2; omega
     obtain ⟨R1, hR1⟩ : ∃ R1, (if az R n (aP R n) < 0 then gV R n else R) = R1 := ⟨_, rfl⟩;have hR1e : ∀ x, x ≠ n -> ∀ b, az R1 x b = az R x b := fun x hx b => by
      rw [<- hR1]; split
      · rw [mx hnR, if_neg hx]
      · rfl
     have hR1n : (∀ b, (az R1 n b).natAbs = (az R n b).natAbs) /\ 0 < az R1 n j /\ ((∀ b, az R1 n b = az R n b) ∨ (∀ b, az R1 n b = - az R n b)) := by
      rw [<- hR1]; split
      · rename_i h;rw [hj] at h;have h1 := fun b => (mx hnR n b).trans (if_pos rfl);exact ⟨fun b => by rw [h1, Int.natAbs_neg], by rw [h1]; omega, .inr h1⟩
      · rename_i h;rw [hj] at h;exact ⟨fun b => rfl, by omega, .inl (fun b => rfl)⟩
     have hR1s : Sh c R1 := by
      rw [<- hR1]; split
      · exact hI.sh.y5 n
      · exact hI.sh
     have hR1l : R1.length = R.length := by
      rw [<- hR1]; split
      · exact nX ..
      · rfl
     have hR1b : ∀ x b, (az R1 x b).natAbs < W ^ u := fun x b => by
      by_cases e : x = n
      · subst e; rw [hR1n.1]; exact hI.bd x b
      · rw [hR1e x e]; exact hI.bd x b
     have hsp1 : aO (n + 1) (az R) (n + 1) (az R1) := by
      rcases hR1n.2.2 with h | h
      · exact aO.of_eq (fun k hk b => by
         by_cases e : k = n
         · subst e; exact (h b).symm
         · exact (hR1e k e b).symm)
      · exact aO.neg (by omega) hR1e h
     have hsw := lq (a := a) n R1 han (by omega);obtain ⟨R2, hR2⟩ : ∃ R2, ew a n R1 = R2 := ⟨_, rfl⟩;have hs2 : Sh c R2 := hR2 ▸ oW n R1 hR1s;have hl2 : R2.length = R.length := by rw [<- hR2, iO, hR1l]
     rw [hR2] at hsw;have hsw2 : ∀ i b, i <= n -> az R2 i b = if i < a then az R1 i b else if i = a then az R1 n b else az R1 (i - 1) b := fun i b hi => by
      rw [hsw];by_cases h1 : i < a
      · rw [if_pos h1, if_pos h1]
      · rw [if_neg h1, if_neg h1];by_cases h2 : i = a
        · rw [if_pos h2, if_pos h2]
        · rw [if_neg h2, if_neg h2, if_pos hi]
     have hb2 : ∀ x b, (az R2 x b).natAbs < W ^ u := fun x b => by
      rw [hsw]; split
      · exact hR1b ..
      · split
        · exact hR1b ..
        · split <;> exact hR1b ..
     have hE1 : Ech n c (az R1) l := hI.oP.congr (fun x hx b => hR1e x (by omega) b);have h10 : ∀ b, b < j -> az R1 n b = 0 := fun b hb => by
      have h1 := hR1n.1 b;rw [hle.2.1 b hb] at h1; omega
     have hE2 := qt hE1 han hlo hhi hjc h10 hR1n.2.1 hsw2;have hsp2 := aO.perm han hsw2;have hind : ∀ t : Int, Sp n E0 (fun b => t * v0 b) -> t = 0 := by
      intro t ht;obtain ⟨t', w, ht', hw, hv⟩ := hI.cb;by_cases h0 : t = 0
      · exact h0
      · exfalso;have hin : Sp n E0 (fun b => t * az R n b) := ((ht.smul t').add (hw.smul t)).congr (fun b => by
         rw [hv, Int.mul_add, <- Int.mul_assoc, <- Int.mul_assoc, Int.mul_comm t' t])
        obtain ⟨k, hk, hlk, _⟩ := hH0.lead hin (q := j) (fun e => by
         rcases Int.mul_eq_zero.1 e with e | e
         · exact h0 e
         · exact hvj e) (fun b hb => by
           show t * az R n b = 0;rw [hle.2.1 b hb, Int.mul_zero])
        by_cases hka : k < a
        · have := hlo k hka; omega
        · have := hhi k (by omega) hk; omega
     obtain ⟨R', h1, h2⟩ := mZ (B := B) (δ := δ) (n := n + 1) hs2 (by omega) hE2 hb2 (by omega) (fun E' hE' hsp => hS hind E' _ hE' (hI.sp.trans (hsp1.trans (hsp2.trans hsp))));refine ⟨true, R', .stop hFit (by rw [hj]; exact hjc) (by rw [hj]; exact hlast) a (by omega) han (fun i h3 h4 => ?_) ?_ ?_ ?_, h2.sh, h2.len.trans (hl2.trans hI.len), fun x hx b => ?_, fun h => (by cases h), fun _ => ⟨⟨_, h2.herm⟩, hI.sp.trans (hsp1.trans (hsp2.trans h2.sp)), hind⟩⟩
     · rw [hj, hlead i (by omega)]; exact hlo i h4
     · rcases Nat.lt_or_eq_of_le han with h | h
       · refine .inr ?_;rw [hj, hlead a h]; exact hhi a (Nat.le_refl _) h
       · exact .inl h
     · rw [hR1, hR2]; exact Fit.of hs2 (fun a b => gM (hb2 a b) huB)
     · rw [hR1, hR2]; exact h1
     · rw [h2.same x (by omega), hsw, if_neg (by omega), if_neg (by omega), if_neg (by omega), hR1e x (by omega)];exact hI.oth x hx b
theorem wH {c n δ B U : Nat} {l : Nat -> Nat} {E0 : Nat -> Nat -> Int} {v0 : Nat -> Int} {Ro : List Hd} (hn : n < Ro.length) (hH0 : Ech n c E0 l) (hδ : ∀ a, a < n -> ∀ b, (E0 a b).natAbs < W ^ δ) (hUB : U + (n + 1) * δ <= B)
 (hZ : ∀ E' l', cH n c E' l' -> aO (n + 1) (az Ro) n E' -> ∀ i, i < n -> ∀ j, (E' i j).natAbs < W ^ δ)
 (hS : (∀ s : Int, Sp n E0 (fun j => s * v0 j) -> s = 0) -> ∀ E' l', cH (n + 1) c E' l' -> aO (n + 1) (az Ro) (n + 1) E' -> ∀ i, i < n + 1 -> ∀ j, (E' i j).natAbs < W ^ δ) :
 ∀ (f s u at_ : Nat) (last : Int) (R : List Hd), n - s <= f -> PI c n δ u s l last E0 v0 Ro R -> at_ <= s -> u + (n - s) * (2 * δ + 1) <= U -> ∃ b R', nB B c n at_ last R b R' /\ vf c n E0 v0 Ro b R' := by
 intro f;induction f with
 | zero =>
  intro s u at_ last R hf hI hat hu;exact kf hn hH0 hδ hUB hZ hS s u at_ last R hI hat hu (fun a ha1 ha2 => by omega)
 | succ f ih =>
  intro s u at_ last R hf hI hat hu;refine kf hn hH0 hδ hUB hZ hS s u at_ last R hI hat hu (fun a ha1 ha2 R1 u1 hI1 hu1 => ?_);exact ih (a + 1) u1 a (l a) R1 (by omega) hI1 (by omega) hu1
/-! Reduce. -/
def gP (N m : Nat) : Nat := 2 * (m + 1) * N + 1
theorem jb {n N m : Nat} (hn : n <= N) (hN : N <= 1048576) : rV n (W ^ m) < W ^ gP N m := by
 unfold rV gP;rcases Nat.eq_zero_or_pos n with h | h
 · subst h; simp; exact gj _
 · have h1 : 2 * n * W ^ m + 1 <= W ^ (m + 1) := by
    rw [Nat.pow_succ, Nat.mul_comm (W ^ m)];have h2 : (2 * n + 1) * W ^ m <= W * W ^ m := Nat.mul_le_mul_right _ (by unfold W; omega);have h3 : (2 * n + 1) * W ^ m = 2 * n * W ^ m + W ^ m := by rw [Nat.add_mul, Nat.one_mul]
    have := gj m;omega
   have h2 : (2 * n * W ^ m + 1) ^ (n - 1) <= W ^ ((m + 1) * (n - 1)) := by
    rw [Nat.pow_mul]; exact Nat.pow_le_pow_left h1 _
   have h3 : n * ((2 * n * W ^ m + 1) ^ (n - 1) * W ^ m) <= W ^ ((m + 1) * n) := by
    have h4 : (2 * n * W ^ m + 1) ^ (n - 1) * W ^ m <= W ^ ((m + 1) * (n - 1)) * W ^ m := Nat.mul_le_mul_right _ h2;have h5 : n * ((2 * n * W ^ m + 1) ^ (n - 1) * W ^ m) <= W * (W ^ ((m + 1) * (n - 1)) * W ^ m) := Nat.mul_le_mul (by unfold W; omega) h4;refine Nat.le_trans h5 ?_;have e : W * (W ^ ((m + 1) * (n - 1)) * W ^ m) = W ^ ((m + 1) * (n - 1) + m + 1) := by
     rw [<- Nat.pow_add, Nat.mul_comm W, <- Nat.pow_succ]
    rw [e];have e2 : (m + 1) * (n - 1) + m + 1 = (m + 1) * n := by
     have : n = n - 1 + 1 := by omega
     rw [Nat.add_assoc]
     conv => rhs; rw [this, Nat.mul_add, Nat.mul_one]
    rw [e2]; exact Nat.le_refl _
   obtain ⟨D, hD⟩ : ∃ D, n * ((2 * n * W ^ m + 1) ^ (n - 1) * W ^ m) = D := ⟨_, rfl⟩;rw [hD] at h3 ⊢;have h6 : D * D <= W ^ (2 * (m + 1) * n) := by
    have := Nat.mul_le_mul h3 h3;rw [<- Nat.pow_add] at this;have e : (m + 1) * n + (m + 1) * n = 2 * (m + 1) * n := by rw [Nat.mul_assoc]; omega
    rwa [e] at this
   have h7 : n * D * D < W * W ^ (2 * (m + 1) * n) := by
    rw [Nat.mul_assoc];refine Nat.lt_of_le_of_lt (Nat.mul_le_mul_left n h6) ?_;exact Nat.mul_lt_mul_of_pos_right (by unfold W; omega) (gj _)
   refine Nat.lt_of_lt_of_le h7 ?_;rw [Nat.mul_comm W, <- Nat.pow_succ];refine tF ?_;have : 2 * (m + 1) * n <= 2 * (m + 1) * N := Nat.mul_le_mul_left _ hn;omega
def sQ (N m : Nat) : Nat := gP N m + N * (2 * gP N m + 1) + (N + 1) * gP N m
theorem oA.snoc {n : Nat} {a E0 : Nat -> Nat -> Int} {v : Nat -> Int} (h : oA n a) (ha : ∀ k, k < n -> Sp n E0 (a k)) (hv : ∀ s : Int, Sp n E0 (fun j => s * v j) -> s = 0) : oA (n + 1) (fun k => if k < n then a k else v) := by
 intro x hx k hk;have e : ∀ j, sm n (fun k => x k * a k j) + x n * v j = 0 := fun j => by
  have := hx j;unfold sm at this;rw [aj (g := fun k => x k * a k j) (fun k hk => by simp [hk])] at this;simpa using this
 have h0 : x n = 0 := by
  refine hv _ (((Sp.sm (x := fun k => - x k) ha)).congr (fun j => ?_));have h1 := e j;have h2 : sm n (fun k => - x k * a k j) = - sm n (fun k => x k * a k j) := by
   have := bg n (-1) (fun k => x k * a k j);rw [Int.neg_one_mul] at this;rw [<- this]; exact aj (fun k _ => by rw [Int.neg_mul, Int.neg_one_mul])
  rw [h2]; omega
 by_cases hkn : k = n
 · subst hkn; exact h0
 · refine h x (fun j => ?_) k (by omega);have := e j;rw [h0] at this; simpa using this
theorem pH : ∀ (k i : Nat) (R : List Hd), i + k < R.length -> ∀ a b, az (oa k i R) a b = if a < i then az R a b else if a < i + k then az R (a + 1) b else if a = i + k then az R i b else az R a b
 | 0, i, R, h, a, b => by
  unfold oa;by_cases h1 : a < i
  · rw [if_pos h1]
  · rw [if_neg h1, if_neg (by omega)];by_cases h2 : a = i + 0
    · rw [if_pos h2]; subst h2; rfl
    · rw [if_neg h2]
 | k + 1, i, R, h, a, b => by
  unfold oa;rw [pH k (i + 1) _ (by rw [cC]; omega)];have hsw := fun x => mX (R := R) (i := i) (j := i + 1) (by omega) (by omega) x b;rw [hsw, hsw, hsw];by_cases h1 : a < i
  · rw [if_pos (by omega), if_pos h1];unfold swp; rw [if_neg (by omega), if_neg (by omega)]
  · rw [if_neg h1];by_cases h2 : a = i
    · rw [if_pos (by omega), if_pos (by omega)];unfold swp; rw [if_neg (by omega), if_pos h2, h2]
    · rw [if_neg (by omega)];by_cases h3 : a < i + (k + 1)
      · rw [if_pos (by omega), if_pos h3];unfold swp; rw [if_neg (by omega), if_neg (by omega)]
      · rw [if_neg (by omega), if_neg h3];by_cases h4 : a = i + (k + 1)
        · rw [if_pos (by omega), if_pos h4];unfold swp; rw [if_pos rfl]
        · rw [if_neg (by omega), if_neg h4];unfold swp; rw [if_neg (by omega), if_neg (by omega)]
theorem uX {c : Nat} : ∀ (k i : Nat) (R : List Hd), Sh c R -> Sh c (oa k i R)
 | 0, i, R, h => h
 | k + 1, i, R, h => uX k (i + 1) _ (h.uS _ _)
theorem kb : ∀ (k i : Nat) (R : List Hd), (oa k i R).length = R.length
 | 0, i, R => rfl
 | k + 1, i, R => (kb k (i + 1) _).trans (cC ..)
theorem cH.congr {n c : Nat} {E F : Nat -> Nat -> Int} {l : Nat -> Nat} (h : cH n c E l) (e : ∀ a, a < n -> ∀ b, F a b = E a b) : cH n c F l :=
 ⟨h.toEch.congr e, fun i k hik hk => by rw [e i (by omega), e k hk]; exact h.red i k hik hk⟩
structure RI (c m : Nat) (Ro : List Hd) (d e : Nat) (R : List Hd) : Prop where
 sh : Sh c R
 len : R.length = Ro.length
 de : d <= e
 el : e <= Ro.length
 herm : ∃ l, cH d c (az R) l
 raw : ∀ i, d <= i -> i < e -> ∀ b, (az R i b).natAbs < W ^ m
 zero : ∀ i, e <= i -> ∀ b, az R i b = 0
 sp : aO Ro.length (az Ro) e (az R)
 ind : ∃ a : Nat -> Nat -> Int, (∀ k, k < d -> Sp d (az R) (a k)) /\ oA d a /\ ∀ k b, k < d -> (a k b).natAbs <= W ^ m
structure rU (c D : Nat) (Ro : List Hd) (k : Nat) (R' : List Hd) : Prop where
 sh : Sh c R'
 len : R'.length = Ro.length
 kl : k <= Ro.length
 herm : ∃ l, cH k c (az R') l
 zero : ∀ i, k <= i -> ∀ b, az R' i b = 0
 sp : aO Ro.length (az Ro) k (az R')
 bd : ∀ i b, (az R' i b).natAbs < W ^ D
theorem RI.done {c m N d : Nat} {Ro R : List Hd} (hI : RI c m Ro d d R) (hN : Ro.length <= N) (hN1 : N <= 1048576) : rU c (gP N m) Ro d R := by
 refine ⟨hI.sh, hI.len, hI.el, hI.herm, hI.zero, hI.sp, fun i b => ?_⟩;obtain ⟨l, hH⟩ := hI.herm;obtain ⟨a, ha1, ha2, ha3⟩ := hI.ind;by_cases h : i < d
 · exact Nat.lt_of_le_of_lt (hH.bound ha1 ha2 (fun k j hk => ha3 k j hk) i b h) (jb (by have := hI.el; omega) hN1)
 · rw [hI.zero i (by omega)]; simpa using gj _
theorem r6 {c m N B : Nat} {Ro : List Hd} (hN : Ro.length <= N) (hN1 : N <= 1048576) (hB : sQ N m <= B) : ∀ (f d e : Nat) (R : List Hd), e - d <= f -> RI c m Ro d e R -> ∃ k R', qb B c d e R k R' /\ rU c (gP N m) Ro k R'
 | 0, d, e, R, hf, hI => by
  have : d = e := by have := hI.de; omega
  subst this;exact ⟨d, R, .fin (Nat.le_refl _), hI.done hN hN1⟩
 | f + 1, d, e, R, hf, hI => by
  by_cases hde : d < e
  · obtain ⟨δ, hδ⟩ : ∃ δ, gP N m = δ := ⟨_, rfl⟩;unfold sQ at hB;rw [hδ] at hB;obtain ⟨l, hH⟩ := hI.herm;obtain ⟨a, ha1, ha2, ha3⟩ := hI.ind;have hdl : d < Ro.length := by have := hI.el; omega
    have hmδ : m <= δ := by
     have h1 : (m + 1) * 1 <= (m + 1) * (2 * N) := Nat.mul_le_mul_left _ (by omega);rw [<- hδ]; unfold gP;have h2 : 2 * (m + 1) * N = (m + 1) * (2 * N) := by rw [Nat.mul_comm 2, Nat.mul_assoc]
     omega
    have hbnd : ∀ i, i < d -> ∀ b, (az R i b).natAbs < W ^ δ := fun i hi b => by
     have := hH.bound ha1 ha2 (fun k j hk => ha3 k j hk) i b hi;exact Nat.lt_of_le_of_lt this (hδ ▸ jb (by omega) hN1)
    have hall : ∀ x b, (az R x b).natAbs < W ^ δ := fun x b => by
     by_cases h1 : x < d
     · exact hbnd x h1 b
     · by_cases h2 : x < e
       · exact gM (hI.raw x (by omega) h2 b) hmδ
       · rw [hI.zero x (by omega)]; simpa using gj δ
    have hsub : ∀ {M : Nat} {E' : Nat -> Nat -> Int}, aO (d + 1) (az R) M E' -> ∀ k, k < d -> Sp M E' (a k) := fun hsp k hk =>
     (ha1 k hk).trans (fun i hi => hsp.1 i (by omega))
    have hZ : ∀ E' l', cH d c E' l' -> aO (d + 1) (az R) d E' -> ∀ i, i < d -> ∀ j, (E' i j).natAbs < W ^ δ := fun E' l' hE' hsp i hi j =>
     Nat.lt_of_le_of_lt (hE'.bound (hsub hsp) ha2 (fun k j hk => ha3 k j hk) i j hi) (hδ ▸ jb (by omega) hN1)
    have hS : (∀ s : Int, Sp d (az R) (fun j => s * az R d j) -> s = 0) -> ∀ E' l', cH (d + 1) c E' l' -> aO (d + 1) (az R) (d + 1) E' -> ∀ i, i < d + 1 -> ∀ j, (E' i j).natAbs < W ^ δ := fun hv E' l' hE' hsp i hi j => by
     have hb := hE'.bound (a := fun k => if k < d then a k else az R d) (M := W ^ m) (fun k hk => by
      by_cases h : k < d
      · simp only [if_pos h]; exact hsub hsp k h
      · simp only [if_neg h]; exact hsp.1 d (by omega)) (ha2.snoc ha1 hv) (fun k j hk => by
      by_cases h : k < d
      · simp only [if_pos h]; exact ha3 k j h
      · simp only [if_neg h]; exact Nat.le_of_lt (hI.raw d (Nat.le_refl _) hde j)) i j hi
     exact Nat.lt_of_le_of_lt hb (hδ ▸ jb (by omega) hN1)
    have hmulN : (d - 0) * (2 * δ + 1) <= N * (2 * δ + 1) := Nat.mul_le_mul_right _ (by omega);have hmulN2 : (d + 1) * δ <= (N + 1) * δ := Nat.mul_le_mul_right _ (by omega);obtain ⟨b, R1, hput, hok⟩ := wH (δ := δ) (B := B) (U := δ + N * (2 * δ + 1)) (v0 := az R d) (by rw [hI.len]; exact hdl : d < R.length) hH.toEch hbnd (by omega) hZ hS d 0 δ 0 (-1) R (by omega)
     ⟨hI.sh, rfl, hH.toEch, Nat.zero_le _, fun i hi => by omega, fun i _ _ => by omega, fun i _ _ _ => rfl, fun b hb => by omega, hall, ⟨1, fun _ => 0, by omega, Sp.zero _ _, fun b => by simp⟩, aO.refl _ _, fun _ _ _ => rfl⟩ (Nat.le_refl _) (by omega)
    cases b
    · obtain ⟨⟨l', hH'⟩, hz, hsp⟩ := hok.no rfl;have hl1 : R1.length = R.length := hok.len;have hrot := pH (e - 1 - d) d R1 (by rw [hl1, hI.len]; have := hI.el; omega);have e1 : d + (e - 1 - d) = e - 1 := by omega
      rw [e1] at hrot;obtain ⟨R2, hR2⟩ : ∃ R2, oa (e - 1 - d) d R1 = R2 := ⟨_, rfl⟩;have hlo : ∀ i, i < d -> ∀ b, az R2 i b = az R1 i b := fun i hi b => by rw [<- hR2, hrot, if_pos hi]
      have hmid : ∀ i, d <= i -> i < e - 1 -> ∀ b, az R2 i b = az R (i + 1) b := fun i h1 h2 b => by
       rw [<- hR2, hrot, if_neg (by omega), if_pos h2, hok.oth (i + 1) (by omega)]
      have hsp2 : aO Ro.length (az Ro) (e - 1) (az R2) := by
       refine hI.sp.trans ⟨fun k hk => ?_, fun k hk => ?_⟩
       · by_cases h1 : k <= d
         · refine (hsp.1 k (by omega)).trans (fun i hi => ?_);exact (Sp.row (az R2) (by omega : i < e - 1)).congr (fun b => (hlo i hi b).symm)
         · refine (Sp.row (az R2) (by omega : k - 1 < e - 1)).congr (fun b => ?_);rw [hmid (k - 1) (by omega) (by omega)]; congr 1; omega
       · by_cases h1 : k < d
         · refine ((hsp.2 k h1).congr (hlo k h1)).trans (fun i hi => Sp.row _ (by omega))
         · exact (Sp.row (az R) (by omega : k + 1 < e)).congr (hmid k (by omega) hk)
      have hRI : RI c m Ro d (e - 1) R2 := by
       refine ⟨hR2 ▸ uX _ _ _ hok.sh, by rw [<- hR2, kb, hl1, hI.len], by omega, by have := hI.el; omega, ⟨l', hH'.congr hlo⟩, fun i h3 h4 b => ?_, fun i h3 b => ?_, hsp2, ⟨a, fun k hk => ?_, ha2, ha3⟩⟩
       · rw [hmid i h3 h4]; exact hI.raw (i + 1) (by omega) (by omega) b
       · rw [<- hR2, hrot, if_neg (by omega), if_neg (by omega)];by_cases h4 : i = e - 1
         · rw [if_pos h4]; exact hz b
         · rw [if_neg h4, hok.oth i (by omega)]; exact hI.zero i (by omega) b
       · refine (hsub hsp k hk).trans (fun i hi => ?_);exact (Sp.row (az R2) hi).congr (fun b => (hlo i hi b).symm)
      obtain ⟨k, R', h1, h2⟩ := r6 hN hN1 (by unfold sQ; rw [hδ]; exact hB) f d (e - 1) R2 (by omega) hRI;exact ⟨k, R', .zero hde hput (by rw [hR2]; exact h1), h2⟩
    · obtain ⟨⟨l', hH'⟩, hsp, hv⟩ := hok.yes rfl;have hl1 : R1.length = R.length := hok.len;have hsp2 : aO Ro.length (az Ro) e (az R1) := by
       refine hI.sp.trans ⟨fun k hk => ?_, fun k hk => ?_⟩
       · by_cases h1 : k < d + 1
         · exact (hsp.1 k h1).trans (fun i hi => Sp.row _ (by omega))
         · exact (Sp.row (az R1) hk).congr (fun b => (hok.oth k (by omega) b).symm)
       · by_cases h1 : k < d + 1
         · exact (hsp.2 k h1).trans (fun i hi => Sp.row _ (by omega))
         · exact (Sp.row (az R) hk).congr (fun b => hok.oth k (by omega) b)
      have hRI : RI c m Ro (d + 1) e R1 := by
       refine ⟨hok.sh, hl1.trans hI.len, by omega, hI.el, ⟨l', hH'⟩, fun i h3 h4 b => ?_, fun i h3 b => ?_, hsp2, ⟨fun k => if k < d then a k else az R d, fun k hk => ?_, ha2.snoc ha1 hv, fun k b hk => ?_⟩⟩
       · rw [hok.oth i (by omega)]; exact hI.raw i (by omega) h4 b
       · rw [hok.oth i (by omega)]; exact hI.zero i h3 b
       · by_cases h : k < d
         · simp only [if_pos h]; exact hsub hsp k h
         · simp only [if_neg h]; exact hsp.1 d (by omega)
       · by_cases h : k < d
         · simp only [if_pos h]; exact ha3 k b h
         · simp only [if_neg h]; exact Nat.le_of_lt (hI.raw d (Nat.le_refl _) hde b)
      obtain ⟨k, R', h1, h2⟩ := r6 hN hN1 (by unfold sQ; rw [hδ]; exact hB) f (d + 1) e R1 (by omega) hRI;exact ⟨k, R', .ok hde hput h1, h2⟩
  · have : d = e := by have := hI.de; omega
    subst this;exact ⟨d, R, .fin (Nat.le_refl _), hI.done hN hN1⟩
theorem sP {c m N B : Nat} {Ro : List Hd} (hs : Sh c Ro) (hm : ∀ i b, (az Ro i b).natAbs < W ^ m) (hN : Ro.length <= N) (hN1 : N <= 1048576) (hB : sQ N m <= B) : ∃ k R', qb B c 0 Ro.length Ro k R' /\ rU c (gP N m) Ro k R' :=
 r6 hN hN1 hB Ro.length 0 Ro.length Ro (by omega)
  ⟨hs, rfl, Nat.zero_le _, Nat.le_refl _, ⟨fun _ => 0, ⟨fun i k _ h => by omega, fun i h => by omega, fun i h => by omega, fun i h => by omega⟩, fun i k _ h => by omega⟩, fun i _ _ b => hm i b, fun i hi b => ei hi b, aO.refl _ _, ⟨fun _ _ => 0, fun k h => by omega, fun x _ k h => by omega, fun k b h => by omega⟩⟩
end Go.Proofs.Ytjjlmfmoihooiaa
namespace Go.Proofs.Ytjjlmfmoihooiaa
open Go.RowKit
structure eC (B : Nat) (S : Nat -> Prop) (w w' : World) : Prop where
 os : w'.os = w.os
 tape : w'.tape = w.tape
 output : w'.output = w.output
 size : w.heap.size <= w'.heap.size
 block : ∀ k, k < B -> ¬ S k -> w'.heap[k]? = w.heap[k]?
theorem eC.trans {B : Nat} {S : Nat -> Prop} {a b c : World} (h : eC B S a b) (k : eC B S b c) : eC B S a c :=
 ⟨k.os.trans h.os, k.tape.trans h.tape, k.output.trans h.output, Nat.le_trans h.size k.size, fun i hi hs => (k.block i hi hs).trans (h.block i hi hs)⟩
theorem eC.putObj {B : Nat} {S : Nat -> Prop} (w : World) {l : Nat} (o : Obj) (hl : B <= l) : eC B S w (w.putObj l o) :=
 ⟨rfl, rfl, rfl, by simp, fun k hk _ => World.putObj_heap_other (by omega)⟩
theorem eC.cM {B : Nat} {S : Nat -> Prop} {w w' : World} (h : Below B w w') : eC B S w w' := ⟨h.os, h.tape, h.output, h.size, fun k hk _ => h.block k hk⟩
def uk {α : Type} (B : Nat) (S : Nat -> Prop) (I : List α -> World -> Prop) (xs : List α) (W : World) : Exit -> Act -> World -> Prop
 | .normal, _, W' => KeepsOthers W W' /\ eC B S W W' /\ I xs W'
 | _, _, _ => False
attribute [local go_sem] Oper.semAt_some
abbrev NR := Nat × Hd
def NR.enc (x : NR) : Array Value := #[.int .i64 (x.1 : Int), .slice (some ⟨x.2.blk, 0, none⟩) x.2.xs.length x.2.cap]
def xx (B : Nat) (pre : List NR) (x : NR) (W : World) : Prop := bR W x.2.blk x.2.xs /\ B <= x.2.blk /\ ∀ y ∈ pre, y.2.blk ≠ x.2.blk
def xh (r c : Nat) (xs : List Int) (zs : List NR) : Prop := zs.length = r /\ ∀ k (h : k < zs.length), zs[k] = (k, ⟨(zs[k]).2.blk, c, rowOf xs c k⟩)
theorem aI.piece {w : World} {b : Nat} {xs : List Int} (h : bR w b xs) (L : Nat) (hL : ∀ x ∈ xs, ag x.natAbs <= L) (k c : Nat) : aI w L (some ⟨b, k * c * 2, none⟩) (rowOf xs c k) := by
 intro hp;refine ⟨b, k * c * 2, rfl, h.lt, fun i hi => ?_⟩;have h0 : i < c := by simp [rowOf] at hi; omega
 have h1 : k * c + i < xs.length := by simp [rowOf] at hi; omega
 obtain ⟨p, h2, h3, h4⟩ := h.get h1;have e : (k * c + i) * 2 = k * c * 2 + i * 2 := by omega
 rw [e] at h2 h3;refine ⟨p, h2, h3, ?_⟩;have e2 : (rowOf xs c k)[i] = xs[k * c + i] := by simp [rowOf]
 rw [e2];exact h4.int (hL _ (List.getElem_mem _))
set_option maxRecDepth 100000 in
set_option maxHeartbeats 4000000 in
theorem n9 (n g b r c : Nat) (xs : List Int) (w : World) (S : Nat -> Prop) (hS : fG S w) (hg : ah w g 24 [.int .i64 (r : Int), .int .i64 (c : Int), .slice (some ⟨b, 0, none⟩) xs.length xs.length]) (hgS : ¬ S g) (hb : bR w b xs) (hbS : ¬ S b) (hl : xs.length = r * c) (hr : r <= 100000) (hc : c <= 100000)
 (hL : ∀ x ∈ xs, ag x.natAbs <= 17592186044415)
 (l : Nat) (J : List NR -> World -> Prop) (W : World) (hW : Below w.heap.size w W) (hJ : ∀ s A B, J s A -> Below A.heap.size A B -> J s B)
 (hY : ∀ pre x Wp W1, J pre Wp -> Below Wp.heap.size Wp W1 -> Wp.heap.size <= x.2.blk -> xx w.heap.size pre x W1 -> x = (pre.length, ⟨x.2.blk, c, rowOf xs c pre.length⟩) -> pre.length < r -> YieldAt Fence.wide (n - 1) Try.prog l (NR.enc x) W1 fun e W' => e = .returned (.bool true) /\ J (pre ++ [x]) W' /\ eC w.heap.size S W1 W')
 (h0 : J [] W) (hn : 1 <= n) :
 CallsIn Fence.wide n Try.prog 55 (#[.func (.yield l) #[] #[]] ++ #[.pointer (some ⟨g, 0, none⟩)]) W fun e W' => (∃ v, e = .returned v) /\ ∃ zs, xh r c xs zs /\ J zs W' := by
 have HG := Lib.hid hg; clear hg;have HB := Lib.hid hb; clear hb;have HL := Lib.hid hl; clear hl;have HW := Lib.hid hW; clear hW;have HY := Lib.hid hY; clear hY;have HWL := Lib.hid hS; clear hS;have g0 := (HG.out.below HW.out HG.out.lt).cell 0;refine callsIn_of_wp Try.func55 rfl trivial ?_ rfl;simp only [Try.ntmps55, List.size_toArray, List.length_cons, List.length_nil, Nat.reduceAdd, Nat.reduceSub, Array.replicate_succ, Array.replicate_zero, List.push_toArray, List.append_toArray, List.nil_append, List.cons_append];simp only [List.getElem?_cons_zero] at g0
 gi_wp2
 clear g0
 gi_loopw [6] (fun i wr => ∃ (k : Nat) (zs : List NR), k <= r /\ i = .int .i64 (k : Int) /\ Hid (zs.length = k /\ (∀ j (h : j < zs.length), zs[j] = (j, ⟨(zs[j]).2.blk, c, rowOf xs c j⟩)) /\ (∀ y ∈ zs, y.2.blk < wr.heap.size) /\ J zs wr /\ bT S w wr))
  (fun i _ => r - (intOf i).toNat)
 case atStart => exact ⟨0, [], Nat.zero_le _, rfl, Lib.hid ⟨rfl, fun j h => absurd h (by simp), fun y h => absurd h (by simp), h0, bT.cM HW.out⟩⟩
 case round =>
  obtain ⟨k, zs, hk, rfl, HI⟩ := hrel;by_cases hlt : k < r
  · have hlt' : (k : Int) < (r : Int) := by omega
    have g0 := (HI.out.2.2.2.2.row HG.out hgS).cell 0;have g1 := (HI.out.2.2.2.2.row HG.out hgS).cell 1;have g2 := (HI.out.2.2.2.2.row HG.out hgS).cell 2;simp only [List.getElem?_cons_zero, List.getElem?_cons_succ] at g0 g1 g2;obtain ⟨q, hq⟩ : ∃ q, k * c = q := ⟨_, rfl⟩;have hq2 : (k + 1) * c = q + c := by rw [Nat.succ_mul, hq]
    have hq3 : q + c <= xs.length := by rw [<- hq2, HL.out]; exact Nat.mul_le_mul_right _ hlt
    have hxl : xs.length <= 10000000000 := by rw [HL.out]; exact Nat.mul_le_mul hr hc
    have hw1 : wrap64 ((k : Int) * (c : Int)) = (q : Int) := by
     rw [<- Int.natCast_mul, hq]; unfold wrap64; omega
    have hw2 : wrap64 (((k : Int) + 1) * (c : Int)) = (q : Int) + (c : Int) := by
     have : ((k : Int) + 1) * (c : Int) = ((q + c : Nat) : Int) := by rw [<- hq2]; push_cast; rfl
     rw [this]; push_cast; unfold wrap64; omega
    have hpc : aI wr 17592186044415 (some ⟨b, q * 2, none⟩) (rowOf xs c k) := by
     rw [<- hq]; exact aI.piece (HI.out.2.2.2.2.rowN HWL.out HB.out hbS) _ hL k c
    have hrl : (rowOf xs c k).length = c := dq HL.out hlt;have HP := Lib.hid hpc; clear hpc;have HQ := Lib.hid hq; clear hq;have HQ2 := Lib.hid hq2; clear hq2;have hle1 : (q : Int) + (c : Int) <= (xs.length : Int) := by omega
    have hle2 : (q : Int) <= (q : Int) + (c : Int) := by omega
    have hcap : xs.length - q ≠ 0 ∨ c = 0 := by omega
    gi_wp2_with fail
    · refine ⟨trivial, ?_⟩;have hE := gQ (some ⟨b, 0, none⟩) 0 (rowOf xs c k) wr (fun h => by rw [hrl] at h; omega) (by rw [hrl]; omega);rw [hrl] at hE;refine (callsIn_wide.2 hE).mono ?_;rintro e w3 ⟨⟨bn, rfl, hbn, hrow⟩, hb3⟩;have hs3 := hb3.size;have hJ3 : J zs w3 := hJ _ _ _ HI.out.2.2.2.1 hb3;have hlt3 : bn < w3.heap.size := hrow.lt;obtain ⟨fn, tmps, assign, body, hy, hR⟩ := HY.out zs (k, ⟨bn, c, rowOf xs c k⟩) wr w3 HI.out.2.2.2.1 hb3 hbn ⟨hrow, by have := HI.out.2.2.2.2.size; show w.heap.size <= bn; omega, fun y hy => by have := HI.out.2.2.1 y hy; show y.2.blk ≠ bn; omega⟩ (by rw [HI.out.1]) (by rw [HI.out.1]; exact hlt);simp only [NR.enc] at hy;rw [hrl] at hy;have HI3 : Hid (bT S w w3) := Lib.hid (HI.out.2.2.2.2.below hb3);have HZ := Lib.hid (And.intro HI.out.1 (And.intro HI.out.2.1 HI.out.2.2.1));have HB3 := Lib.hid hb3;clear hb3 HI HP hrow hJ3 g0 g1 g2
      gi_wp2
      refine hR.mono ?_;rintro e W' ⟨rfl, hJ', hk'⟩;have HJ' := Lib.hid hJ';have HK' := Lib.hid hk';clear hJ' hk' hy hR
      gi_wp2
      go_roundw
      case rel =>
       refine ⟨k + 1, zs ++ [(k, ⟨bn, c, rowOf xs c k⟩)], by omega, by go_num, Lib.hid ⟨by simp [HZ.out.1], fun j hj => ?_, fun y hy => ?_, HJ'.out, ?_⟩⟩
       · by_cases hjk : j < zs.length
         · rw [List.getElem_append_left hjk];exact HZ.out.2.1 j hjk
         · have hjl : j = zs.length := by simp at hj; omega
           subst hjl;simp [HZ.out.1]
       · have hsz := HK'.out.size;rcases List.mem_append.1 hy with hy | hy
         · have := HZ.out.2.2 y hy; have := HB3.out.size; omega
         · simp only [List.mem_singleton] at hy; subst hy; show bn < _; omega
       · exact ⟨HK'.out.os.trans HI3.out.os, HK'.out.tape.trans HI3.out.tape, HK'.out.output.trans HI3.out.output, Nat.le_trans HI3.out.size HK'.out.size, fun i hi hs => (HK'.out.block i hi hs).trans (HI3.out.block i hi hs)⟩
      case measure => simp [intOf]; omega
    · refine ⟨trivial, ?_⟩;have hE := gQ (some ⟨b, q * 2, none⟩) (xs.length - q) (rowOf xs c k) wr HP.out (by rw [hrl]; omega);rw [hrl] at hE;refine (callsIn_wide.2 hE).mono ?_;rintro e w3 ⟨⟨bn, rfl, hbn, hrow⟩, hb3⟩;have hs3 := hb3.size;have hJ3 : J zs w3 := hJ _ _ _ HI.out.2.2.2.1 hb3;have hlt3 : bn < w3.heap.size := hrow.lt;obtain ⟨fn, tmps, assign, body, hy, hR⟩ := HY.out zs (k, ⟨bn, c, rowOf xs c k⟩) wr w3 HI.out.2.2.2.1 hb3 hbn ⟨hrow, by have := HI.out.2.2.2.2.size; show w.heap.size <= bn; omega, fun y hy => by have := HI.out.2.2.1 y hy; show y.2.blk ≠ bn; omega⟩ (by rw [HI.out.1]) (by rw [HI.out.1]; exact hlt);simp only [NR.enc] at hy;rw [hrl] at hy;have HI3 : Hid (bT S w w3) := Lib.hid (HI.out.2.2.2.2.below hb3);have HZ := Lib.hid (And.intro HI.out.1 (And.intro HI.out.2.1 HI.out.2.2.1));have HB3 := Lib.hid hb3;clear hb3 HI HP hrow hJ3 g0 g1 g2
      gi_wp2
      refine hR.mono ?_;rintro e W' ⟨rfl, hJ', hk'⟩;have HJ' := Lib.hid hJ';have HK' := Lib.hid hk';clear hJ' hk' hy hR
      gi_wp2
      go_roundw
      case rel =>
       refine ⟨k + 1, zs ++ [(k, ⟨bn, c, rowOf xs c k⟩)], by omega, by go_num, Lib.hid ⟨by simp [HZ.out.1], fun j hj => ?_, fun y hy => ?_, HJ'.out, ?_⟩⟩
       · by_cases hjk : j < zs.length
         · rw [List.getElem_append_left hjk];exact HZ.out.2.1 j hjk
         · have hjl : j = zs.length := by simp at hj; omega
           subst hjl;simp [HZ.out.1]
       · have hsz := HK'.out.size;rcases List.mem_append.1 hy with hy | hy
         · have := HZ.out.2.2 y hy; have := HB3.out.size; omega
         · simp only [List.mem_singleton] at hy; subst hy; show bn < _; omega
       · exact ⟨HK'.out.os.trans HI3.out.os, HK'.out.tape.trans HI3.out.tape, HK'.out.output.trans HI3.out.output, Nat.le_trans HI3.out.size HK'.out.size, fun i hi hs => (HK'.out.block i hi hs).trans (HI3.out.block i hi hs)⟩
      case measure => simp [intOf]; omega
  · obtain rfl : k = r := by omega
    gi_wp2
    go_end0
    exact ⟨⟨_, rfl⟩, zs, ⟨HI.out.1, HI.out.2.1⟩, HI.out.2.2.2.1⟩
end Go.Proofs.Ytjjlmfmoihooiaa
namespace Go.Proofs.Ytjjlmfmoihooiaa
def ai (xs : List Int) (r c i j : Nat) : Int := if i < r /\ j < c then xs.getD (i * c + j) 0 else 0
theorem bY {r c i j : Nat} (hi : i < r) (hj : j < c) : i * c + j < r * c := by
 have h1 : (i + 1) * c <= r * c := Nat.mul_le_mul_right _ hi;have h2 : (i + 1) * c = i * c + c := Nat.succ_mul i c;omega
theorem uZ {r c n : Nat} (h : n < r * c) : ∃ i j, i < r /\ j < c /\ n = i * c + j := by
 have hc : 0 < c := by
  rcases Nat.eq_zero_or_pos c with h0 | h0
  · subst h0; simp at h
  · exact h0
 exact ⟨n / c, n % c, (Nat.div_lt_iff_lt_mul hc).2 h, Nat.mod_lt _ hc, by have := Nat.div_add_mod n c; rw [Nat.mul_comm] at this; omega⟩
theorem aS {xs : List Int} {r c i j : Nat} (hi : i < r) (hj : j < c) : ai xs r c i j = xs.getD (i * c + j) 0 := by
 unfold ai; rw [if_pos ⟨hi, hj⟩]
theorem j8 {xs : List Int} {r c i : Nat} (hi : r <= i) (j : Nat) : ai xs r c i j = 0 := by
 unfold ai; rw [if_neg (by omega)]
theorem da {xs : List Int} {r c j : Nat} (i : Nat) (hj : c <= j) : ai xs r c i j = 0 := by
 unfold ai; rw [if_neg (by omega)]
theorem tE {xs ys : List Int} {r c : Nat} (hx : xs.length = r * c) (hy : ys.length = r * c) (h : ∀ i j, i < r -> j < c -> ai xs r c i j = ai ys r c i j) : xs = ys := by
 refine List.ext_getElem (by omega) fun n h1 h2 => ?_;obtain ⟨i, j, hi, hj, e⟩ := uZ (by omega : n < r * c);have := h i j hi hj;rw [aS hi hj, aS hi hj, <- e, gD _ _ h1, gD _ _ h2] at this;exact this
theorem gd {xs : List Int} {r c B : Nat} (hB : 0 < B) (h : ∀ x ∈ xs, x.natAbs < B) (i j : Nat) : (ai xs r c i j).natAbs < B := by
 unfold ai;split
 · by_cases hl : i * c + j < xs.length
   · rw [gD _ _ hl]; exact h _ (List.getElem_mem _)
   · rw [ep _ _ (by omega)]; simpa using hB
 · simpa using hB
theorem qe {xs : List Int} {r c B : Nat} (hx : xs.length = r * c) (h : ∀ i j, i < r -> j < c -> (ai xs r c i j).natAbs < B) : ∀ x ∈ xs, x.natAbs < B := by
 intro x hm;obtain ⟨n, hn, rfl⟩ := List.getElem_of_mem hm;obtain ⟨i, j, hi, hj, e⟩ := uZ (by omega : n < r * c);have := h i j hi hj;rw [aS hi hj, <- e, gD _ _ hn] at this;exact this
theorem kV (xs : List Int) (c k j : Nat) (hj : j < c) : (rowOf xs c k).getD j 0 = xs.getD (k * c + j) 0 := by
 unfold rowOf;simp [hj]
theorem js : ∀ (xss : List (List Int)) (c : Nat), (∀ x ∈ xss, x.length = c) -> ∀ i j, (hi : i < xss.length) -> j < c -> xss.flatten.getD (i * c + j) 0 = (xss[i]).getD j 0
 | [], c, h, i, j, hi, hj => by simp at hi
 | x :: xss, c, h, 0, j, hi, hj => by
  have hx := h x (List.mem_cons_self ..);rw [List.flatten_cons, Nat.zero_mul, Nat.zero_add, List.getElem_cons_zero];rw [gD _ _ (by rw [List.length_append]; omega), gD _ _ (by omega), List.getElem_append_left]
 | x :: xss, c, h, i + 1, j, hi, hj => by
  have hx := h x (List.mem_cons_self ..);rw [List.flatten_cons, List.getElem_cons_succ, <- js xss c (fun y hy => h y (List.mem_cons_of_mem _ hy)) i j (by simpa using hi) hj];have e : (i + 1) * c + j = x.length + (i * c + j) := by rw [Nat.succ_mul, hx]; omega
  rw [e, List.getD_eq_getElem?_getD, List.getElem?_append_right (by omega), List.getD_eq_getElem?_getD];congr 2; omega
structure xe (r c : Nat) (xs hs : List Int) (k : Nat) (l : Nat -> Nat) : Prop where
 len : hs.length = r * c
 kr : k <= r
 herm : cH k c (ai hs r c) l
 zero : ∀ i, k <= i -> ∀ b, ai hs r c i b = 0
 sp : aO r (ai xs r c) k (ai hs r c)
theorem sq {R : List Hd} {r c : Nat} (hl : R.length = r) (hs : Sh c R) : (R.map Hd.xs).flatten.length = r * c /\ ∀ i j, ai (R.map Hd.xs).flatten r c i j = az R i j := by
 have hc : ∀ x ∈ R.map Hd.xs, x.length = c := fun x hx => by
  obtain ⟨q, hq, rfl⟩ := List.mem_map.1 hx; exact hs q hq
 refine ⟨?_, fun i j => ?_⟩
 · have : ∀ (xss : List (List Int)), (∀ x ∈ xss, x.length = c) -> xss.flatten.length = xss.length * c := by
    intro xss;induction xss with
    | nil => intro _; simp
    | cons x xs ih =>
     intro h;rw [List.flatten_cons, List.length_append, ih (fun y hy => h y (List.mem_cons_of_mem _ hy)), h x (List.mem_cons_self ..), List.length_cons, Nat.succ_mul]; omega
   rw [this _ hc, List.length_map, hl]
 · by_cases hi : i < r
   · by_cases hj : j < c
     · rw [aS hi hj, js _ c hc i j (by simp; omega) hj, List.getElem_map, bV (by omega)]
     · rw [hs.wide i (by omega), da _ (by omega)]
   · rw [ei (by omega), j8 (by omega)]
end Go.Proofs.Ytjjlmfmoihooiaa
namespace Go.Proofs.Ytjjlmfmoihooiaa
open Go.RowKit
attribute [local go_sem] Oper.semAt_some
abbrev hW (m : Nat) : Nat := gP 66 m
end Go.Proofs.Ytjjlmfmoihooiaa
namespace Go.Proofs.Ytjjlmfmoihooiaa
end Go.Proofs.Ytjjlmfmoihooiaa
namespace Go.Proofs.Ytjjlmfmoihooiaa
open Go.RowKit
end Go.Proofs.Ytjjlmfmoihooiaa
namespace Go.Proofs.Ytjjlmfmoihooiaa
end Go.Proofs.Ytjjlmfmoihooiaa
namespace Go.Proofs.Ytjjlmfmoihooiaa
open Go.RowKit
theorem aI.up {w : World} {L L' : Nat} {ao : Option Addr} {xs : List Int} (h : aI w L ao xs) (hL : L <= L') : aI w L' ao xs := fun hl => by
 obtain ⟨b, o, e, hlt, hc⟩ := h hl;exact ⟨b, o, e, hlt, fun i hi => by obtain ⟨p, h0, h1, hn⟩ := hc i hi; exact ⟨p, h0, h1, hn.mono hL⟩⟩
end Go.Proofs.Ytjjlmfmoihooiaa
namespace Go.Proofs.Ytjjlmfmoihooiaa
end Go.Proofs.Ytjjlmfmoihooiaa
namespace Go.Proofs.Ytjjlmfmoihooiaa
open Go.RowKit
end Go.Proofs.Ytjjlmfmoihooiaa
namespace Go.Proofs.Ytjjlmfmoihooiaa
structure oG (c n : Nat) (E : Nat -> Nat -> Int) (hs : List Int) (k : Nat) : Prop where
 len : hs.length = k * c
 herm : ∃ l, cH k c (ai hs k c) l
 sp : aO n E k (ai hs k c)
theorem oG.to {c n m k : Nat} {E F : Nat -> Nat -> Int} {hs : List Int} (h : oG c n E hs k) (e : aO m F n E) : oG c m F hs k := ⟨h.len, h.herm, e.trans h.sp⟩
theorem th {R : List Hd} {k i : Nat} (hi : i < k) (j : Nat) : az (R.take k) i j = az R i j := by
 by_cases h : i < R.length
 · rw [bV (R := R) h, bV (R := R.take k) (by simp; omega)]; simp
 · rw [ei (R := R) (by omega), ei (R := R.take k) (by simp; omega)]
theorem yi {R R' : List Hd} {c D k : Nat} (h : rU c D R k R') : oG c R.length (az R) ((R'.take k).map Hd.xs).flatten k /\ ∀ x ∈ ((R'.take k).map Hd.xs).flatten, x.natAbs < W ^ D := by
 obtain ⟨l, hH⟩ := h.herm;have hl : (R'.take k).length = k := by rw [List.length_take, h.len]; exact Nat.min_eq_left h.kl
 have hm := sq (r := k) hl (fun q hq => h.sh q (List.mem_of_mem_take hq));have he : ∀ i, i < k -> ∀ j, ai ((R'.take k).map Hd.xs).flatten k c i j = az R' i j := fun i hi j => (hm.2 i j).trans (th hi j);exact ⟨⟨hm.1, ⟨l, hH.congr (fun a ha b => he a ha b)⟩, h.sp.trans (aO.of_eq (fun i hi j => (he i hi j).symm))⟩, qe hm.1 (fun i j hi _ => by rw [he i hi]; exact h.bd i j)⟩
theorem l6 {c m n : Nat} {E : Nat -> Nat -> Int} (hn : n <= 66) (hE : ∀ i b, i < n -> (E i b).natAbs < W ^ m) (hz : ∀ i b, c <= b -> E i b = 0) : ∃ hs k, oG c n E hs k /\ ∀ x ∈ hs, x.natAbs < W ^ hW m := by
 obtain ⟨R, hR⟩ : ∃ R, R = (List.range n).map (fun i => Hd.mk 0 0 ((List.range c).map (E i))) := ⟨_, rfl⟩;have hl : R.length = n := by rw [hR]; simp
 have hx : ∀ i (hi : i < R.length), R[i].xs = (List.range c).map (E i) := fun i hi => by subst hR; simp
 have hsh : Sh c R := fun q hq => by
  obtain ⟨i, hi, rfl⟩ := List.getElem_of_mem hq;rw [hx i hi]; simp
 have he : ∀ i, i < n -> ∀ b, az R i b = E i b := fun i hi b => by
  by_cases hb : b < c
  · rw [bV (by omega), hx i (by omega)]; simp [hb]
  · rw [hsh.wide i (by omega), hz i b (by omega)]
 have hb : ∀ i b, (az R i b).natAbs < W ^ m := fun i b => by
  by_cases hi : i < n
  · rw [he i hi]; exact hE i b hi
  · rw [ei (by omega)]; exact Nat.pow_pos (by decide)
 obtain ⟨k, R', _, hOk⟩ := sP (N := 66) (B := sQ 66 m) hsh hb (by omega) (by omega) (Nat.le_refl _);have hB := yi hOk;refine ⟨_, k, hB.1.to ?_, hB.2⟩;rw [hl];exact aO.of_eq (fun i hi j => (he i hi j).symm)
end Go.Proofs.Ytjjlmfmoihooiaa
namespace Go.Proofs.Ytjjlmfmoihooiaa
open Go.RowKit
section
variable {P : Program} {Q : Exit -> Act -> World -> Prop} {ds : List Deferred} {S0 : Nat -> Prop} {w0 : World} {n : Nat} {ls : List (Nat × Value)} {es : List En} {c : Code}
theorem dr {es' : List En} (k : dS ds P n S0 w0 c Q ls es') (h : Pk es es' := by repeat (first | exact Pk.n | refine Pk.c (by repeat (first | exact Rm.z | apply Rm.s)) ?_)) : dS ds P n S0 w0 c Q ls es := fun a w ha hw => k a w ha (hw.pick h)
end
section
variable {P : Program} {ops : Array Oper} {Q : Exit -> Act -> World -> Prop} {ds : List Deferred} {S0 : Nat -> Prop} {w0 : World} {E0 : List En} {hd : List (List Nat)} {n j s : Nat} {l : List Nat} {G E : List En} {ls : List (Nat × Value)} {op : Op} {ty : TypeId} {pos : String} {af : Array Edge} {v v' : Value}
theorem dE (hv : v' = v) (k : cY ds ⟨P, ops, Q, S0, w0, E0, []⟩ n l G E ((s, v) :: ls))
 (ho : ops[j]? = some ⟨some s, op, ty, pos, af, none⟩ := by rfl) (hk : (bw op && di ls op && Nat.blt s n) = true := by kernel_rfl)
 (hr : ∀ w, (nP op = true -> Fr S0 w0 w E0) -> (execOp (cn ls) ⟨some s, op, ty, pos, af, none⟩).run P w = .ok (.value v') w := by intro w H; (first | (have c := (H rfl).c; try simp only [qx, cl, List.cons_append, List.nil_append] at c) | skip); clear H; go_simp <;> with_reducible rfl) : cY ds ⟨P, ops, Q, S0, w0, E0, []⟩ n (j :: l) G E ls :=
 dW (v := v) k ho hk (by rw [<- hv]; exact hr)
theorem dB (b : Bool) (k : cY ds ⟨P, ops, Q, S0, w0, E0, []⟩ n l G E ((s, .bool b) :: ls))
 (ho : ops[j]? = some ⟨some s, op, ty, pos, af, none⟩ := by rfl) (hk : (bw op && di ls op && Nat.blt s n) = true := by kernel_rfl)
 (hr : ∀ w, (nP op = true -> Fr S0 w0 w E0) -> (execOp (cn ls) ⟨some s, op, ty, pos, af, none⟩).run P w = .ok (.value v') w := by intro w H; (first | (have c := (H rfl).c; try simp only [qx, cl, List.cons_append, List.nil_append] at c) | skip); clear H; go_simp <;> with_reducible rfl)
 (hv : v' = .bool b := by first | rfl | (simp [*]; done) | (simp; omega)) : cY ds ⟨P, ops, Q, S0, w0, E0, []⟩ n (j :: l) G E ls :=
 dE hv k ho hk hr
theorem mf (b : Bool) {sg g : Nat} {want : Bool} (k : cY ds ⟨P, ops, Q, S0, w0, E0, []⟩ n l G E ((s, .bool b) :: ls))
 (ho : ops[j]? = some ⟨some s, op, ty, pos, af, some (g, want)⟩ := by rfl) (hk : (bw op && di ls op && Nat.blt s n) = true := by kernel_rfl)
 (hg : (ops[g]?).bind (·.dst) = some sg := by rfl) (hi : dP ls (.tmp sg) = true := by kernel_rfl) (hb : cn ls (.tmp sg) = .bool want := by (simp only [bN, Nat.reduceEqDiff, ↓reduceIte]) <;> first | rfl | simp [*])
 (hr : ∀ w, (nP op = true -> Fr S0 w0 w E0) -> (execOp (cn ls) ⟨some s, op, ty, pos, af, some (g, want)⟩).run P w = .ok (.value v') w := by intro w H; (first | (have c := (H rfl).c; try simp only [qx, cl, List.cons_append, List.nil_append] at c) | skip); clear H; go_simp <;> with_reducible rfl)
 (hv : v' = .bool b := by first | rfl | (simp [*]; done) | (simp; omega)) : cY ds ⟨P, ops, Q, S0, w0, E0, []⟩ n (j :: l) G E ls :=
 dG k ho hk hg hi hb (by rw [<- hv]; exact hr)
end
theorem Fr.apart {S0 : Nat -> Prop} {w0 w : World} {es : List En} (h : Fr S0 w0 w es) {e e1 : En} (he : e ∈ es) (he1 : e1 ∈ es) (hw : e.wr = true) (hw1 : e1.wr = false) {b : Nat} (hb : e.S b) : ¬ e1.S b := fun hb1 => by
 obtain ⟨l1, l2, rfl⟩ := List.append_of_mem he1;have hp := List.pairwise_append.1 h.sep;rcases List.mem_append.1 he with h | h
 · exact (hp.2.2 e h _ (List.mem_cons_self ..)).1 hw b hb hb1
 · rcases List.mem_cons.1 h with rfl | h
   · rw [hw] at hw1; cases hw1
   · exact ((List.pairwise_cons.1 hp.2.1).1 e h).2 hw b hb hb1
section
variable {P : Program} {ops : Array Oper} {Q : Exit -> Act -> World -> Prop} {ds : List Deferred} {S0 : Nat -> Prop} {w0 : World} {E0 : List En} {hd : List (List Nat)} {n j s sg g : Nat} {l : List Nat} {G E : List En} {ls : List (Nat × Value)} {op : Op} {ty : TypeId} {pos : String} {af : Array Edge} {f : FuncId} {args : Array Value} {want : Bool}
end
theorem bU {xs : List Int} {i : Nat} (h : i < xs.length) : gi xs i = xs[i] := by simp [gi, h]
theorem fC {ps : List P4} {i : Nat} (h : i < ps.length) : gp ps i = ps[i] := by simp [gp, h]
theorem cS {xs : List Int} {i : Nat} (h : i < xs.length) : gi xs i ∈ xs := by rw [bU h]; exact List.getElem_mem h
theorem eY {xs : List Int} {i j : Nat} (h : i < xs.length) (x : Int) : gi (xs.set i x) j = if j = i then x else gi xs j := by
 unfold gi;rw [List.getD_eq_getElem?_getD, List.getElem?_set, List.getD_eq_getElem?_getD];by_cases e : i = j
 · subst e; simp [h]
 · have e2 : ¬ j = i := fun q => e q.symm;simp [e, e2]
theorem pZ {ps : List P4} {i : Nat} (tl : List Value) (h : i < ps.length) : (rn ps tl)[i * 2]? = some (.bool (gp ps i).1) := by
 have := aV ps;rw [fC h, rn, List.getElem?_append_left (by omega)]; exact iA ps i h
theorem pY {ps : List P4} {i : Nat} (tl : List Value) (h : i < ps.length) : (rn ps tl)[i * 2 + 1]? = some (.slice (gp ps i).2.1 (gp ps i).2.2.1 (gp ps i).2.2.2) := by
 have := aV ps;rw [fC h, rn, List.getElem?_append_left (by omega)]; exact iE ps i h
theorem xS {ps : List P4} {i : Nat} (tl : List Value) (h : i < ps.length) (p : P4) : gg (rn ps tl) (i * 2) [.bool p.1, .slice p.2.1 p.2.2.1 p.2.2.2] = rn (ps.set i p) tl := by
 have hl := aV ps;simp only [gg, rn];rw [List.set_append_left _ _ (by omega), List.set_append_left _ _ (by rw [List.length_set]; omega), lY]
theorem aN.rn {ps : List P4} {tl : List Value} (h : aN tl) : aN (rn ps tl) := o6 h
theorem bC.set {w : World} {ps : List P4} {xs : List Int} (h : bC w ps xs) (i : Nat) {p : P4} {x : Int} (hp : aJ w (av p) x) : bC w (ps.set i p) (xs.set i x) := by
 refine ⟨by simp [h.1], fun j hj => ?_⟩;rw [List.length_set] at hj;have h1 := h.1;by_cases e : i = j
 · subst e;rw [fC (by simpa using hj), bU (by simp; omega)];simpa using hp
 · have := h.2 j hj;rw [fC hj, bU (by omega)] at this;rw [fC (by simpa using hj), bU (by simp; omega)];simpa [e] using this
theorem bC.snoc {w : World} {ps : List P4} {xs : List Int} (h : bC w ps xs) {p : P4} {x : Int} (hp : aJ w (av p) x) : bC w (ps ++ [p]) (xs ++ [x]) := by
 refine ⟨by simp [h.1], fun j hj => ?_⟩;have h1 := h.1;rw [fC hj, bU (by simp at hj ⊢; omega)];by_cases e : j < ps.length
 · have := h.2 j e;rw [fC e, bU (by omega)] at this;rw [List.getElem_append_left e, List.getElem_append_left (by omega)]; exact this
 · have e1 : j = ps.length := by simp at hj; omega
   subst e1;simpa [h1] using hp
theorem bC.nil (w : World) : bC w [] [] := ⟨rfl, fun i h => absurd h (by simp)⟩
theorem bC.pF (w : World) (n : Nat) : bC w (List.replicate n p0) (List.replicate n 0) := ⟨by simp, fun i h => by
 have h : i < n := by simpa using h
 rw [fC (by simpa using h), bU (by simpa using h)]; simp; exact aJ.zero w⟩
theorem bR.mk' {w : World} {b : Nat} {ps : List P4} {tl : List Value} {xs : List Int} (h : ah w b 27 (rn ps tl)) (ht : aN tl) (hn : bC w ps xs) : bR w b xs :=
 ⟨ps, tl, ht, h, hn.1, fun i h1 h2 => by have := hn.2 i h1; rw [fC h1, bU h2] at this; exact this⟩
theorem Fr.l {S0 : Nat -> Prop} {w0 w : World} {es : List En} (h : Fr S0 w0 w es) {L : Nat} {ao : Option Addr} {xs : List Int} (hx : aI w L ao xs) (hS : ∀ e ∈ es, e.wr = false) : Fr S0 w0 w (.ls L ao xs :: es) :=
 h.cons hx (fun e he => ⟨(fun q => nomatch q), fun q => by rw [hS e he] at q; cases q⟩) (fun q => nomatch q)
section
variable {P : Program} {Q : Exit -> Act -> World -> Prop} {ds : List Deferred} {S0 : Nat -> Prop} {w0 : World} {n : Nat} {ls : List (Nat × Value)} {es : List En} {c : Code}
theorem Fr.cellOf {w : World} {e : En} {a : Addr} {v : Value} (h : Fr S0 w0 w es) (hm : e ∈ es) (hwr : e.wr = false) (hS : e.S a.block) (hc : w.cell? a = some v) : Fr S0 w0 w (.cell a v :: es) :=
 h.cons (e := .cell a v) hc (fun e' he' => ⟨(fun q => nomatch q), fun q g hg hg' => by
  obtain rfl : g = a.block := hg';exact h.apart he' hm q hwr hg hS⟩) (fun q => nomatch q)
theorem jq {L : Nat} {xs : List Int} {b o : Nat} (i : Nat) (hm : En.ls L (some ⟨b, o, none⟩) xs ∈ es) (hi : i < xs.length) (k : ∀ p : P4, dS ds P n S0 w0 c Q ls (.cell ⟨b, o + i * 2, none⟩ (.bool p.1) :: .cell ⟨b, o + i * 2 + 1, none⟩ (.slice p.2.1 p.2.2.1 p.2.2.2) :: .at L (av p) (gi xs i) :: es)) : dS ds P n S0 w0 c Q ls es := fun a w ha hw => by
 have hA : aI w L (some ⟨b, o, none⟩) xs := hw.all _ hm;obtain ⟨b', o', e, hb, hc⟩ := hA (by omega);cases e;obtain ⟨p, h0, h1, hx⟩ := hc i hi;rw [<- bU hi] at hx;have hS : (En.ls L (some ⟨b, o, none⟩) xs).S b := ⟨by omega, o, rfl⟩;exact k p a w ha (((hw.pure (e := .at L (av p) (gi xs i)) hx (fun _ h => h)).cellOf (List.mem_cons_of_mem _ hm) rfl hS h1).cellOf (List.mem_cons_of_mem _ (List.mem_cons_of_mem _ hm)) rfl hS h0)
theorem jU {e : En} (he : ∀ w, Fr S0 w0 w es -> e.F w) (k : dS ds P n S0 w0 c Q ls (e :: es)) (hS : ∀ b, ¬ e.S b := by intro b h; exact h) : dS ds P n S0 w0 c Q ls es := fun a w ha hw => k a w ha (hw.pure (he w hw) hS)
end
section
variable {ops : Array Oper} {Q : Exit -> Act -> World -> Prop} {ds : List Deferred} {S0 : Nat -> Prop} {w0 : World} {E0 : List En} {hd : List (List Nat)} {n j s : Nat} {l : List Nat} {G E : List En} {ls : List (Nat × Value)} {op : Op} {ty : TypeId} {pos : String} {af : Array Edge}
theorem mN {sl sc : Operand} {a b : Int} {kl kc : IntKind} (x y : Nat) (hx : a = x) (hy : b = y) (hxy : x <= y) (hb : y <= 8796093022208) (k : ∀ g, cY ds ⟨Try.prog, ops, Q, S0, w0, E0, hd⟩ n l (.row g 27 (rn (List.replicate y p0) []) :: G) E ((s, .slice (some ⟨g, 0, none⟩) x y) :: ls))
 (ho : ops[j]? = some ⟨some s, .makeSlice 22 sl sc, ty, pos, af, none⟩ := by rfl) (hk : (di ls (.makeSlice 22 sl sc) && Nat.blt s n) = true := by kernel_rfl)
 (h1 : cn ls sl = .int kl a := by (simp only [bN, Nat.reduceEqDiff, ↓reduceIte]) <;> rfl) (h2 : cn ls sc = .int kc b := by (simp only [bN, Nat.reduceEqDiff, ↓reduceIte]) <;> rfl) : cY ds ⟨Try.prog, ops, Q, S0, w0, E0, hd⟩ n (j :: l) G E ls := fun A hA => by
 simp only [Bool.and_eq_true] at hk;refine ⟨_, ho, .inr (.inl ⟨rfl, rfl, fun g => .slice (some ⟨g, 0, none⟩) x y, 27, rn (List.replicate y p0) [], ⟨rfl, fun w => ?_⟩, fun g => k g _ (hA.put (Nat.le_of_ble_eq_true hk.2) _)⟩)⟩;rw [hA.exec (o := ⟨some s, .makeSlice 22 sl sc, ty, pos, af, none⟩) hk.1];obtain ⟨i, hi, hz, hs, hbt⟩ := info_parts je;subst hx hy;have hr := run_make (P := Try.prog) w 22 27 i (.agg #[.bool false, .slice none 0 0]) Try.underlying22 hi hz kl kc x y (by omega) (by omega) (by rw [hbt]; omega) (by omega);simp only [Int.toNat_natCast] at hr;have e : madeCells (Value.agg #[.bool false, .slice none 0 0]).cells (y * i.size) = (rn (List.replicate y p0) []).toArray := by
  have := mF y;rw [hs, rn, List.append_nil, <- this]
 simp [execOp, h1, h2, hr, Result.andThen, e]
theorem sN {b i : Nat} {ps ps' : List P4} {tl : List Value} {ad x : Operand} {sty : TypeId} {E' : List En} (q : Nat) (p : P4) (hq : q < ps.length) (ht : aN tl) (hs : ps.set q p = ps')
 (k' : cY ds ⟨Try.prog, ops, Q, S0, w0, E0, hd⟩ n l G E' ls)
 (ho : ops[j]? = some ⟨none, .store sty ad x, ty, pos, af, none⟩ := by rfl) (hk : di ls (.store sty ad x) = true := by kernel_rfl)
 (ha : cn ls ad = .pointer (some ⟨b, q * 2, none⟩) := by (simp only [bN, Nat.reduceEqDiff, ↓reduceIte]) <;> rfl)
 (hv : cn ls x = .agg #[.bool p.1, .slice p.2.1 p.2.2.1 p.2.2.2] := by (simp only [bN, Nat.reduceEqDiff, ↓reduceIte, av]) <;> rfl)
 (hE : Up (.row b 27 (rn ps tl)) (.row b 27 (rn ps' tl)) i E E' := by repeat first | exact .z | apply Up.s)
 (hr : ∀ w u v, w.cell? ⟨b, q * 2, none⟩ = some u -> w.cell? ⟨b, q * 2 + 1, none⟩ = some v -> w.frozen? ⟨b, q * 2, none⟩ = false -> w.frozen? ⟨b, q * 2 + 1, none⟩ = false -> (execOp (cn ls) ⟨none, .store sty ad x, ty, pos, af, none⟩).run Try.prog w = .ok .skip (nF w b (q * 2) [.bool p.1, .slice p.2.1 p.2.2.1 p.2.2.2]) := by intro w u v c0 c1 f0 f1; (try simp only [av]); go_simp <;> rfl)
 (hst : eF ops hd j [i] = true := by kernel_rfl) : cY ds ⟨Try.prog, ops, Q, S0, w0, E0, hd⟩ n (j :: l) G E ls := fun a hA => by
 subst hs;refine ⟨_, ho, .inr (.inr ⟨rfl, rfl, Unit, fun _ => undef, fun _ => G, fun _ => E', [i], ⟨()⟩, fun X w hX hw => ?_, hst, fun _ r hr => hE.other (by simpa using hr), fun _ => k' _ (hA.xV _)⟩)⟩;obtain ⟨m, h1, h2⟩ := hE.right' X G;have hrow : ah w b 27 (rn ps tl) := (hw.perm h1).all _ (List.mem_cons_self ..);refine wU rfl ?_;show me _ _ ((execOp a.eval _).run _ w);rw [hA.exec (o := ⟨none, .store sty ad x, ty, pos, af, none⟩) hk, hr w _ _ ((hrow.cell _).trans (pZ tl hq)) ((hrow.cell _).trans (pY tl hq)) (hrow.free _) (hrow.free _)];exact ⟨(), rfl, hw.st (t := 27) _ _ (.inl ⟨aN.rn ht, by decide⟩) h1 (by rw [xS tl hq]; exact h2)⟩
end
theorem Fr.conv {S0 : Nat -> Prop} {w0 w : World} {es : List En} {e e' : En} (h : Fr S0 w0 w (e :: es)) (h1 : e.F w -> e'.F w) (h2 : ∀ b, e'.S b -> e.S b) (h3 : e'.wr = true -> e.wr = true) : Fr S0 w0 w (e' :: es) := by
 have hp := List.pairwise_cons.1 h.sep;exact h.tl.cons (h1 h.m0) (fun x hx => ⟨fun q b hb => (hp.1 x hx).1 (h3 q) b (h2 b hb), fun q b hb hb' => (hp.1 x hx).2 q b hb (h2 b hb')⟩) (fun q b hb => h.own e (List.mem_cons_self ..) (h3 q) b (h2 b hb))
theorem Fr.lst0 {S0 : Nat -> Prop} {w0 w : World} {es : List En} (h : Fr S0 w0 w es) : Fr S0 w0 w (.fT none 0 0 [] :: es) := h.pure (e := .fT none 0 0 []) ⟨rfl, Nat.le_refl _, .inl ⟨rfl, rfl⟩⟩ (fun b ⟨o, e⟩ => nomatch e)
section
variable {P : Program} {Q : Exit -> Act -> World -> Prop} {ds : List Deferred} {S0 : Nat -> Prop} {w0 : World} {n : Nat} {ls : List (Nat × Value)} {es : List En} {c : Code}
theorem lst0W (k : dS ds P n S0 w0 c Q ls (.fT none 0 0 [] :: es)) : dS ds P n S0 w0 c Q ls es := fun a w ha hw => k a w ha hw.lst0
end
theorem vT {ps : List P4} {tl : List Value} {cap : Nat} (hl : (rn ps tl).length = cap * 2) (h : ps.length < cap) (p : P4) : gg (rn ps tl) (ps.length * 2) [.bool p.1, .slice p.2.1 p.2.2.1 p.2.2.2] = rn (ps ++ [p]) (tl.drop 2) := by
 have hf := aV ps;obtain ⟨a, b, t, rfl⟩ : ∃ a b t, tl = a :: b :: t := by
  rw [rn, List.length_append] at hl;match tl, hl with
  | [], h => simp at h; omega
  | [_], h => simp at h; omega
  | a :: b :: t, _ => exact ⟨a, b, t, rfl⟩
 simp only [gg, rn];rw [List.set_append_right _ _ (by omega), List.set_append_right _ _ (by omega), gZ, show ps.length * 2 - (flat ps).length = 0 by omega, show ps.length * 2 + 1 - (flat ps).length = 1 by omega];simp [flat]
theorem bT.tY (T : Nat -> Prop) (w : World) (o : Obj) : bT T w (w.drew.alloc o) := bT.cM ⟨rfl, rfl, rfl, by simp, fun q hq => qh w _ hq⟩
theorem vp {w : World} {ty : TypeId} {ao : Option Addr} {k cap : Nat} {ps : List P4} (h : mu ao k cap ps w) (hb : k <= 100000000) {ad : Addr} {c : Nat} {p : P4} (h0 : w.cell? ad = some (.bool p.1)) (h1 : w.cell? (ad.add 1) = some (.slice p.2.1 p.2.2.1 p.2.2.2)) :
 ∃ ao' cap' w', (Builtin.append_ #[22, 22] ty #[.slice ao k cap, .slice (some ad) 1 c]).run Try.prog w = .ok (.slice ao' (k + 1) cap') w' /\ mu ao' (k + 1) cap' (ps ++ [p]) w' /\ bT (fun g => ∃ o, ao = some ⟨g, o, none⟩) w w' /\ ∀ g, (∃ o, ao' = some ⟨g, o, none⟩) -> (∃ o, ao = some ⟨g, o, none⟩) ∨ w.heap.size <= g := by
 obtain ⟨i, hi, hz, hsz, hby⟩ := info_parts je;have hn : ∀ j u, [Value.bool p.1, .slice p.2.1 p.2.2.1 p.2.2.2][j]? = some u -> w.cell? (ad.add j) = some u := fun j u hj => by
  match j, hj with
  | 0, hj => cases hj; simpa [Addr.add] using h0
  | 1, hj => cases hj; exact h1
 have hsrc : Src Try.prog i.size 22 (.slice (some ad) 1 c) 1 [Value.bool p.1, .slice p.2.1 p.2.2.1 p.2.2.2] w := Src.ofSlice w Try.underlying22 ad 1 c _ (by rw [hsz]; rfl) hn (by simp [Value.oneCell']);obtain ⟨hk, hkc, hrow⟩ := h;by_cases hroom : k < cap
 · obtain ⟨_, h⟩ | ⟨b, tl, rfl, ht, hr, hl⟩ := hrow
   · omega
   subst hk;have hex : ∀ j, j < cap * 2 -> (w.cell? ⟨b, j, none⟩).isSome = true := fun j hj => by rw [hr.cell, List.getElem?_eq_getElem (by omega)]; rfl
   refine ⟨_, _, _, run_append_room_src w 22 22 ty 27 i Try.underlying22 hi b 0 ps.length cap _ 1 _ hsrc (by omega) (fun j hj => hex _ ?_) (fun j _ => hr.free _), ?_, ?_, fun g hg => .inl hg⟩
   · rw [hsz]; simp at hj; omega
   · rw [hsz, Nat.zero_add];have h2 := hr.nF [.bool p.1, .slice p.2.1 p.2.2.1 p.2.2.2] (ps.length * 2);rw [vT hl hroom] at h2;refine ⟨by simp, by omega, .inr ⟨b, tl.drop 2, rfl, fun v hv => ht v (List.mem_of_mem_drop hv), h2, ?_⟩⟩;have hf := aV ps;rw [rn, List.length_append] at hl;rw [rn, List.length_append, aV]; simp; omega
   · rw [hsz, Nat.zero_add];exact (bT.nF [.bool p.1, .slice p.2.1 p.2.2.1 p.2.2.2] (ps.length * 2) (bT.refl (· = b) w)).mono (fun g _ e => by obtain rfl : g = b := e; exact ⟨0, rfl⟩)
 · obtain rfl : k = cap := by omega
   have hf := aV ps;have hold : (Builtin.firstCells i.size k (.slice ao k k)).run Try.prog w.drew = .ok (flat ps).toArray w.drew := by
    obtain ⟨rfl, h⟩ | ⟨b, tl, rfl, ht, hr, hl⟩ := hrow
    · obtain rfl : ps = [] := List.eq_nil_of_length_eq_zero (by omega);exact run_firstCells_none w.drew i.size k k k
    · refine run_firstCells_some w.drew i.size k _ k k (flat ps) (by rw [hsz]; omega) fun j v hj => ?_;have e : w.drew.cell? ((⟨b, 0, none⟩ : Addr).add j) = w.cell? ⟨b, j, none⟩ := by simp only [Addr.add]; by_cases hj0 : j = 0 <;> simp [hj0]
      rw [e, hr.cell, rn, List.getElem?_append_left (List.getElem?_eq_some_iff.1 hj).1]; exact hj
   refine ⟨_, _, _, run_append_grow_src w 22 22 ty 27 i (.agg #[.bool false, .slice none 0 0]) Try.underlying22 hi hz ao k k (flat ps) hold _ 1 _ hsrc (by omega) (by omega) (growslice_fits (by omega) (by rw [hby]; omega)), ⟨by simp [hk], grownCap_ge .., .inr ⟨_, (Builtin.zeroCells (Value.agg #[.bool false, .slice none 0 0]).cells (grownCap w (k + 1) k 27 - (k + 1))).toList, rfl, sD _, ?_, ?_⟩⟩, bT.tY _ w _, fun g ⟨o, e⟩ => by cases e; exact .inr (Nat.le_refl _)⟩
   · have hnew := ah.new w.drew ((flat ps ++ [Value.bool p.1, .slice p.2.1 p.2.2.1 p.2.2.2]).toArray ++ Builtin.zeroCells (Value.agg #[.bool false, .slice none 0 0]).cells (grownCap w (k + 1) k 27 - (k + 1))) 27;rw [rn, gZ];simpa [flat] using hnew
   · have hge := grownCap_ge w (k + 1) k 27;have hz2 : (Builtin.zeroCells (Value.agg #[.bool false, .slice none 0 0]).cells (grownCap w (k + 1) k 27 - (k + 1))).toList.length = (grownCap w (k + 1) k 27 - (k + 1)) * 2 := by rw [Array.length_toList, size_zeroCells]; rfl
     rw [rn, List.length_append, aV, List.length_append, hz2]; simp; omega
section
variable {ops : Array Oper} {Q : Exit -> Act -> World -> Prop} {ds : List Deferred} {S0 : Nat -> Prop} {w0 : World} {E0 : List En} {hd : List (List Nat)} {n j s : Nat} {l : List Nat} {G E : List En} {ls : List (Nat × Value)} {op : Op} {ty : TypeId} {pos : String} {af : Array Edge}
theorem y6 {i k cap g : Nat} {ao : Option Addr} {ps : List P4} {t : TypeId} {c : Nat} (p : P4) {sa xa : Operand} {E' : Option Addr × Nat -> List En} (hb : k <= 100000000)
 (hm : En.row g t [.bool p.1, .slice p.2.1 p.2.2.1 p.2.2.2] ∈ G ++ E)
 (k' : ∀ q, cY ds ⟨Try.prog, ops, Q, S0, w0, E0, hd⟩ n l G (E' q) ((s, .slice q.1 (k + 1) q.2) :: ls))
 (ho : ops[j]? = some ⟨some s, .call { callee := Callee.builtin Builtin.append, args := #[sa, xa], argTypes := #[22, 22] }, ty, pos, af, none⟩ := by rfl) (hk : (di ls (.call { callee := Callee.builtin Builtin.append, args := #[sa, xa], argTypes := #[22, 22] }) && Nat.blt s n) = true := by kernel_rfl)
 (ha : cn ls sa = .slice ao k cap := by (simp only [bN, Nat.reduceEqDiff, ↓reduceIte]) <;> rfl)
 (hv : cn ls xa = .slice (some ⟨g, 0, none⟩) 1 c := by (simp only [bN, Nat.reduceEqDiff, ↓reduceIte, av]) <;> rfl)
 (hE : ∀ q, Up (.fT ao k cap ps) (.fT q.1 (k + 1) q.2 (ps ++ [p])) i E (E' q) := by intro q; repeat first | exact .z | apply Up.s)
 (hst : eF ops hd j [i] = true := by kernel_rfl) : cY ds ⟨Try.prog, ops, Q, S0, w0, E0, hd⟩ n (j :: l) G E ls := fun a hA => by
 simp only [Bool.and_eq_true] at hk;refine ⟨_, ho, .inr (.inr ⟨rfl, rfl, Option Addr × Nat, fun q => .slice q.1 (k + 1) q.2, fun _ => G, E', [i], ⟨(none, 0)⟩, fun X w hX hw => ?_, hst, fun q r hr => (hE q).other (by simpa using hr), fun q => k' q _ (hA.put (Nat.le_of_ble_eq_true hk.2) _)⟩)⟩;have hrow : ah w g t [.bool p.1, .slice p.2.1 p.2.2.1 p.2.2.2] := hw.all _ (List.mem_append_right _ hm);have hl : mu ao k cap ps w := by
  obtain ⟨m, h1, h2⟩ := (hE (none, 0)).right' X G;exact (hw.perm h1).all _ (List.mem_cons_self ..)
 obtain ⟨ao', cap', w', hrun, h1', hc, hS⟩ := vp (ty := ty) hl hb (ad := ⟨g, 0, none⟩) (c := c) (hrow.cell 0) (hrow.cell 1);obtain ⟨m, h1, h2⟩ := (hE (ao', cap')).right' X G;refine wU rfl ?_;show me _ _ ((execOp a.eval _).run _ w);rw [hA.exec (o := ⟨some s, .call { callee := Callee.builtin Builtin.append, args := #[sa, xa], argTypes := #[22, 22] }, ty, pos, af, none⟩) hk.1];have e : (execOp (cn ls) ⟨some s, .call { callee := Callee.builtin Builtin.append, args := #[sa, xa], argTypes := #[22, 22] }, ty, pos, af, none⟩).run Try.prog w = .ok (.value (.slice ao' (k + 1) cap')) w' := by
  simp [execOp, resolve, invoke, builtin, ha, hv, hrun, Result.andThen]
 rw [e];refine ⟨(ao', cap'), rfl, Fr.perm ((hw.perm h1).bD (e := .fT ao k cap ps) (e' := .fT ao' (k + 1) cap' (ps ++ [p])) rfl hc (fun x hx _ => ?_) (fun _ h => h) h1' hS) h2.symm⟩;rintro b ⟨o, rfl⟩;obtain ⟨_, _, ⟨h, _⟩ | ⟨b', tl, h, ht, hr, _⟩⟩ := hl
 · cases h
 · cases h; exact ⟨_, _, hr, aN.rn ht, by decide⟩
end
section
variable {P : Program} {ops : Array Oper} {Q : Exit -> Act -> World -> Prop} {ds : List Deferred} {S0 : Nat -> Prop} {w0 : World} {E0 : List En} {hd : List (List Nat)} {n j s : Nat} {l : List Nat} {G E : List En} {ls : List (Nat × Value)} {op : Op} {ty : TypeId} {pos : String} {af : Array Edge} {f : FuncId} {args : Array Value}
end
section
variable {P : Program} {Q : Exit -> Act -> World -> Prop} {ds : List Deferred} {S0 : Nat -> Prop} {w0 : World} {n : Nat} {ls : List (Nat × Value)} {es : List En} {c : Code}
end
section
variable {P : Program} {ops : Array Oper} {Q : Exit -> Act -> World -> Prop} {ds : List Deferred} {S0 : Nat -> Prop} {w0 : World} {E0 : List En} {hd : List (List Nat)} {n j s : Nat} {l : List Nat} {G E : List En} {ls : List (Nat × Value)} {op : Op} {ty : TypeId} {pos : String} {af : Array Edge} {f : FuncId} {args : Array Value}
theorem bW {t : TypeId} {cs : List Value} {m : Nat} (k : ∀ g, cY ds ⟨P, ops, Q, S0, w0, E0, hd⟩ n l (.row g t cs :: G) E ((s, .slice (some ⟨g, 0, none⟩) m m) :: ls))
 (ho : ops[j]? = some ⟨some s, op, ty, pos, af, none⟩ := by rfl) (hk : (!bw op && cK op && di ls op && Nat.blt s n) = true := by kernel_rfl)
 (hr : ∀ w, (execOp (cn ls) ⟨some s, op, ty, pos, af, none⟩).run P w = .ok (.value (.slice (some ⟨w.heap.size, 0, none⟩) m m)) (w.alloc (.cells cs.toArray t (0, 0))) := by intro w; (try simp only [av]); go_simp <;> with_reducible rfl) : cY ds ⟨P, ops, Q, S0, w0, E0, hd⟩ n (j :: l) G E ls := fun a ha => by
 simp only [Bool.and_eq_true, Bool.not_eq_true'] at hk;refine ⟨_, ho, .inr (.inl ⟨hk.1.1.1, hk.1.1.2, fun g => .slice (some ⟨g, 0, none⟩) m m, t, cs, ⟨rfl, fun w => ?_⟩, fun g => k g _ (ha.put (Nat.le_of_ble_eq_true hk.2) _)⟩)⟩;rw [ha.exec hk.1.2];exact hr w
end
theorem aI.pos {w : World} {L : Nat} {ao : Option Addr} {xs : List Int} (h : aI w L ao xs) {i : Nat} (hi : i < xs.length) : ∃ b o, ao = some ⟨b, o, none⟩ := by
 obtain ⟨b, o, e, _⟩ := h (by omega);exact ⟨b, o, e⟩
theorem kE {w : World} {ao : Option Addr} {k cap : Nat} {ps : List P4} {xs : List Int} (h : mu ao k cap ps w) (hn : bC w ps xs) : dT w ao xs := fun hl => by
 obtain ⟨h1, _, ⟨_, h2⟩ | ⟨b, tl, rfl, ht, hr, _⟩⟩ := h
 · have := hn.1; omega
 · exact (bR.mk' hr ht hn).lsN hl
theorem nT {ls : List (Nat × Value)} {w : World} {t b : Nat} {x y z : Value} (h : ah w b 24 [x, y, z]) (h1 : dP ls (.tmp t) = true := by kernel_rfl) (h2 : cn ls (.tmp t) = .pointer (some ⟨b, 0, none⟩) := by (simp only [bN, Nat.reduceEqDiff, ↓reduceIte]) <;> rfl) : dV Try.prog ls w (.cell t 24) (.agg #[x, y, z]) :=
 ⟨h1, _, h2, run_loadVar_row w b 24 24 #[x, y, z] (0, 0) _ h Try.underlying24 rfl (by kernel_rfl)⟩
section
variable {P : Program} {ops : Array Oper} {Q : Exit -> Act -> World -> Prop} {ds : List Deferred} {S0 : Nat -> Prop} {w0 : World} {E0 : List En} {hd : List (List Nat)} {n j s sg g : Nat} {l : List Nat} {G E : List En} {ls : List (Nat × Value)} {op : Op} {ty : TypeId} {pos : String} {af : Array Edge} {f : FuncId} {args : Array Value} {v : Value} {want : Bool}
theorem cGg {α : Type} {mk : α -> Value} {ens : α -> List En} (c : ∀ w, Fr S0 w0 w (G ++ E) -> Calls P f args w fun e w' => ∃ p, e = .returned (mk p) /\ Nw w w' (ens p))
 (k : ∀ p, cY ds ⟨P, ops, Q, S0, w0, E0, hd⟩ n l (ens p ++ G) E ((s, mk p) :: ls))
 (ho : ops[j]? = some ⟨some s, op, ty, pos, af, some (g, want)⟩ := by rfl) (hk : (!bw op && !cK op && di ls op && Nat.blt s n) = true := by kernel_rfl)
 (hg : (ops[g]?).bind (·.dst) = some sg := by rfl) (hi : dP ls (.tmp sg) = true := by kernel_rfl) (hb : cn ls (.tmp sg) = .bool want := by (simp only [bN, Nat.reduceEqDiff, ↓reduceIte]) <;> first | rfl | simp [*])
 (hr : ∀ w, (execOp (cn ls) ⟨some s, op, ty, pos, af, some (g, want)⟩).run P w = .ok (.enter f args) w := by intro w; (try simp only [av]); go_simp <;> with_reducible rfl) (hne : Nonempty α := by infer_instance)
 (hst : eF ops hd j [] = true := by kernel_rfl) : cY ds ⟨P, ops, Q, S0, w0, E0, hd⟩ n (j :: l) G E ls := fun a ha => by
 simp only [Bool.and_eq_true, Bool.not_eq_true'] at hk;refine ⟨_, ho, .inr (.inr ⟨hk.1.1.1, hk.1.1.2, α, mk, fun p => ens p ++ G, fun _ => E, [], hne, fun X w hX hw => ?_, hst, fun _ _ _ => rfl, fun p => k p _ (ha.put (Nat.le_of_ble_eq_true hk.2) _)⟩)⟩;rw [if_pos (by rw [iz ha hg hi hb]; simp)];show me P _ ((execOp a.eval _).run P w);rw [ha.exec hk.1.2, hr w];refine (c w (hw.sub (List.sublist_append_right ..))).mono ?_;rintro e w' ⟨p, rfl, hn⟩;refine ⟨_, rfl, p, rfl, (hn.fr hw).perm ?_⟩;rw [List.append_assoc];exact (List.perm_append_comm_assoc (ens p) X (G ++ E))
theorem xr (c : ∀ w, Fr S0 w0 w (G ++ E) -> Calls P f args w fun e w' => e = .returned v /\ Below w.heap.size w w')
 (k : cY ds ⟨P, ops, Q, S0, w0, E0, hd⟩ n l G E ((s, v) :: ls))
 (ho : ops[j]? = some ⟨some s, op, ty, pos, af, some (g, want)⟩ := by rfl) (hk : (!bw op && !cK op && di ls op && Nat.blt s n) = true := by kernel_rfl)
 (hg : (ops[g]?).bind (·.dst) = some sg := by rfl) (hi : dP ls (.tmp sg) = true := by kernel_rfl) (hb : cn ls (.tmp sg) = .bool want := by (simp only [bN, Nat.reduceEqDiff, ↓reduceIte]) <;> first | rfl | simp [*])
 (hr : ∀ w, (execOp (cn ls) ⟨some s, op, ty, pos, af, some (g, want)⟩).run P w = .ok (.enter f args) w := by intro w; (try simp only [av]); go_simp <;> with_reducible rfl)
 (hst : eF ops hd j [] = true := by kernel_rfl) : cY ds ⟨P, ops, Q, S0, w0, E0, hd⟩ n (j :: l) G E ls := by
 refine cGg (α := Unit) (mk := fun _ => v) (ens := fun _ => []) (fun w hw => (c w hw).mono ?_) (fun _ => k) ho hk hg hi hb hr ⟨()⟩ hst;rintro e w' ⟨rfl, hb⟩;exact ⟨(), rfl, hb, fun e he => (List.not_mem_nil he).elim, .nil⟩
theorem uC (k : cY ds ⟨P, ops, Q, S0, w0, E0, hd⟩ n l G E ((s, undef) :: ls))
 (ho : ops[j]? = some ⟨some s, op, ty, pos, af, some (g, want)⟩ := by rfl) (hk : (!bw op && !cK op && Nat.blt s n) = true := by kernel_rfl)
 (hg : (ops[g]?).bind (·.dst) = some sg := by rfl) (hi : dP ls (.tmp sg) = true := by kernel_rfl) (hb : cn ls (.tmp sg) = .bool (!want) := by (simp only [bN, Nat.reduceEqDiff, ↓reduceIte]) <;> first | rfl | simp [*])
 (hst : eF ops hd j [] = true := by kernel_rfl) : cY ds ⟨P, ops, Q, S0, w0, E0, hd⟩ n (j :: l) G E ls := fun a ha => by
 simp only [Bool.and_eq_true, Bool.not_eq_true'] at hk;refine ⟨_, ho, .inr (.inr ⟨hk.1.1, hk.1.2, Unit, fun _ => undef, fun _ => G, fun _ => E, [], ⟨()⟩, fun X w hX hw => ?_, hst, fun _ _ _ => rfl, fun _ => k _ (ha.put (Nat.le_of_ble_eq_true hk.2) _)⟩)⟩;rw [if_neg (by rw [iz ha hg hi hb]; simp)];exact ⟨(), rfl, hw⟩
end
theorem cNo' {P : Program} {f : FuncId} {args : Array Value} {w : World} {B : Nat} {x : Int} (h : Calls P f args w fun e w' => (∃ v, e = .returned v /\ ak w' w.heap.size v x) /\ Below w.heap.size w w') (hB : B <= w.heap.size) : Calls P f args w fun e w' => ∃ p : P4, e = .returned (av p) /\ Nw w w' [.own B (av p) x] := h.mono fun e w' ⟨⟨v, he, hv⟩, hb⟩ => by
 subst he;obtain ⟨b, ao, l', k', rfl⟩ := ak.parts hv;exact ⟨(b, ao, l', k'), rfl, hb, fun e he => by
  rcases List.mem_singleton.1 he with rfl;exact ⟨ak.mono hv hB, fun _ h => h.elim⟩, List.pairwise_singleton ..⟩
section
variable {ops : Array Oper} {Q : Exit -> Act -> World -> Prop} {ds : List Deferred} {S0 : Nat -> Prop} {w0 : World} {E0 : List En} {hd : List (List Nat)} {n j s : Nat} {l : List Nat} {G E : List En} {ls : List (Nat × Value)} {ty : TypeId} {pos : String} {af : Array Edge}
end
theorem cQ {a : Nat} (h : a < 9223372036854775807) : Value.int .i64 (IntKind.i64.wrap ((a : Int) + 1)) = .int .i64 ((a + 1 : Nat) : Int) := by
 rw [wrap_small] <;> first | rfl | omega
theorem ph {a b : Nat} (h : a + b < 9223372036854775807) : Value.int .i64 (IntKind.i64.wrap ((a : Int) + b)) = .int .i64 ((a + b : Nat) : Int) := by
 rw [wrap_small] <;> first | rfl | omega
theorem kK {a b : Nat} (h : a * b < 9223372036854775808) : Value.int .i64 (IntKind.i64.wrap ((a : Int) * b)) = .int .i64 ((a * b : Nat) : Int) := by
 rw [<- Int.natCast_mul, wrap_small] <;> first | rfl | omega
theorem minI (a b : Nat) : Value.int .i64 (min (a : Int) b) = .int .i64 ((min a b : Nat) : Int) := by congr 1; omega
theorem Fr.ln {S0 : Nat -> Prop} {w0 w : World} {es : List En} (h : Fr S0 w0 w es) {ao : Option Addr} {xs : List Int} (hx : dT w ao xs) (hS : ∀ e ∈ es, e.wr = false) : Fr S0 w0 w (.gI ao xs :: es) :=
 h.cons hx (fun e he => ⟨(fun q => nomatch q), fun q => by rw [hS e he] at q; cases q⟩) (fun q => nomatch q)
theorem dT.pos {w : World} {ao : Option Addr} {xs : List Int} (h : dT w ao xs) {i : Nat} (hi : i < xs.length) : ∃ b o, ao = some ⟨b, o, none⟩ := by
 obtain ⟨b, o, e, _⟩ := h (by omega);exact ⟨b, o, e⟩
section
variable {P : Program} {Q : Exit -> Act -> World -> Prop} {ds : List Deferred} {S0 : Nat -> Prop} {w0 : World} {n : Nat} {ls : List (Nat × Value)} {es : List En} {c : Code}
theorem xb {xs : List Int} {b o : Nat} (i : Nat) (hm : En.gI (some ⟨b, o, none⟩) xs ∈ es) (hi : i < xs.length) (k : ∀ p : P4, dS ds P n S0 w0 c Q ls (.cell ⟨b, o + i * 2, none⟩ (.bool p.1) :: .cell ⟨b, o + i * 2 + 1, none⟩ (.slice p.2.1 p.2.2.1 p.2.2.2) :: .num (av p) (gi xs i) :: es)) : dS ds P n S0 w0 c Q ls es := fun a w ha hw => by
 have hA : dT w (some ⟨b, o, none⟩) xs := hw.all _ hm;obtain ⟨b', o', e, hb, hc⟩ := hA (by omega);cases e;obtain ⟨p, h0, h1, hx⟩ := hc i hi;rw [<- bU hi] at hx;have hS : (En.gI (some ⟨b, o, none⟩) xs).S b := ⟨by omega, o, rfl⟩;exact k p a w ha (((hw.pure (e := .num (av p) (gi xs i)) hx (fun _ h => h)).cellOf (List.mem_cons_of_mem _ hm) rfl hS h1).cellOf (List.mem_cons_of_mem _ (List.mem_cons_of_mem _ hm)) rfl hS h0)
end
theorem vi {n : Nat} (h0 : 0 < n) (h : n < W) : eu n = [n] := by
 have e := fA (Ok.one h);have hv : aa [n] = n := by simp [aa]
 have hw : ag n = 1 := by
  have e1 : ag n ≠ 0 := fun e => by have := ct.1 e; omega
  have e2 : ag n <= 1 := au (by simpa using h);omega
 have ht := bh (Ok.one h);rw [hv, hw] at ht;rw [hv, <- ht] at e;simpa using e
theorem gC {n : Nat} (h0 : 0 < n) (h : n < W) : ag n = 1 := by
 have e1 : ag n ≠ 0 := fun e => by have := ct.1 e; omega
 have e2 : ag n <= 1 := au (by simpa using h);omega
theorem vn {r c i j : Nat} (hi : i < r) (hj : j < c) : i * c + j < r * c := by
 have h1 : (i + 1) * c <= r * c := Nat.mul_le_mul_right _ hi;have h2 : (i + 1) * c = i * c + c := Nat.succ_mul i c;omega
section
variable {P : Program} {ops : Array Oper} {Q : Exit -> Act -> World -> Prop} {ds : List Deferred} {S0 : Nat -> Prop} {w0 : World} {E0 : List En} {n j s sg g : Nat} {l : List Nat} {G E : List En} {ls : List (Nat × Value)} {op : Op} {ty : TypeId} {pos : String} {af : Array Edge} {v v' : Value} {want : Bool}
theorem dGE (hv : v' = v) (k : cY ds ⟨P, ops, Q, S0, w0, E0, []⟩ n l G E ((s, v) :: ls))
 (ho : ops[j]? = some ⟨some s, op, ty, pos, af, some (g, want)⟩ := by rfl) (hk : (bw op && di ls op && Nat.blt s n) = true := by kernel_rfl)
 (hg : (ops[g]?).bind (·.dst) = some sg := by rfl) (hi : dP ls (.tmp sg) = true := by kernel_rfl) (hb : cn ls (.tmp sg) = .bool want := by (simp only [bN, Nat.reduceEqDiff, ↓reduceIte]) <;> first | rfl | simp [*])
 (hr : ∀ w, (nP op = true -> Fr S0 w0 w E0) -> (execOp (cn ls) ⟨some s, op, ty, pos, af, some (g, want)⟩).run P w = .ok (.value v') w := by intro w H; (first | (have c := (H rfl).c; try simp only [qx, cl, List.cons_append, List.nil_append] at c) | skip); clear H; go_simp <;> with_reducible rfl) : cY ds ⟨P, ops, Q, S0, w0, E0, []⟩ n (j :: l) G E ls :=
 dG k ho hk hg hi hb (by rw [<- hv]; exact hr)
end
theorem Fr.cl {S0 : Nat -> Prop} {w0 w : World} {es : List En} (h : Fr S0 w0 w es) {a : Addr} {v : Value} (hc : w.cell? a = some v) (hS : ∀ e ∈ es, e.wr = false) : Fr S0 w0 w (.cell a v :: es) :=
 h.cons (e := .cell a v) hc (fun e he => ⟨(fun q => nomatch q), fun q => by rw [hS e he] at q; cases q⟩) (fun q => nomatch q)
end Go.Proofs.Ytjjlmfmoihooiaa
namespace Go.Proofs.Ytjjlmfmoihooiaa
def aA (c : Nat) (f : Nat -> Nat -> Int) (k : Nat) : List Int := (List.range k).map fun q => f (q / c) (q % c)
theorem aB (c : Nat) (f : Nat -> Nat -> Int) (k : Nat) : (aA c f k).length = k := by simp [aA]
theorem mY {c i j : Nat} (f : Nat -> Nat -> Int) (hj : j < c) : aA c f (i * c + j + 1) = aA c f (i * c + j) ++ [f i j] := by
 have h1 : (i * c + j) / c = i := by rw [Nat.mul_comm, Nat.mul_add_div (by omega), Nat.div_eq_of_lt hj]; rfl
 have h2 : (i * c + j) % c = j := by rw [Nat.mul_comm, Nat.mul_add_mod, Nat.mod_eq_of_lt hj]
 unfold aA;rw [List.range_succ, List.map_append];simp [h1, h2]
theorem eO {r c i j : Nat} (f : Nat -> Nat -> Int) (hi : i < r) (hj : j < c) : (aA c f (r * c)).getD (i * c + j) 0 = f i j := by
 have h1 : (i * c + j) / c = i := by rw [Nat.mul_comm, Nat.mul_add_div (by omega), Nat.div_eq_of_lt hj]; rfl
 have h2 : (i * c + j) % c = j := by rw [Nat.mul_comm, Nat.mul_add_mod, Nat.mod_eq_of_lt hj]
 have h3 : (i + 1) * c <= r * c := Nat.mul_le_mul_right _ hi;have h4 : (i + 1) * c = i * c + c := Nat.succ_mul i c;unfold aA;rw [List.getD_eq_getElem?_getD, List.getElem?_map, List.getElem?_range (by omega)];simp [h1, h2]
end Go.Proofs.Ytjjlmfmoihooiaa
